-- Written by drive.py, a program of this seat's session, out of the translation.
import Derived.Test.YtbamkkdikeedoaaProg
import Derived.Below
import Derived.Deep.Draws
import Derived.Deep.AppendLies
import Derived.Maps.AppendAt
import Derived.OwnWalk
import Derived.Laws.BytesArg
import Derived.Laws.MakeOwn
import Derived.Laws.OwnMore
import Derived.Deep.OwnRows
import Derived.Tactics
import Derived.Lib.ConvBytes
import Derived.Laws.Slices
import Derived.WalkKit
import Derived.KernelRfl
import Derived.RowKit3
import Derived.Deep.LoopGhost
import Derived.Deep.QuietTactic
import Derived.BigQuiet
import Derived.WideLaws
import Derived.Deep.DeepCutAuto
import Derived.Deep.CutBlock
import Derived.Deep.RegionHeld3
import Derived.Laws.Rows
import Derived.Lib.AppendStr
import Derived.ArgAppend
import Derived.Laws.IdiomCopy
import Derived.OrdersHeld
import Derived.Laws.BitsLemmas
import Derived.RowKit
import Derived.Test.YtbamkkdikeedoaaWWords
import Derived.Test.YtbamkkdikeedoaaWLast
import Derived.Test.YtbamkkdikeedoaaWTab
import Derived.Test.YtbamkkdikeedoaaWFour
import Derived.Test.YtbamkkdikeedoaaWQPut
import Derived.Test.YtbamkkdikeedoaaWApart
import Derived.Test.YtbamkkdikeedoaaWArr
import Derived.Test.YtbamkkdikeedoaaWZeros
import Derived.Test.YtbamkkdikeedoaaWFoot
import Derived.Test.YtbamkkdikeedoaaWKept
import Derived.Test.YtbamkkdikeedoaaWShare
import Derived.Test.YtbamkkdikeedoaaWN
import Derived.Test.YtbamkkdikeedoaaWFootNe
import Derived.Test.YtbamkkdikeedoaaWAt
import Derived.Test.YtbamkkdikeedoaaWEqStruct
import Derived.Test.YtbamkkdikeedoaaWRepsOne
import Derived.Test.YtbamkkdikeedoaaWInv
import Derived.Test.YtbamkkdikeedoaaWInvWords
import Derived.Test.YtbamkkdikeedoaaWGuard
import Derived.Test.YtbamkkdikeedoaaWNEv
import Derived.Test.YtbamkkdikeedoaaWMore
namespace Go.Proofs.Ytbamkkdikeedoaa.G
open Go.RowKit Go.Proofs.YtbamkkdikeedoaaW.PrintWords Go.Proofs.YtbamkkdikeedoaaW.PrintLast Go.Proofs.YtbamkkdikeedoaaW.PrintMore
attribute [local go_sem] max2_int min2_int max_two min_two max_three min_three max_four min_four   -- for this text's walks alone
set_option linter.unusedVariables false
set_option linter.unusedSimpArgs false



def errW : Option Int → Value
  | none => .nilIface
  | some c => .iface 0 (.int .i64 c)
theorem errW_none : errW none = .nilIface := rfl
theorem errW_some (c : Int) : errW (some c) = .iface 0 (.int .i64 c) := rfl

theorem info2 : (Try.prog.info? 2).map (fun i => (i.zero, i.size, i.bytes)) = some (some (.int .i64 0), 1, 8) := by kernel_rfl
theorem info3 : (Try.prog.info? 3).map (fun i => (i.zero, i.size, i.bytes)) = some (some (.int .i64 0), 1, 8) := by kernel_rfl
theorem info23 : (Try.prog.info? 23).map (fun i => (i.zero, i.size, i.bytes)) = some (some (.slice none 0 0), 1, 24) := by kernel_rfl
theorem info26 : (Try.prog.info? 26).map (fun i => (i.zero, i.size, i.bytes)) = some (some (.agg #[(.int .i64 0), (.int .i64 0), (.int .i64 0), (.int .i64 0), (.bool false), (.bool false), (.bool false)]), 7, 40) := by kernel_rfl
theorem info33 : (Try.prog.info? 33).map (fun i => (i.zero, i.size, i.bytes)) = some (some (.slice none 0 0), 1, 24) := by kernel_rfl
theorem info46 : (Try.prog.info? 46).map (fun i => (i.zero, i.size, i.bytes)) = some (some (.agg #[(.int .i64 0), (.int .i64 0)]), 2, 16) := by kernel_rfl
theorem info52 : (Try.prog.info? 52).map (fun i => (i.zero, i.size, i.bytes)) = some (some (.int .u32 0), 1, 4) := by kernel_rfl
-- the values' own types
/-! #### struct type 26 -/
structure S26 where
  f0 : Int
  f1 : Int
  f2 : Int
  f3 : Int
  f4 : Bool
  f5 : Bool
  f6 : Bool
def z26 : S26 := ⟨(0 : Int), (0 : Int), (0 : Int), (0 : Int), false, false, false⟩
def k26 : Kd S26 := Kd.iso (Kd.pair (Kd.int .i64) (Kd.pair (Kd.int .i64) (Kd.pair (Kd.int .i64) (Kd.pair (Kd.int .i64) (Kd.pair Kd.bool (Kd.pair Kd.bool Kd.bool)))))) (fun x : S26 => (x.f0, x.f1, x.f2, x.f3, x.f4, x.f5, x.f6))
theorem k26_open {w : World} {x : S26} {cs : List Value} (h : k26.K w x cs) : cs = [.int .i64 x.f0, .int .i64 x.f1, .int .i64 x.f2, .int .i64 x.f3, .bool x.f4, .bool x.f5, .bool x.f6] := by
  obtain ⟨_, _, rfl, rfl, ⟨_, _, rfl, rfl, ⟨_, _, rfl, rfl, ⟨_, _, rfl, rfl, ⟨_, _, rfl, rfl, ⟨_, _, rfl, rfl, rfl⟩⟩⟩⟩⟩⟩ := h
  exact rfl
theorem k26_openM {w : World} {base : Nat} {ok : Nat → Prop} {x : S26} {cs : List Value} (h : k26.M w base ok x cs) : cs = [.int .i64 x.f0, .int .i64 x.f1, .int .i64 x.f2, .int .i64 x.f3, .bool x.f4, .bool x.f5, .bool x.f6] := by
  obtain ⟨_, _, rfl, rfl, ⟨_, _, rfl, rfl, ⟨_, _, rfl, rfl, ⟨_, _, rfl, rfl, ⟨_, _, rfl, rfl, ⟨_, _, rfl, rfl, rfl⟩⟩⟩⟩⟩⟩ := h
  exact rfl
theorem k26_mk (w : World) (x : S26)  : k26.K w x [.int .i64 x.f0, .int .i64 x.f1, .int .i64 x.f2, .int .i64 x.f3, .bool x.f4, .bool x.f5, .bool x.f6] := ⟨[.int .i64 x.f0], [.int .i64 x.f1, .int .i64 x.f2, .int .i64 x.f3, .bool x.f4, .bool x.f5, .bool x.f6], rfl, rfl, ⟨[.int .i64 x.f1], [.int .i64 x.f2, .int .i64 x.f3, .bool x.f4, .bool x.f5, .bool x.f6], rfl, rfl, ⟨[.int .i64 x.f2], [.int .i64 x.f3, .bool x.f4, .bool x.f5, .bool x.f6], rfl, rfl, ⟨[.int .i64 x.f3], [.bool x.f4, .bool x.f5, .bool x.f6], rfl, rfl, ⟨[.bool x.f4], [.bool x.f5, .bool x.f6], rfl, rfl, ⟨[.bool x.f5], [.bool x.f6], rfl, rfl, rfl⟩⟩⟩⟩⟩⟩
theorem k26_mkM (w : World) (base : Nat) (ok : Nat → Prop) (x : S26)  : k26.M w base ok x [.int .i64 x.f0, .int .i64 x.f1, .int .i64 x.f2, .int .i64 x.f3, .bool x.f4, .bool x.f5, .bool x.f6] := ⟨[.int .i64 x.f0], [.int .i64 x.f1, .int .i64 x.f2, .int .i64 x.f3, .bool x.f4, .bool x.f5, .bool x.f6], rfl, rfl, ⟨[.int .i64 x.f1], [.int .i64 x.f2, .int .i64 x.f3, .bool x.f4, .bool x.f5, .bool x.f6], rfl, rfl, ⟨[.int .i64 x.f2], [.int .i64 x.f3, .bool x.f4, .bool x.f5, .bool x.f6], rfl, rfl, ⟨[.int .i64 x.f3], [.bool x.f4, .bool x.f5, .bool x.f6], rfl, rfl, ⟨[.bool x.f4], [.bool x.f5, .bool x.f6], rfl, rfl, ⟨[.bool x.f5], [.bool x.f6], rfl, rfl, rfl⟩⟩⟩⟩⟩⟩
theorem k26_mkF (W : World) (ok : Nat → Prop) (x : S26) : Kd.FK k26 W ok x [.int .i64 x.f0, .int .i64 x.f1, .int .i64 x.f2, .int .i64 x.f3, .bool x.f4, .bool x.f5, .bool x.f6] := fun W2 _ => k26_mk W2 x
def rd_T26 (xs : List S26) (i : Int) : S26 := xs.getD i.toNat z26
theorem at_T26 {w : World} {A : Option Addr} {n : Nat} {xs : List S26} (h : Kd.C k26 w A n xs) (i : Int) (h0 : 0 ≤ i) (h1 : i < n) : ∃ ad , A = some ad ∧ w.cell? (ad.add (i.toNat * 7)) = some (.int .i64 (rd_T26 xs i).f0) ∧ w.cell? ⟨(ad.add (i.toNat * 7)).block, (ad.add (i.toNat * 7)).off + 1, none⟩ = some (.int .i64 (rd_T26 xs i).f1) ∧ w.cell? ⟨(ad.add (i.toNat * 7)).block, (ad.add (i.toNat * 7)).off + 2, none⟩ = some (.int .i64 (rd_T26 xs i).f2) ∧ w.cell? ⟨(ad.add (i.toNat * 7)).block, (ad.add (i.toNat * 7)).off + 3, none⟩ = some (.int .i64 (rd_T26 xs i).f3) ∧ w.cell? ⟨(ad.add (i.toNat * 7)).block, (ad.add (i.toNat * 7)).off + 4, none⟩ = some (.bool (rd_T26 xs i).f4) ∧ w.cell? ⟨(ad.add (i.toNat * 7)).block, (ad.add (i.toNat * 7)).off + 5, none⟩ = some (.bool (rd_T26 xs i).f5) ∧ w.cell? ⟨(ad.add (i.toNat * 7)).block, (ad.add (i.toNat * 7)).off + 6, none⟩ = some (.bool (rd_T26 xs i).f6) := by
  obtain ⟨ad, c, e, _, hK, hc0⟩ := Kd.C_get h z26 i h0 h1
  have hc : ∀ j u, c[j]? = some u → w.cell? (ad.add (i.toNat * 7 + j)) = some u := hc0
  obtain rfl := k26_open hK
  exact ⟨ad, e, hc 0 _ rfl, by rw [← add_field _ _ 1 (by omega)]; exact hc 1 _ rfl, by rw [← add_field _ _ 2 (by omega)]; exact hc 2 _ rfl, by rw [← add_field _ _ 3 (by omega)]; exact hc 3 _ rfl, by rw [← add_field _ _ 4 (by omega)]; exact hc 4 _ rfl, by rw [← add_field _ _ 5 (by omega)]; exact hc 5 _ rfl, by rw [← add_field _ _ 6 (by omega)]; exact hc 6 _ rfl⟩

def rd_L4 (xs : List (List Int)) (i : Int) : (List Int) := xs.getD i.toNat ([] : List Int)
theorem at_L4 {w : World} {A : Option Addr} {n : Nat} {xs : List (List Int)} (h : Kd.C (Kd.slice 2 (Kd.int .i64)) w A n xs) (i : Int) (h0 : 0 ≤ i) (h1 : i < n) : ∃ ad A0 c0, A = some ad ∧ w.cell? (ad.add i.toNat) = some (.slice A0 (rd_L4 xs i).length c0) ∧ (rd_L4 xs i).length ≤ c0 ∧ (Kd.int .i64).C w A0 (rd_L4 xs i).length (rd_L4 xs i) := by
  obtain ⟨ad, c, e, _, hK, hc0⟩ := Kd.C_get h ([] : List Int) i h0 h1
  have hc : ∀ j u, c[j]? = some u → w.cell? (ad.add (i.toNat * 1 + j)) = some u := hc0
  obtain ⟨A0, c0, rfl, l0, g0⟩ := hK
  exact ⟨ad, A0, c0, e, by have hq := hc 0 _ rfl; rwa [Nat.mul_one, Nat.add_zero] at hq, l0, g0⟩

def rd_L5 (xs : List (List Int)) (i : Int) : (List Int) := xs.getD i.toNat ([] : List Int)
theorem at_L5 {w : World} {A : Option Addr} {n : Nat} {xs : List (List Int)} (h : Kd.C (Kd.slice 3 (Kd.int .i64)) w A n xs) (i : Int) (h0 : 0 ≤ i) (h1 : i < n) : ∃ ad A0 c0, A = some ad ∧ w.cell? (ad.add i.toNat) = some (.slice A0 (rd_L5 xs i).length c0) ∧ (rd_L5 xs i).length ≤ c0 ∧ (Kd.int .i64).C w A0 (rd_L5 xs i).length (rd_L5 xs i) := by
  obtain ⟨ad, c, e, _, hK, hc0⟩ := Kd.C_get h ([] : List Int) i h0 h1
  have hc : ∀ j u, c[j]? = some u → w.cell? (ad.add (i.toNat * 1 + j)) = some u := hc0
  obtain ⟨A0, c0, rfl, l0, g0⟩ := hK
  exact ⟨ad, A0, c0, e, by have hq := hc 0 _ rfl; rwa [Nat.mul_one, Nat.add_zero] at hq, l0, g0⟩

def rd_L6 (xs : List (List S26)) (i : Int) : (List S26) := xs.getD i.toNat ([] : List S26)
theorem at_L6 {w : World} {A : Option Addr} {n : Nat} {xs : List (List S26)} (h : Kd.C (Kd.slice 26 k26) w A n xs) (i : Int) (h0 : 0 ≤ i) (h1 : i < n) : ∃ ad A0 c0, A = some ad ∧ w.cell? (ad.add i.toNat) = some (.slice A0 (rd_L6 xs i).length c0) ∧ (rd_L6 xs i).length ≤ c0 ∧ k26.C w A0 (rd_L6 xs i).length (rd_L6 xs i) := by
  obtain ⟨ad, c, e, _, hK, hc0⟩ := Kd.C_get h ([] : List S26) i h0 h1
  have hc : ∀ j u, c[j]? = some u → w.cell? (ad.add (i.toNat * 1 + j)) = some u := hc0
  obtain ⟨A0, c0, rfl, l0, g0⟩ := hK
  exact ⟨ad, A0, c0, e, by have hq := hc 0 _ rfl; rwa [Nat.mul_one, Nat.add_zero] at hq, l0, g0⟩

def rd_L7 (xs : List (List Int)) (i : Int) : (List Int) := xs.getD i.toNat ([] : List Int)
theorem at_L7 {w : World} {A : Option Addr} {n : Nat} {xs : List (List Int)} (h : Kd.C (Kd.slice 52 (Kd.int .u32)) w A n xs) (i : Int) (h0 : 0 ≤ i) (h1 : i < n) : ∃ ad A0 c0, A = some ad ∧ w.cell? (ad.add i.toNat) = some (.slice A0 (rd_L7 xs i).length c0) ∧ (rd_L7 xs i).length ≤ c0 ∧ (Kd.int .u32).C w A0 (rd_L7 xs i).length (rd_L7 xs i) := by
  obtain ⟨ad, c, e, _, hK, hc0⟩ := Kd.C_get h ([] : List Int) i h0 h1
  have hc : ∀ j u, c[j]? = some u → w.cell? (ad.add (i.toNat * 1 + j)) = some u := hc0
  obtain ⟨A0, c0, rfl, l0, g0⟩ := hK
  exact ⟨ad, A0, c0, e, by have hq := hc 0 _ rfl; rwa [Nat.mul_one, Nat.add_zero] at hq, l0, g0⟩

def rd_L8 (xs : List (List (List Int))) (i : Int) : (List (List Int)) := xs.getD i.toNat ([] : List (List Int))
theorem at_L8 {w : World} {A : Option Addr} {n : Nat} {xs : List (List (List Int))} (h : Kd.C (Kd.slice 23 (Kd.slice 2 (Kd.int .i64))) w A n xs) (i : Int) (h0 : 0 ≤ i) (h1 : i < n) : ∃ ad A0 c0, A = some ad ∧ w.cell? (ad.add i.toNat) = some (.slice A0 (rd_L8 xs i).length c0) ∧ (rd_L8 xs i).length ≤ c0 ∧ (Kd.slice 2 (Kd.int .i64)).C w A0 (rd_L8 xs i).length (rd_L8 xs i) := by
  obtain ⟨ad, c, e, _, hK, hc0⟩ := Kd.C_get h ([] : List (List Int)) i h0 h1
  have hc : ∀ j u, c[j]? = some u → w.cell? (ad.add (i.toNat * 1 + j)) = some u := hc0
  obtain ⟨A0, c0, rfl, l0, g0⟩ := hK
  exact ⟨ad, A0, c0, e, by have hq := hc 0 _ rfl; rwa [Nat.mul_one, Nat.add_zero] at hq, l0, g0⟩

/-! #### struct type 31 -/
structure S31 where
  f0 : (List S26)
  f1 : (List Int)
  f2 : (List Int)
  f3 : (List Int)
  f4 : (List Int)
  f5 : (List Int)
  f6 : (List (List Int))
def z31 : S31 := ⟨([] : List S26), ([] : List Int), ([] : List Int), ([] : List Int), ([] : List Int), ([] : List Int), ([] : List (List Int))⟩
def k31 : Kd S31 := Kd.iso (Kd.pair (Kd.slice 26 k26) (Kd.pair (Kd.slice 52 (Kd.int .u32)) (Kd.pair (Kd.slice 52 (Kd.int .u32)) (Kd.pair (Kd.slice 52 (Kd.int .u32)) (Kd.pair (Kd.slice 52 (Kd.int .u32)) (Kd.pair (Kd.slice 52 (Kd.int .u32)) (Kd.slice 23 (Kd.slice 2 (Kd.int .i64))))))))) (fun x : S31 => (x.f0, x.f1, x.f2, x.f3, x.f4, x.f5, x.f6))
theorem k31_open {w : World} {x : S31} {cs : List Value} (h : k31.K w x cs) : ∃ A0 c0 A1 c1 A2 c2 A3 c3 A4 c4 A5 c5 A6 c6, cs = [.slice A0 x.f0.length c0, .slice A1 x.f1.length c1, .slice A2 x.f2.length c2, .slice A3 x.f3.length c3, .slice A4 x.f4.length c4, .slice A5 x.f5.length c5, .slice A6 x.f6.length c6] ∧ x.f0.length ≤ c0 ∧ k26.C w A0 x.f0.length x.f0 ∧ x.f1.length ≤ c1 ∧ (Kd.int .u32).C w A1 x.f1.length x.f1 ∧ x.f2.length ≤ c2 ∧ (Kd.int .u32).C w A2 x.f2.length x.f2 ∧ x.f3.length ≤ c3 ∧ (Kd.int .u32).C w A3 x.f3.length x.f3 ∧ x.f4.length ≤ c4 ∧ (Kd.int .u32).C w A4 x.f4.length x.f4 ∧ x.f5.length ≤ c5 ∧ (Kd.int .u32).C w A5 x.f5.length x.f5 ∧ x.f6.length ≤ c6 ∧ (Kd.slice 2 (Kd.int .i64)).C w A6 x.f6.length x.f6 := by
  obtain ⟨_, _, rfl, ⟨A0, c0, rfl, l0, g0⟩, ⟨_, _, rfl, ⟨A1, c1, rfl, l1, g1⟩, ⟨_, _, rfl, ⟨A2, c2, rfl, l2, g2⟩, ⟨_, _, rfl, ⟨A3, c3, rfl, l3, g3⟩, ⟨_, _, rfl, ⟨A4, c4, rfl, l4, g4⟩, ⟨_, _, rfl, ⟨A5, c5, rfl, l5, g5⟩, ⟨A6, c6, rfl, l6, g6⟩⟩⟩⟩⟩⟩⟩ := h
  exact ⟨A0, c0, A1, c1, A2, c2, A3, c3, A4, c4, A5, c5, A6, c6, rfl, l0, g0, l1, g1, l2, g2, l3, g3, l4, g4, l5, g5, l6, g6⟩
theorem k31_openM {w : World} {base : Nat} {ok : Nat → Prop} {x : S31} {cs : List Value} (h : k31.M w base ok x cs) : ∃ v0 v1 v2 v3 v4 v5 v6, cs = [v0, v1, v2, v3, v4, v5, v6] ∧ k26.R 26 w base ok v0 x.f0 ∧ (Kd.int .u32).R 52 w base ok v1 x.f1 ∧ (Kd.int .u32).R 52 w base ok v2 x.f2 ∧ (Kd.int .u32).R 52 w base ok v3 x.f3 ∧ (Kd.int .u32).R 52 w base ok v4 x.f4 ∧ (Kd.int .u32).R 52 w base ok v5 x.f5 ∧ (Kd.slice 2 (Kd.int .i64)).R 23 w base ok v6 x.f6 := by
  obtain ⟨_, _, rfl, ⟨v0, rfl, g0⟩, ⟨_, _, rfl, ⟨v1, rfl, g1⟩, ⟨_, _, rfl, ⟨v2, rfl, g2⟩, ⟨_, _, rfl, ⟨v3, rfl, g3⟩, ⟨_, _, rfl, ⟨v4, rfl, g4⟩, ⟨_, _, rfl, ⟨v5, rfl, g5⟩, ⟨v6, rfl, g6⟩⟩⟩⟩⟩⟩⟩ := h
  exact ⟨v0, v1, v2, v3, v4, v5, v6, rfl, g0, g1, g2, g3, g4, g5, g6⟩
theorem k31_mk (w : World) (x : S31) {A0 : Option Addr} {c0 : Nat} (l0 : x.f0.length ≤ c0) (g0 : k26.C w A0 x.f0.length x.f0) {A1 : Option Addr} {c1 : Nat} (l1 : x.f1.length ≤ c1) (g1 : (Kd.int .u32).C w A1 x.f1.length x.f1) {A2 : Option Addr} {c2 : Nat} (l2 : x.f2.length ≤ c2) (g2 : (Kd.int .u32).C w A2 x.f2.length x.f2) {A3 : Option Addr} {c3 : Nat} (l3 : x.f3.length ≤ c3) (g3 : (Kd.int .u32).C w A3 x.f3.length x.f3) {A4 : Option Addr} {c4 : Nat} (l4 : x.f4.length ≤ c4) (g4 : (Kd.int .u32).C w A4 x.f4.length x.f4) {A5 : Option Addr} {c5 : Nat} (l5 : x.f5.length ≤ c5) (g5 : (Kd.int .u32).C w A5 x.f5.length x.f5) {A6 : Option Addr} {c6 : Nat} (l6 : x.f6.length ≤ c6) (g6 : (Kd.slice 2 (Kd.int .i64)).C w A6 x.f6.length x.f6) : k31.K w x [.slice A0 x.f0.length c0, .slice A1 x.f1.length c1, .slice A2 x.f2.length c2, .slice A3 x.f3.length c3, .slice A4 x.f4.length c4, .slice A5 x.f5.length c5, .slice A6 x.f6.length c6] := ⟨[.slice A0 x.f0.length c0], [.slice A1 x.f1.length c1, .slice A2 x.f2.length c2, .slice A3 x.f3.length c3, .slice A4 x.f4.length c4, .slice A5 x.f5.length c5, .slice A6 x.f6.length c6], rfl, ⟨A0, c0, rfl, l0, g0⟩, ⟨[.slice A1 x.f1.length c1], [.slice A2 x.f2.length c2, .slice A3 x.f3.length c3, .slice A4 x.f4.length c4, .slice A5 x.f5.length c5, .slice A6 x.f6.length c6], rfl, ⟨A1, c1, rfl, l1, g1⟩, ⟨[.slice A2 x.f2.length c2], [.slice A3 x.f3.length c3, .slice A4 x.f4.length c4, .slice A5 x.f5.length c5, .slice A6 x.f6.length c6], rfl, ⟨A2, c2, rfl, l2, g2⟩, ⟨[.slice A3 x.f3.length c3], [.slice A4 x.f4.length c4, .slice A5 x.f5.length c5, .slice A6 x.f6.length c6], rfl, ⟨A3, c3, rfl, l3, g3⟩, ⟨[.slice A4 x.f4.length c4], [.slice A5 x.f5.length c5, .slice A6 x.f6.length c6], rfl, ⟨A4, c4, rfl, l4, g4⟩, ⟨[.slice A5 x.f5.length c5], [.slice A6 x.f6.length c6], rfl, ⟨A5, c5, rfl, l5, g5⟩, ⟨A6, c6, rfl, l6, g6⟩⟩⟩⟩⟩⟩⟩
theorem k31_mkM (w : World) (base : Nat) (ok : Nat → Prop) (x : S31) {v0 : Value} (g0 : k26.R 26 w base ok v0 x.f0) {v1 : Value} (g1 : (Kd.int .u32).R 52 w base ok v1 x.f1) {v2 : Value} (g2 : (Kd.int .u32).R 52 w base ok v2 x.f2) {v3 : Value} (g3 : (Kd.int .u32).R 52 w base ok v3 x.f3) {v4 : Value} (g4 : (Kd.int .u32).R 52 w base ok v4 x.f4) {v5 : Value} (g5 : (Kd.int .u32).R 52 w base ok v5 x.f5) {v6 : Value} (g6 : (Kd.slice 2 (Kd.int .i64)).R 23 w base ok v6 x.f6) : k31.M w base ok x [v0, v1, v2, v3, v4, v5, v6] := ⟨[v0], [v1, v2, v3, v4, v5, v6], rfl, ⟨v0, rfl, g0⟩, ⟨[v1], [v2, v3, v4, v5, v6], rfl, ⟨v1, rfl, g1⟩, ⟨[v2], [v3, v4, v5, v6], rfl, ⟨v2, rfl, g2⟩, ⟨[v3], [v4, v5, v6], rfl, ⟨v3, rfl, g3⟩, ⟨[v4], [v5, v6], rfl, ⟨v4, rfl, g4⟩, ⟨[v5], [v6], rfl, ⟨v5, rfl, g5⟩, ⟨v6, rfl, g6⟩⟩⟩⟩⟩⟩⟩
theorem k31_openF {W : World} {ok : Nat → Prop} {x : S31} {cs : List Value} (h : Kd.FK k31 W ok x cs) : ∃ A0 c0 A1 c1 A2 c2 A3 c3 A4 c4 A5 c5 A6 c6, cs = [.slice A0 x.f0.length c0, .slice A1 x.f1.length c1, .slice A2 x.f2.length c2, .slice A3 x.f3.length c3, .slice A4 x.f4.length c4, .slice A5 x.f5.length c5, .slice A6 x.f6.length c6] ∧ x.f0.length ≤ c0 ∧ Kd.F k26 W ok A0 x.f0.length x.f0 ∧ x.f1.length ≤ c1 ∧ Kd.F (Kd.int .u32) W ok A1 x.f1.length x.f1 ∧ x.f2.length ≤ c2 ∧ Kd.F (Kd.int .u32) W ok A2 x.f2.length x.f2 ∧ x.f3.length ≤ c3 ∧ Kd.F (Kd.int .u32) W ok A3 x.f3.length x.f3 ∧ x.f4.length ≤ c4 ∧ Kd.F (Kd.int .u32) W ok A4 x.f4.length x.f4 ∧ x.f5.length ≤ c5 ∧ Kd.F (Kd.int .u32) W ok A5 x.f5.length x.f5 ∧ x.f6.length ≤ c6 ∧ Kd.F (Kd.slice 2 (Kd.int .i64)) W ok A6 x.f6.length x.f6 := by
  obtain ⟨A0, c0, A1, c1, A2, c2, A3, c3, A4, c4, A5, c5, A6, c6, rfl, l0, _, l1, _, l2, _, l3, _, l4, _, l5, _, l6, _⟩ := k31_open (Kd.FK_now h)
  exact ⟨A0, c0, A1, c1, A2, c2, A3, c3, A4, c4, A5, c5, A6, c6, rfl, l0, (fun W' hW => by obtain ⟨A0_, c0_, A1_, c1_, A2_, c2_, A3_, c3_, A4_, c4_, A5_, c5_, A6_, c6_, he, l0_, g0_, l1_, g1_, l2_, g2_, l3_, g3_, l4_, g4_, l5_, g5_, l6_, g6_⟩ := k31_open (h W' hW); injection (Option.some.inj (show some (Value.slice A0 x.f0.length c0) = some (Value.slice A0_ x.f0.length c0_) from congrArg (fun l => l[0]?) he)) with ha_ _ _; rw [ha_]; exact g0_), l1, (fun W' hW => by obtain ⟨A0_, c0_, A1_, c1_, A2_, c2_, A3_, c3_, A4_, c4_, A5_, c5_, A6_, c6_, he, l0_, g0_, l1_, g1_, l2_, g2_, l3_, g3_, l4_, g4_, l5_, g5_, l6_, g6_⟩ := k31_open (h W' hW); injection (Option.some.inj (show some (Value.slice A1 x.f1.length c1) = some (Value.slice A1_ x.f1.length c1_) from congrArg (fun l => l[1]?) he)) with ha_ _ _; rw [ha_]; exact g1_), l2, (fun W' hW => by obtain ⟨A0_, c0_, A1_, c1_, A2_, c2_, A3_, c3_, A4_, c4_, A5_, c5_, A6_, c6_, he, l0_, g0_, l1_, g1_, l2_, g2_, l3_, g3_, l4_, g4_, l5_, g5_, l6_, g6_⟩ := k31_open (h W' hW); injection (Option.some.inj (show some (Value.slice A2 x.f2.length c2) = some (Value.slice A2_ x.f2.length c2_) from congrArg (fun l => l[2]?) he)) with ha_ _ _; rw [ha_]; exact g2_), l3, (fun W' hW => by obtain ⟨A0_, c0_, A1_, c1_, A2_, c2_, A3_, c3_, A4_, c4_, A5_, c5_, A6_, c6_, he, l0_, g0_, l1_, g1_, l2_, g2_, l3_, g3_, l4_, g4_, l5_, g5_, l6_, g6_⟩ := k31_open (h W' hW); injection (Option.some.inj (show some (Value.slice A3 x.f3.length c3) = some (Value.slice A3_ x.f3.length c3_) from congrArg (fun l => l[3]?) he)) with ha_ _ _; rw [ha_]; exact g3_), l4, (fun W' hW => by obtain ⟨A0_, c0_, A1_, c1_, A2_, c2_, A3_, c3_, A4_, c4_, A5_, c5_, A6_, c6_, he, l0_, g0_, l1_, g1_, l2_, g2_, l3_, g3_, l4_, g4_, l5_, g5_, l6_, g6_⟩ := k31_open (h W' hW); injection (Option.some.inj (show some (Value.slice A4 x.f4.length c4) = some (Value.slice A4_ x.f4.length c4_) from congrArg (fun l => l[4]?) he)) with ha_ _ _; rw [ha_]; exact g4_), l5, (fun W' hW => by obtain ⟨A0_, c0_, A1_, c1_, A2_, c2_, A3_, c3_, A4_, c4_, A5_, c5_, A6_, c6_, he, l0_, g0_, l1_, g1_, l2_, g2_, l3_, g3_, l4_, g4_, l5_, g5_, l6_, g6_⟩ := k31_open (h W' hW); injection (Option.some.inj (show some (Value.slice A5 x.f5.length c5) = some (Value.slice A5_ x.f5.length c5_) from congrArg (fun l => l[5]?) he)) with ha_ _ _; rw [ha_]; exact g5_), l6, (fun W' hW => by obtain ⟨A0_, c0_, A1_, c1_, A2_, c2_, A3_, c3_, A4_, c4_, A5_, c5_, A6_, c6_, he, l0_, g0_, l1_, g1_, l2_, g2_, l3_, g3_, l4_, g4_, l5_, g5_, l6_, g6_⟩ := k31_open (h W' hW); injection (Option.some.inj (show some (Value.slice A6 x.f6.length c6) = some (Value.slice A6_ x.f6.length c6_) from congrArg (fun l => l[6]?) he)) with ha_ _ _; rw [ha_]; exact g6_)⟩
theorem k31_mkF (W : World) (ok : Nat → Prop) (x : S31) {A0 : Option Addr} {c0 : Nat} (l0 : x.f0.length ≤ c0) (g0 : Kd.F k26 W ok A0 x.f0.length x.f0) {A1 : Option Addr} {c1 : Nat} (l1 : x.f1.length ≤ c1) (g1 : Kd.F (Kd.int .u32) W ok A1 x.f1.length x.f1) {A2 : Option Addr} {c2 : Nat} (l2 : x.f2.length ≤ c2) (g2 : Kd.F (Kd.int .u32) W ok A2 x.f2.length x.f2) {A3 : Option Addr} {c3 : Nat} (l3 : x.f3.length ≤ c3) (g3 : Kd.F (Kd.int .u32) W ok A3 x.f3.length x.f3) {A4 : Option Addr} {c4 : Nat} (l4 : x.f4.length ≤ c4) (g4 : Kd.F (Kd.int .u32) W ok A4 x.f4.length x.f4) {A5 : Option Addr} {c5 : Nat} (l5 : x.f5.length ≤ c5) (g5 : Kd.F (Kd.int .u32) W ok A5 x.f5.length x.f5) {A6 : Option Addr} {c6 : Nat} (l6 : x.f6.length ≤ c6) (g6 : Kd.F (Kd.slice 2 (Kd.int .i64)) W ok A6 x.f6.length x.f6) : Kd.FK k31 W ok x [.slice A0 x.f0.length c0, .slice A1 x.f1.length c1, .slice A2 x.f2.length c2, .slice A3 x.f3.length c3, .slice A4 x.f4.length c4, .slice A5 x.f5.length c5, .slice A6 x.f6.length c6] := fun W2 hW => k31_mk W2 x l0 (g0 W2 hW) l1 (g1 W2 hW) l2 (g2 W2 hW) l3 (g3 W2 hW) l4 (g4 W2 hW) l5 (g5 W2 hW) l6 (g6 W2 hW)
def rd_T31 (xs : List S31) (i : Int) : S31 := xs.getD i.toNat z31
theorem at_T31 {w : World} {A : Option Addr} {n : Nat} {xs : List S31} (h : Kd.C k31 w A n xs) (i : Int) (h0 : 0 ≤ i) (h1 : i < n) : ∃ ad A0 c0 A1 c1 A2 c2 A3 c3 A4 c4 A5 c5 A6 c6, A = some ad ∧ w.cell? (ad.add (i.toNat * 7)) = some (.slice A0 (rd_T31 xs i).f0.length c0) ∧ w.cell? ⟨(ad.add (i.toNat * 7)).block, (ad.add (i.toNat * 7)).off + 1, none⟩ = some (.slice A1 (rd_T31 xs i).f1.length c1) ∧ w.cell? ⟨(ad.add (i.toNat * 7)).block, (ad.add (i.toNat * 7)).off + 2, none⟩ = some (.slice A2 (rd_T31 xs i).f2.length c2) ∧ w.cell? ⟨(ad.add (i.toNat * 7)).block, (ad.add (i.toNat * 7)).off + 3, none⟩ = some (.slice A3 (rd_T31 xs i).f3.length c3) ∧ w.cell? ⟨(ad.add (i.toNat * 7)).block, (ad.add (i.toNat * 7)).off + 4, none⟩ = some (.slice A4 (rd_T31 xs i).f4.length c4) ∧ w.cell? ⟨(ad.add (i.toNat * 7)).block, (ad.add (i.toNat * 7)).off + 5, none⟩ = some (.slice A5 (rd_T31 xs i).f5.length c5) ∧ w.cell? ⟨(ad.add (i.toNat * 7)).block, (ad.add (i.toNat * 7)).off + 6, none⟩ = some (.slice A6 (rd_T31 xs i).f6.length c6) ∧ (rd_T31 xs i).f0.length ≤ c0 ∧ k26.C w A0 (rd_T31 xs i).f0.length (rd_T31 xs i).f0 ∧ (rd_T31 xs i).f1.length ≤ c1 ∧ (Kd.int .u32).C w A1 (rd_T31 xs i).f1.length (rd_T31 xs i).f1 ∧ (rd_T31 xs i).f2.length ≤ c2 ∧ (Kd.int .u32).C w A2 (rd_T31 xs i).f2.length (rd_T31 xs i).f2 ∧ (rd_T31 xs i).f3.length ≤ c3 ∧ (Kd.int .u32).C w A3 (rd_T31 xs i).f3.length (rd_T31 xs i).f3 ∧ (rd_T31 xs i).f4.length ≤ c4 ∧ (Kd.int .u32).C w A4 (rd_T31 xs i).f4.length (rd_T31 xs i).f4 ∧ (rd_T31 xs i).f5.length ≤ c5 ∧ (Kd.int .u32).C w A5 (rd_T31 xs i).f5.length (rd_T31 xs i).f5 ∧ (rd_T31 xs i).f6.length ≤ c6 ∧ (Kd.slice 2 (Kd.int .i64)).C w A6 (rd_T31 xs i).f6.length (rd_T31 xs i).f6 := by
  obtain ⟨ad, c, e, _, hK, hc0⟩ := Kd.C_get h z31 i h0 h1
  have hc : ∀ j u, c[j]? = some u → w.cell? (ad.add (i.toNat * 7 + j)) = some u := hc0
  obtain ⟨A0, c0, A1, c1, A2, c2, A3, c3, A4, c4, A5, c5, A6, c6, rfl, l0, g0, l1, g1, l2, g2, l3, g3, l4, g4, l5, g5, l6, g6⟩ := k31_open hK
  exact ⟨ad, A0, c0, A1, c1, A2, c2, A3, c3, A4, c4, A5, c5, A6, c6, e, hc 0 _ rfl, by rw [← add_field _ _ 1 (by omega)]; exact hc 1 _ rfl, by rw [← add_field _ _ 2 (by omega)]; exact hc 2 _ rfl, by rw [← add_field _ _ 3 (by omega)]; exact hc 3 _ rfl, by rw [← add_field _ _ 4 (by omega)]; exact hc 4 _ rfl, by rw [← add_field _ _ 5 (by omega)]; exact hc 5 _ rfl, by rw [← add_field _ _ 6 (by omega)]; exact hc 6 _ rfl, l0, g0, l1, g1, l2, g2, l3, g3, l4, g4, l5, g5, l6, g6⟩

def rd_L10 (xs : List (List (List Int))) (i : Int) : (List (List Int)) := xs.getD i.toNat ([] : List (List Int))
theorem at_L10 {w : World} {A : Option Addr} {n : Nat} {xs : List (List (List Int))} (h : Kd.C (Kd.slice 33 (Kd.slice 3 (Kd.int .i64))) w A n xs) (i : Int) (h0 : 0 ≤ i) (h1 : i < n) : ∃ ad A0 c0, A = some ad ∧ w.cell? (ad.add i.toNat) = some (.slice A0 (rd_L10 xs i).length c0) ∧ (rd_L10 xs i).length ≤ c0 ∧ (Kd.slice 3 (Kd.int .i64)).C w A0 (rd_L10 xs i).length (rd_L10 xs i) := by
  obtain ⟨ad, c, e, _, hK, hc0⟩ := Kd.C_get h ([] : List (List Int)) i h0 h1
  have hc : ∀ j u, c[j]? = some u → w.cell? (ad.add (i.toNat * 1 + j)) = some u := hc0
  obtain ⟨A0, c0, rfl, l0, g0⟩ := hK
  exact ⟨ad, A0, c0, e, by have hq := hc 0 _ rfl; rwa [Nat.mul_one, Nat.add_zero] at hq, l0, g0⟩

/-! #### struct type 46 -/
structure S46 where
  f0 : Int
  f1 : Int
def z46 : S46 := ⟨(0 : Int), (0 : Int)⟩
def k46 : Kd S46 := Kd.iso (Kd.pair (Kd.int .i64) (Kd.int .i64)) (fun x : S46 => (x.f0, x.f1))
theorem k46_open {w : World} {x : S46} {cs : List Value} (h : k46.K w x cs) : cs = [.int .i64 x.f0, .int .i64 x.f1] := by
  obtain ⟨_, _, rfl, rfl, rfl⟩ := h
  exact rfl
theorem k46_openM {w : World} {base : Nat} {ok : Nat → Prop} {x : S46} {cs : List Value} (h : k46.M w base ok x cs) : cs = [.int .i64 x.f0, .int .i64 x.f1] := by
  obtain ⟨_, _, rfl, rfl, rfl⟩ := h
  exact rfl
theorem k46_mk (w : World) (x : S46)  : k46.K w x [.int .i64 x.f0, .int .i64 x.f1] := ⟨[.int .i64 x.f0], [.int .i64 x.f1], rfl, rfl, rfl⟩
theorem k46_mkM (w : World) (base : Nat) (ok : Nat → Prop) (x : S46)  : k46.M w base ok x [.int .i64 x.f0, .int .i64 x.f1] := ⟨[.int .i64 x.f0], [.int .i64 x.f1], rfl, rfl, rfl⟩
theorem k46_mkF (W : World) (ok : Nat → Prop) (x : S46) : Kd.FK k46 W ok x [.int .i64 x.f0, .int .i64 x.f1] := fun W2 _ => k46_mk W2 x
def rd_T46 (xs : List S46) (i : Int) : S46 := xs.getD i.toNat z46
theorem at_T46 {w : World} {A : Option Addr} {n : Nat} {xs : List S46} (h : Kd.C k46 w A n xs) (i : Int) (h0 : 0 ≤ i) (h1 : i < n) : ∃ ad , A = some ad ∧ w.cell? (ad.add (i.toNat * 2)) = some (.int .i64 (rd_T46 xs i).f0) ∧ w.cell? ⟨(ad.add (i.toNat * 2)).block, (ad.add (i.toNat * 2)).off + 1, none⟩ = some (.int .i64 (rd_T46 xs i).f1) := by
  obtain ⟨ad, c, e, _, hK, hc0⟩ := Kd.C_get h z46 i h0 h1
  have hc : ∀ j u, c[j]? = some u → w.cell? (ad.add (i.toNat * 2 + j)) = some u := hc0
  obtain rfl := k46_open hK
  exact ⟨ad, e, hc 0 _ rfl, by rw [← add_field _ _ 1 (by omega)]; exact hc 1 _ rfl⟩

/-! #### struct type 76 -/
structure S76 where
  f0 : (List S26)
  f1 : (List Int)
  f2 : (List Int)
  f3 : (List Int)
  f4 : (List Int)
  f5 : (List Int)
  f6 : (List (List Int))
def z76 : S76 := ⟨([] : List S26), ([] : List Int), ([] : List Int), ([] : List Int), ([] : List Int), ([] : List Int), ([] : List (List Int))⟩
def k76 : Kd S76 := Kd.iso (Kd.pair (Kd.slice 26 k26) (Kd.pair (Kd.slice 52 (Kd.int .u32)) (Kd.pair (Kd.slice 52 (Kd.int .u32)) (Kd.pair (Kd.slice 52 (Kd.int .u32)) (Kd.pair (Kd.slice 52 (Kd.int .u32)) (Kd.pair (Kd.slice 52 (Kd.int .u32)) (Kd.slice 23 (Kd.slice 2 (Kd.int .i64))))))))) (fun x : S76 => (x.f0, x.f1, x.f2, x.f3, x.f4, x.f5, x.f6))
theorem k76_open {w : World} {x : S76} {cs : List Value} (h : k76.K w x cs) : ∃ A0 c0 A1 c1 A2 c2 A3 c3 A4 c4 A5 c5 A6 c6, cs = [.slice A0 x.f0.length c0, .slice A1 x.f1.length c1, .slice A2 x.f2.length c2, .slice A3 x.f3.length c3, .slice A4 x.f4.length c4, .slice A5 x.f5.length c5, .slice A6 x.f6.length c6] ∧ x.f0.length ≤ c0 ∧ k26.C w A0 x.f0.length x.f0 ∧ x.f1.length ≤ c1 ∧ (Kd.int .u32).C w A1 x.f1.length x.f1 ∧ x.f2.length ≤ c2 ∧ (Kd.int .u32).C w A2 x.f2.length x.f2 ∧ x.f3.length ≤ c3 ∧ (Kd.int .u32).C w A3 x.f3.length x.f3 ∧ x.f4.length ≤ c4 ∧ (Kd.int .u32).C w A4 x.f4.length x.f4 ∧ x.f5.length ≤ c5 ∧ (Kd.int .u32).C w A5 x.f5.length x.f5 ∧ x.f6.length ≤ c6 ∧ (Kd.slice 2 (Kd.int .i64)).C w A6 x.f6.length x.f6 := by
  obtain ⟨_, _, rfl, ⟨A0, c0, rfl, l0, g0⟩, ⟨_, _, rfl, ⟨A1, c1, rfl, l1, g1⟩, ⟨_, _, rfl, ⟨A2, c2, rfl, l2, g2⟩, ⟨_, _, rfl, ⟨A3, c3, rfl, l3, g3⟩, ⟨_, _, rfl, ⟨A4, c4, rfl, l4, g4⟩, ⟨_, _, rfl, ⟨A5, c5, rfl, l5, g5⟩, ⟨A6, c6, rfl, l6, g6⟩⟩⟩⟩⟩⟩⟩ := h
  exact ⟨A0, c0, A1, c1, A2, c2, A3, c3, A4, c4, A5, c5, A6, c6, rfl, l0, g0, l1, g1, l2, g2, l3, g3, l4, g4, l5, g5, l6, g6⟩
theorem k76_openM {w : World} {base : Nat} {ok : Nat → Prop} {x : S76} {cs : List Value} (h : k76.M w base ok x cs) : ∃ v0 v1 v2 v3 v4 v5 v6, cs = [v0, v1, v2, v3, v4, v5, v6] ∧ k26.R 26 w base ok v0 x.f0 ∧ (Kd.int .u32).R 52 w base ok v1 x.f1 ∧ (Kd.int .u32).R 52 w base ok v2 x.f2 ∧ (Kd.int .u32).R 52 w base ok v3 x.f3 ∧ (Kd.int .u32).R 52 w base ok v4 x.f4 ∧ (Kd.int .u32).R 52 w base ok v5 x.f5 ∧ (Kd.slice 2 (Kd.int .i64)).R 23 w base ok v6 x.f6 := by
  obtain ⟨_, _, rfl, ⟨v0, rfl, g0⟩, ⟨_, _, rfl, ⟨v1, rfl, g1⟩, ⟨_, _, rfl, ⟨v2, rfl, g2⟩, ⟨_, _, rfl, ⟨v3, rfl, g3⟩, ⟨_, _, rfl, ⟨v4, rfl, g4⟩, ⟨_, _, rfl, ⟨v5, rfl, g5⟩, ⟨v6, rfl, g6⟩⟩⟩⟩⟩⟩⟩ := h
  exact ⟨v0, v1, v2, v3, v4, v5, v6, rfl, g0, g1, g2, g3, g4, g5, g6⟩
theorem k76_mk (w : World) (x : S76) {A0 : Option Addr} {c0 : Nat} (l0 : x.f0.length ≤ c0) (g0 : k26.C w A0 x.f0.length x.f0) {A1 : Option Addr} {c1 : Nat} (l1 : x.f1.length ≤ c1) (g1 : (Kd.int .u32).C w A1 x.f1.length x.f1) {A2 : Option Addr} {c2 : Nat} (l2 : x.f2.length ≤ c2) (g2 : (Kd.int .u32).C w A2 x.f2.length x.f2) {A3 : Option Addr} {c3 : Nat} (l3 : x.f3.length ≤ c3) (g3 : (Kd.int .u32).C w A3 x.f3.length x.f3) {A4 : Option Addr} {c4 : Nat} (l4 : x.f4.length ≤ c4) (g4 : (Kd.int .u32).C w A4 x.f4.length x.f4) {A5 : Option Addr} {c5 : Nat} (l5 : x.f5.length ≤ c5) (g5 : (Kd.int .u32).C w A5 x.f5.length x.f5) {A6 : Option Addr} {c6 : Nat} (l6 : x.f6.length ≤ c6) (g6 : (Kd.slice 2 (Kd.int .i64)).C w A6 x.f6.length x.f6) : k76.K w x [.slice A0 x.f0.length c0, .slice A1 x.f1.length c1, .slice A2 x.f2.length c2, .slice A3 x.f3.length c3, .slice A4 x.f4.length c4, .slice A5 x.f5.length c5, .slice A6 x.f6.length c6] := ⟨[.slice A0 x.f0.length c0], [.slice A1 x.f1.length c1, .slice A2 x.f2.length c2, .slice A3 x.f3.length c3, .slice A4 x.f4.length c4, .slice A5 x.f5.length c5, .slice A6 x.f6.length c6], rfl, ⟨A0, c0, rfl, l0, g0⟩, ⟨[.slice A1 x.f1.length c1], [.slice A2 x.f2.length c2, .slice A3 x.f3.length c3, .slice A4 x.f4.length c4, .slice A5 x.f5.length c5, .slice A6 x.f6.length c6], rfl, ⟨A1, c1, rfl, l1, g1⟩, ⟨[.slice A2 x.f2.length c2], [.slice A3 x.f3.length c3, .slice A4 x.f4.length c4, .slice A5 x.f5.length c5, .slice A6 x.f6.length c6], rfl, ⟨A2, c2, rfl, l2, g2⟩, ⟨[.slice A3 x.f3.length c3], [.slice A4 x.f4.length c4, .slice A5 x.f5.length c5, .slice A6 x.f6.length c6], rfl, ⟨A3, c3, rfl, l3, g3⟩, ⟨[.slice A4 x.f4.length c4], [.slice A5 x.f5.length c5, .slice A6 x.f6.length c6], rfl, ⟨A4, c4, rfl, l4, g4⟩, ⟨[.slice A5 x.f5.length c5], [.slice A6 x.f6.length c6], rfl, ⟨A5, c5, rfl, l5, g5⟩, ⟨A6, c6, rfl, l6, g6⟩⟩⟩⟩⟩⟩⟩
theorem k76_mkM (w : World) (base : Nat) (ok : Nat → Prop) (x : S76) {v0 : Value} (g0 : k26.R 26 w base ok v0 x.f0) {v1 : Value} (g1 : (Kd.int .u32).R 52 w base ok v1 x.f1) {v2 : Value} (g2 : (Kd.int .u32).R 52 w base ok v2 x.f2) {v3 : Value} (g3 : (Kd.int .u32).R 52 w base ok v3 x.f3) {v4 : Value} (g4 : (Kd.int .u32).R 52 w base ok v4 x.f4) {v5 : Value} (g5 : (Kd.int .u32).R 52 w base ok v5 x.f5) {v6 : Value} (g6 : (Kd.slice 2 (Kd.int .i64)).R 23 w base ok v6 x.f6) : k76.M w base ok x [v0, v1, v2, v3, v4, v5, v6] := ⟨[v0], [v1, v2, v3, v4, v5, v6], rfl, ⟨v0, rfl, g0⟩, ⟨[v1], [v2, v3, v4, v5, v6], rfl, ⟨v1, rfl, g1⟩, ⟨[v2], [v3, v4, v5, v6], rfl, ⟨v2, rfl, g2⟩, ⟨[v3], [v4, v5, v6], rfl, ⟨v3, rfl, g3⟩, ⟨[v4], [v5, v6], rfl, ⟨v4, rfl, g4⟩, ⟨[v5], [v6], rfl, ⟨v5, rfl, g5⟩, ⟨v6, rfl, g6⟩⟩⟩⟩⟩⟩⟩
theorem k76_openF {W : World} {ok : Nat → Prop} {x : S76} {cs : List Value} (h : Kd.FK k76 W ok x cs) : ∃ A0 c0 A1 c1 A2 c2 A3 c3 A4 c4 A5 c5 A6 c6, cs = [.slice A0 x.f0.length c0, .slice A1 x.f1.length c1, .slice A2 x.f2.length c2, .slice A3 x.f3.length c3, .slice A4 x.f4.length c4, .slice A5 x.f5.length c5, .slice A6 x.f6.length c6] ∧ x.f0.length ≤ c0 ∧ Kd.F k26 W ok A0 x.f0.length x.f0 ∧ x.f1.length ≤ c1 ∧ Kd.F (Kd.int .u32) W ok A1 x.f1.length x.f1 ∧ x.f2.length ≤ c2 ∧ Kd.F (Kd.int .u32) W ok A2 x.f2.length x.f2 ∧ x.f3.length ≤ c3 ∧ Kd.F (Kd.int .u32) W ok A3 x.f3.length x.f3 ∧ x.f4.length ≤ c4 ∧ Kd.F (Kd.int .u32) W ok A4 x.f4.length x.f4 ∧ x.f5.length ≤ c5 ∧ Kd.F (Kd.int .u32) W ok A5 x.f5.length x.f5 ∧ x.f6.length ≤ c6 ∧ Kd.F (Kd.slice 2 (Kd.int .i64)) W ok A6 x.f6.length x.f6 := by
  obtain ⟨A0, c0, A1, c1, A2, c2, A3, c3, A4, c4, A5, c5, A6, c6, rfl, l0, _, l1, _, l2, _, l3, _, l4, _, l5, _, l6, _⟩ := k76_open (Kd.FK_now h)
  exact ⟨A0, c0, A1, c1, A2, c2, A3, c3, A4, c4, A5, c5, A6, c6, rfl, l0, (fun W' hW => by obtain ⟨A0_, c0_, A1_, c1_, A2_, c2_, A3_, c3_, A4_, c4_, A5_, c5_, A6_, c6_, he, l0_, g0_, l1_, g1_, l2_, g2_, l3_, g3_, l4_, g4_, l5_, g5_, l6_, g6_⟩ := k76_open (h W' hW); injection (Option.some.inj (show some (Value.slice A0 x.f0.length c0) = some (Value.slice A0_ x.f0.length c0_) from congrArg (fun l => l[0]?) he)) with ha_ _ _; rw [ha_]; exact g0_), l1, (fun W' hW => by obtain ⟨A0_, c0_, A1_, c1_, A2_, c2_, A3_, c3_, A4_, c4_, A5_, c5_, A6_, c6_, he, l0_, g0_, l1_, g1_, l2_, g2_, l3_, g3_, l4_, g4_, l5_, g5_, l6_, g6_⟩ := k76_open (h W' hW); injection (Option.some.inj (show some (Value.slice A1 x.f1.length c1) = some (Value.slice A1_ x.f1.length c1_) from congrArg (fun l => l[1]?) he)) with ha_ _ _; rw [ha_]; exact g1_), l2, (fun W' hW => by obtain ⟨A0_, c0_, A1_, c1_, A2_, c2_, A3_, c3_, A4_, c4_, A5_, c5_, A6_, c6_, he, l0_, g0_, l1_, g1_, l2_, g2_, l3_, g3_, l4_, g4_, l5_, g5_, l6_, g6_⟩ := k76_open (h W' hW); injection (Option.some.inj (show some (Value.slice A2 x.f2.length c2) = some (Value.slice A2_ x.f2.length c2_) from congrArg (fun l => l[2]?) he)) with ha_ _ _; rw [ha_]; exact g2_), l3, (fun W' hW => by obtain ⟨A0_, c0_, A1_, c1_, A2_, c2_, A3_, c3_, A4_, c4_, A5_, c5_, A6_, c6_, he, l0_, g0_, l1_, g1_, l2_, g2_, l3_, g3_, l4_, g4_, l5_, g5_, l6_, g6_⟩ := k76_open (h W' hW); injection (Option.some.inj (show some (Value.slice A3 x.f3.length c3) = some (Value.slice A3_ x.f3.length c3_) from congrArg (fun l => l[3]?) he)) with ha_ _ _; rw [ha_]; exact g3_), l4, (fun W' hW => by obtain ⟨A0_, c0_, A1_, c1_, A2_, c2_, A3_, c3_, A4_, c4_, A5_, c5_, A6_, c6_, he, l0_, g0_, l1_, g1_, l2_, g2_, l3_, g3_, l4_, g4_, l5_, g5_, l6_, g6_⟩ := k76_open (h W' hW); injection (Option.some.inj (show some (Value.slice A4 x.f4.length c4) = some (Value.slice A4_ x.f4.length c4_) from congrArg (fun l => l[4]?) he)) with ha_ _ _; rw [ha_]; exact g4_), l5, (fun W' hW => by obtain ⟨A0_, c0_, A1_, c1_, A2_, c2_, A3_, c3_, A4_, c4_, A5_, c5_, A6_, c6_, he, l0_, g0_, l1_, g1_, l2_, g2_, l3_, g3_, l4_, g4_, l5_, g5_, l6_, g6_⟩ := k76_open (h W' hW); injection (Option.some.inj (show some (Value.slice A5 x.f5.length c5) = some (Value.slice A5_ x.f5.length c5_) from congrArg (fun l => l[5]?) he)) with ha_ _ _; rw [ha_]; exact g5_), l6, (fun W' hW => by obtain ⟨A0_, c0_, A1_, c1_, A2_, c2_, A3_, c3_, A4_, c4_, A5_, c5_, A6_, c6_, he, l0_, g0_, l1_, g1_, l2_, g2_, l3_, g3_, l4_, g4_, l5_, g5_, l6_, g6_⟩ := k76_open (h W' hW); injection (Option.some.inj (show some (Value.slice A6 x.f6.length c6) = some (Value.slice A6_ x.f6.length c6_) from congrArg (fun l => l[6]?) he)) with ha_ _ _; rw [ha_]; exact g6_)⟩
theorem k76_mkF (W : World) (ok : Nat → Prop) (x : S76) {A0 : Option Addr} {c0 : Nat} (l0 : x.f0.length ≤ c0) (g0 : Kd.F k26 W ok A0 x.f0.length x.f0) {A1 : Option Addr} {c1 : Nat} (l1 : x.f1.length ≤ c1) (g1 : Kd.F (Kd.int .u32) W ok A1 x.f1.length x.f1) {A2 : Option Addr} {c2 : Nat} (l2 : x.f2.length ≤ c2) (g2 : Kd.F (Kd.int .u32) W ok A2 x.f2.length x.f2) {A3 : Option Addr} {c3 : Nat} (l3 : x.f3.length ≤ c3) (g3 : Kd.F (Kd.int .u32) W ok A3 x.f3.length x.f3) {A4 : Option Addr} {c4 : Nat} (l4 : x.f4.length ≤ c4) (g4 : Kd.F (Kd.int .u32) W ok A4 x.f4.length x.f4) {A5 : Option Addr} {c5 : Nat} (l5 : x.f5.length ≤ c5) (g5 : Kd.F (Kd.int .u32) W ok A5 x.f5.length x.f5) {A6 : Option Addr} {c6 : Nat} (l6 : x.f6.length ≤ c6) (g6 : Kd.F (Kd.slice 2 (Kd.int .i64)) W ok A6 x.f6.length x.f6) : Kd.FK k76 W ok x [.slice A0 x.f0.length c0, .slice A1 x.f1.length c1, .slice A2 x.f2.length c2, .slice A3 x.f3.length c3, .slice A4 x.f4.length c4, .slice A5 x.f5.length c5, .slice A6 x.f6.length c6] := fun W2 hW => k76_mk W2 x l0 (g0 W2 hW) l1 (g1 W2 hW) l2 (g2 W2 hW) l3 (g3 W2 hW) l4 (g4 W2 hW) l5 (g5 W2 hW) l6 (g6 W2 hW)
def rd_T76 (xs : List S76) (i : Int) : S76 := xs.getD i.toNat z76
theorem at_T76 {w : World} {A : Option Addr} {n : Nat} {xs : List S76} (h : Kd.C k76 w A n xs) (i : Int) (h0 : 0 ≤ i) (h1 : i < n) : ∃ ad A0 c0 A1 c1 A2 c2 A3 c3 A4 c4 A5 c5 A6 c6, A = some ad ∧ w.cell? (ad.add (i.toNat * 7)) = some (.slice A0 (rd_T76 xs i).f0.length c0) ∧ w.cell? ⟨(ad.add (i.toNat * 7)).block, (ad.add (i.toNat * 7)).off + 1, none⟩ = some (.slice A1 (rd_T76 xs i).f1.length c1) ∧ w.cell? ⟨(ad.add (i.toNat * 7)).block, (ad.add (i.toNat * 7)).off + 2, none⟩ = some (.slice A2 (rd_T76 xs i).f2.length c2) ∧ w.cell? ⟨(ad.add (i.toNat * 7)).block, (ad.add (i.toNat * 7)).off + 3, none⟩ = some (.slice A3 (rd_T76 xs i).f3.length c3) ∧ w.cell? ⟨(ad.add (i.toNat * 7)).block, (ad.add (i.toNat * 7)).off + 4, none⟩ = some (.slice A4 (rd_T76 xs i).f4.length c4) ∧ w.cell? ⟨(ad.add (i.toNat * 7)).block, (ad.add (i.toNat * 7)).off + 5, none⟩ = some (.slice A5 (rd_T76 xs i).f5.length c5) ∧ w.cell? ⟨(ad.add (i.toNat * 7)).block, (ad.add (i.toNat * 7)).off + 6, none⟩ = some (.slice A6 (rd_T76 xs i).f6.length c6) ∧ (rd_T76 xs i).f0.length ≤ c0 ∧ k26.C w A0 (rd_T76 xs i).f0.length (rd_T76 xs i).f0 ∧ (rd_T76 xs i).f1.length ≤ c1 ∧ (Kd.int .u32).C w A1 (rd_T76 xs i).f1.length (rd_T76 xs i).f1 ∧ (rd_T76 xs i).f2.length ≤ c2 ∧ (Kd.int .u32).C w A2 (rd_T76 xs i).f2.length (rd_T76 xs i).f2 ∧ (rd_T76 xs i).f3.length ≤ c3 ∧ (Kd.int .u32).C w A3 (rd_T76 xs i).f3.length (rd_T76 xs i).f3 ∧ (rd_T76 xs i).f4.length ≤ c4 ∧ (Kd.int .u32).C w A4 (rd_T76 xs i).f4.length (rd_T76 xs i).f4 ∧ (rd_T76 xs i).f5.length ≤ c5 ∧ (Kd.int .u32).C w A5 (rd_T76 xs i).f5.length (rd_T76 xs i).f5 ∧ (rd_T76 xs i).f6.length ≤ c6 ∧ (Kd.slice 2 (Kd.int .i64)).C w A6 (rd_T76 xs i).f6.length (rd_T76 xs i).f6 := by
  obtain ⟨ad, c, e, _, hK, hc0⟩ := Kd.C_get h z76 i h0 h1
  have hc : ∀ j u, c[j]? = some u → w.cell? (ad.add (i.toNat * 7 + j)) = some u := hc0
  obtain ⟨A0, c0, A1, c1, A2, c2, A3, c3, A4, c4, A5, c5, A6, c6, rfl, l0, g0, l1, g1, l2, g2, l3, g3, l4, g4, l5, g5, l6, g6⟩ := k76_open hK
  exact ⟨ad, A0, c0, A1, c1, A2, c2, A3, c3, A4, c4, A5, c5, A6, c6, e, hc 0 _ rfl, by rw [← add_field _ _ 1 (by omega)]; exact hc 1 _ rfl, by rw [← add_field _ _ 2 (by omega)]; exact hc 2 _ rfl, by rw [← add_field _ _ 3 (by omega)]; exact hc 3 _ rfl, by rw [← add_field _ _ 4 (by omega)]; exact hc 4 _ rfl, by rw [← add_field _ _ 5 (by omega)]; exact hc 5 _ rfl, by rw [← add_field _ _ 6 (by omega)]; exact hc 6 _ rfl, l0, g0, l1, g1, l2, g2, l3, g3, l4, g4, l5, g5, l6, g6⟩

/-! #### struct type 112 -/
structure S112 where
  f0 : Int
  f1 : Int
  f2 : Int
  f3 : Int
def z112 : S112 := ⟨(0 : Int), (0 : Int), (0 : Int), (0 : Int)⟩
def k112 : Kd S112 := Kd.iso (Kd.pair (Kd.int .i64) (Kd.pair (Kd.int .i64) (Kd.pair (Kd.int .i64) (Kd.int .i64)))) (fun x : S112 => (x.f0, x.f1, x.f2, x.f3))
theorem k112_open {w : World} {x : S112} {cs : List Value} (h : k112.K w x cs) : cs = [.int .i64 x.f0, .int .i64 x.f1, .int .i64 x.f2, .int .i64 x.f3] := by
  obtain ⟨_, _, rfl, rfl, ⟨_, _, rfl, rfl, ⟨_, _, rfl, rfl, rfl⟩⟩⟩ := h
  exact rfl
theorem k112_openM {w : World} {base : Nat} {ok : Nat → Prop} {x : S112} {cs : List Value} (h : k112.M w base ok x cs) : cs = [.int .i64 x.f0, .int .i64 x.f1, .int .i64 x.f2, .int .i64 x.f3] := by
  obtain ⟨_, _, rfl, rfl, ⟨_, _, rfl, rfl, ⟨_, _, rfl, rfl, rfl⟩⟩⟩ := h
  exact rfl
theorem k112_mk (w : World) (x : S112)  : k112.K w x [.int .i64 x.f0, .int .i64 x.f1, .int .i64 x.f2, .int .i64 x.f3] := ⟨[.int .i64 x.f0], [.int .i64 x.f1, .int .i64 x.f2, .int .i64 x.f3], rfl, rfl, ⟨[.int .i64 x.f1], [.int .i64 x.f2, .int .i64 x.f3], rfl, rfl, ⟨[.int .i64 x.f2], [.int .i64 x.f3], rfl, rfl, rfl⟩⟩⟩
theorem k112_mkM (w : World) (base : Nat) (ok : Nat → Prop) (x : S112)  : k112.M w base ok x [.int .i64 x.f0, .int .i64 x.f1, .int .i64 x.f2, .int .i64 x.f3] := ⟨[.int .i64 x.f0], [.int .i64 x.f1, .int .i64 x.f2, .int .i64 x.f3], rfl, rfl, ⟨[.int .i64 x.f1], [.int .i64 x.f2, .int .i64 x.f3], rfl, rfl, ⟨[.int .i64 x.f2], [.int .i64 x.f3], rfl, rfl, rfl⟩⟩⟩
theorem k112_mkF (W : World) (ok : Nat → Prop) (x : S112) : Kd.FK k112 W ok x [.int .i64 x.f0, .int .i64 x.f1, .int .i64 x.f2, .int .i64 x.f3] := fun W2 _ => k112_mk W2 x
def rd_T112 (xs : List S112) (i : Int) : S112 := xs.getD i.toNat z112
theorem at_T112 {w : World} {A : Option Addr} {n : Nat} {xs : List S112} (h : Kd.C k112 w A n xs) (i : Int) (h0 : 0 ≤ i) (h1 : i < n) : ∃ ad , A = some ad ∧ w.cell? (ad.add (i.toNat * 4)) = some (.int .i64 (rd_T112 xs i).f0) ∧ w.cell? ⟨(ad.add (i.toNat * 4)).block, (ad.add (i.toNat * 4)).off + 1, none⟩ = some (.int .i64 (rd_T112 xs i).f1) ∧ w.cell? ⟨(ad.add (i.toNat * 4)).block, (ad.add (i.toNat * 4)).off + 2, none⟩ = some (.int .i64 (rd_T112 xs i).f2) ∧ w.cell? ⟨(ad.add (i.toNat * 4)).block, (ad.add (i.toNat * 4)).off + 3, none⟩ = some (.int .i64 (rd_T112 xs i).f3) := by
  obtain ⟨ad, c, e, _, hK, hc0⟩ := Kd.C_get h z112 i h0 h1
  have hc : ∀ j u, c[j]? = some u → w.cell? (ad.add (i.toNat * 4 + j)) = some u := hc0
  obtain rfl := k112_open hK
  exact ⟨ad, e, hc 0 _ rfl, by rw [← add_field _ _ 1 (by omega)]; exact hc 1 _ rfl, by rw [← add_field _ _ 2 (by omega)]; exact hc 2 _ rfl, by rw [← add_field _ _ 3 (by omega)]; exact hc 3 _ rfl⟩

/-! #### struct type 113 -/
structure S113 where
  f0 : Int
  f1 : Int
  f2 : Int
  f3 : Int
def z113 : S113 := ⟨(0 : Int), (0 : Int), (0 : Int), (0 : Int)⟩
def k113 : Kd S113 := Kd.iso (Kd.pair (Kd.int .u32) (Kd.pair (Kd.int .u32) (Kd.pair (Kd.int .u32) (Kd.int .u32)))) (fun x : S113 => (x.f0, x.f1, x.f2, x.f3))
theorem k113_open {w : World} {x : S113} {cs : List Value} (h : k113.K w x cs) : cs = [.int .u32 x.f0, .int .u32 x.f1, .int .u32 x.f2, .int .u32 x.f3] := by
  obtain ⟨_, _, rfl, rfl, ⟨_, _, rfl, rfl, ⟨_, _, rfl, rfl, rfl⟩⟩⟩ := h
  exact rfl
theorem k113_openM {w : World} {base : Nat} {ok : Nat → Prop} {x : S113} {cs : List Value} (h : k113.M w base ok x cs) : cs = [.int .u32 x.f0, .int .u32 x.f1, .int .u32 x.f2, .int .u32 x.f3] := by
  obtain ⟨_, _, rfl, rfl, ⟨_, _, rfl, rfl, ⟨_, _, rfl, rfl, rfl⟩⟩⟩ := h
  exact rfl
theorem k113_mk (w : World) (x : S113)  : k113.K w x [.int .u32 x.f0, .int .u32 x.f1, .int .u32 x.f2, .int .u32 x.f3] := ⟨[.int .u32 x.f0], [.int .u32 x.f1, .int .u32 x.f2, .int .u32 x.f3], rfl, rfl, ⟨[.int .u32 x.f1], [.int .u32 x.f2, .int .u32 x.f3], rfl, rfl, ⟨[.int .u32 x.f2], [.int .u32 x.f3], rfl, rfl, rfl⟩⟩⟩
theorem k113_mkM (w : World) (base : Nat) (ok : Nat → Prop) (x : S113)  : k113.M w base ok x [.int .u32 x.f0, .int .u32 x.f1, .int .u32 x.f2, .int .u32 x.f3] := ⟨[.int .u32 x.f0], [.int .u32 x.f1, .int .u32 x.f2, .int .u32 x.f3], rfl, rfl, ⟨[.int .u32 x.f1], [.int .u32 x.f2, .int .u32 x.f3], rfl, rfl, ⟨[.int .u32 x.f2], [.int .u32 x.f3], rfl, rfl, rfl⟩⟩⟩
theorem k113_mkF (W : World) (ok : Nat → Prop) (x : S113) : Kd.FK k113 W ok x [.int .u32 x.f0, .int .u32 x.f1, .int .u32 x.f2, .int .u32 x.f3] := fun W2 _ => k113_mk W2 x
def rd_T113 (xs : List S113) (i : Int) : S113 := xs.getD i.toNat z113
theorem at_T113 {w : World} {A : Option Addr} {n : Nat} {xs : List S113} (h : Kd.C k113 w A n xs) (i : Int) (h0 : 0 ≤ i) (h1 : i < n) : ∃ ad , A = some ad ∧ w.cell? (ad.add (i.toNat * 4)) = some (.int .u32 (rd_T113 xs i).f0) ∧ w.cell? ⟨(ad.add (i.toNat * 4)).block, (ad.add (i.toNat * 4)).off + 1, none⟩ = some (.int .u32 (rd_T113 xs i).f1) ∧ w.cell? ⟨(ad.add (i.toNat * 4)).block, (ad.add (i.toNat * 4)).off + 2, none⟩ = some (.int .u32 (rd_T113 xs i).f2) ∧ w.cell? ⟨(ad.add (i.toNat * 4)).block, (ad.add (i.toNat * 4)).off + 3, none⟩ = some (.int .u32 (rd_T113 xs i).f3) := by
  obtain ⟨ad, c, e, _, hK, hc0⟩ := Kd.C_get h z113 i h0 h1
  have hc : ∀ j u, c[j]? = some u → w.cell? (ad.add (i.toNat * 4 + j)) = some u := hc0
  obtain rfl := k113_open hK
  exact ⟨ad, e, hc 0 _ rfl, by rw [← add_field _ _ 1 (by omega)]; exact hc 1 _ rfl, by rw [← add_field _ _ 2 (by omega)]; exact hc 2 _ rfl, by rw [← add_field _ _ 3 (by omega)]; exact hc 3 _ rfl⟩

/-! #### struct type 115 -/
structure S115 where
  f0 : S112
  f1 : S113
def z115 : S115 := ⟨z112, z113⟩
def k115 : Kd S115 := Kd.iso (Kd.pair k112 k113) (fun x : S115 => (x.f0, x.f1))
theorem k115_open {w : World} {x : S115} {cs : List Value} (h : k115.K w x cs) : cs = [.int .i64 x.f0.f0, .int .i64 x.f0.f1, .int .i64 x.f0.f2, .int .i64 x.f0.f3, .int .u32 x.f1.f0, .int .u32 x.f1.f1, .int .u32 x.f1.f2, .int .u32 x.f1.f3] := by
  obtain ⟨_, _, rfl, s0, s4⟩ := h
  obtain rfl := k112_open s0
  obtain rfl := k113_open s4
  exact rfl
theorem k115_openM {w : World} {base : Nat} {ok : Nat → Prop} {x : S115} {cs : List Value} (h : k115.M w base ok x cs) : cs = [.int .i64 x.f0.f0, .int .i64 x.f0.f1, .int .i64 x.f0.f2, .int .i64 x.f0.f3, .int .u32 x.f1.f0, .int .u32 x.f1.f1, .int .u32 x.f1.f2, .int .u32 x.f1.f3] := by
  obtain ⟨_, _, rfl, s0, s4⟩ := h
  obtain rfl := k112_openM s0
  obtain rfl := k113_openM s4
  exact rfl
theorem k115_mk (w : World) (x : S115)  : k115.K w x [.int .i64 x.f0.f0, .int .i64 x.f0.f1, .int .i64 x.f0.f2, .int .i64 x.f0.f3, .int .u32 x.f1.f0, .int .u32 x.f1.f1, .int .u32 x.f1.f2, .int .u32 x.f1.f3] := ⟨[.int .i64 x.f0.f0, .int .i64 x.f0.f1, .int .i64 x.f0.f2, .int .i64 x.f0.f3], [.int .u32 x.f1.f0, .int .u32 x.f1.f1, .int .u32 x.f1.f2, .int .u32 x.f1.f3], rfl, (k112_mk w x.f0 ), (k113_mk w x.f1 )⟩
theorem k115_mkM (w : World) (base : Nat) (ok : Nat → Prop) (x : S115)  : k115.M w base ok x [.int .i64 x.f0.f0, .int .i64 x.f0.f1, .int .i64 x.f0.f2, .int .i64 x.f0.f3, .int .u32 x.f1.f0, .int .u32 x.f1.f1, .int .u32 x.f1.f2, .int .u32 x.f1.f3] := ⟨[.int .i64 x.f0.f0, .int .i64 x.f0.f1, .int .i64 x.f0.f2, .int .i64 x.f0.f3], [.int .u32 x.f1.f0, .int .u32 x.f1.f1, .int .u32 x.f1.f2, .int .u32 x.f1.f3], rfl, (k112_mkM w base ok x.f0 ), (k113_mkM w base ok x.f1 )⟩
theorem k115_mkF (W : World) (ok : Nat → Prop) (x : S115) : Kd.FK k115 W ok x [.int .i64 x.f0.f0, .int .i64 x.f0.f1, .int .i64 x.f0.f2, .int .i64 x.f0.f3, .int .u32 x.f1.f0, .int .u32 x.f1.f1, .int .u32 x.f1.f2, .int .u32 x.f1.f3] := fun W2 _ => k115_mk W2 x
def rd_T115 (xs : List S115) (i : Int) : S115 := xs.getD i.toNat z115
theorem at_T115 {w : World} {A : Option Addr} {n : Nat} {xs : List S115} (h : Kd.C k115 w A n xs) (i : Int) (h0 : 0 ≤ i) (h1 : i < n) : ∃ ad , A = some ad ∧ w.cell? (ad.add (i.toNat * 8)) = some (.int .i64 (rd_T115 xs i).f0.f0) ∧ w.cell? ⟨(ad.add (i.toNat * 8)).block, (ad.add (i.toNat * 8)).off + 1, none⟩ = some (.int .i64 (rd_T115 xs i).f0.f1) ∧ w.cell? ⟨(ad.add (i.toNat * 8)).block, (ad.add (i.toNat * 8)).off + 2, none⟩ = some (.int .i64 (rd_T115 xs i).f0.f2) ∧ w.cell? ⟨(ad.add (i.toNat * 8)).block, (ad.add (i.toNat * 8)).off + 3, none⟩ = some (.int .i64 (rd_T115 xs i).f0.f3) ∧ w.cell? ⟨(ad.add (i.toNat * 8)).block, (ad.add (i.toNat * 8)).off + 4, none⟩ = some (.int .u32 (rd_T115 xs i).f1.f0) ∧ w.cell? ⟨(ad.add (i.toNat * 8)).block, (ad.add (i.toNat * 8)).off + 5, none⟩ = some (.int .u32 (rd_T115 xs i).f1.f1) ∧ w.cell? ⟨(ad.add (i.toNat * 8)).block, (ad.add (i.toNat * 8)).off + 6, none⟩ = some (.int .u32 (rd_T115 xs i).f1.f2) ∧ w.cell? ⟨(ad.add (i.toNat * 8)).block, (ad.add (i.toNat * 8)).off + 7, none⟩ = some (.int .u32 (rd_T115 xs i).f1.f3) := by
  obtain ⟨ad, c, e, _, hK, hc0⟩ := Kd.C_get h z115 i h0 h1
  have hc : ∀ j u, c[j]? = some u → w.cell? (ad.add (i.toNat * 8 + j)) = some u := hc0
  obtain rfl := k115_open hK
  exact ⟨ad, e, hc 0 _ rfl, by rw [← add_field _ _ 1 (by omega)]; exact hc 1 _ rfl, by rw [← add_field _ _ 2 (by omega)]; exact hc 2 _ rfl, by rw [← add_field _ _ 3 (by omega)]; exact hc 3 _ rfl, by rw [← add_field _ _ 4 (by omega)]; exact hc 4 _ rfl, by rw [← add_field _ _ 5 (by omega)]; exact hc 5 _ rfl, by rw [← add_field _ _ 6 (by omega)]; exact hc 6 _ rfl, by rw [← add_field _ _ 7 (by omega)]; exact hc 7 _ rfl⟩

/-! #### struct type 117 -/
structure S117 where
  f0 : (List S26)
  f1 : (List Int)
  f2 : (List Int)
  f3 : (List Int)
  f4 : (List Int)
  f5 : S115
  f6 : Int
  f7 : Int
  f8 : Int
def z117 : S117 := ⟨([] : List S26), ([] : List Int), ([] : List Int), ([] : List Int), ([] : List Int), z115, (0 : Int), (0 : Int), (0 : Int)⟩
def k117 : Kd S117 := Kd.iso (Kd.pair (Kd.slice 26 k26) (Kd.pair (Kd.slice 52 (Kd.int .u32)) (Kd.pair (Kd.slice 52 (Kd.int .u32)) (Kd.pair (Kd.slice 52 (Kd.int .u32)) (Kd.pair (Kd.slice 3 (Kd.int .i64)) (Kd.pair k115 (Kd.pair (Kd.int .i64) (Kd.pair (Kd.int .i64) (Kd.int .i64))))))))) (fun x : S117 => (x.f0, x.f1, x.f2, x.f3, x.f4, x.f5, x.f6, x.f7, x.f8))
theorem k117_open {w : World} {x : S117} {cs : List Value} (h : k117.K w x cs) : ∃ A0 c0 A1 c1 A2 c2 A3 c3 A4 c4, cs = [.slice A0 x.f0.length c0, .slice A1 x.f1.length c1, .slice A2 x.f2.length c2, .slice A3 x.f3.length c3, .slice A4 x.f4.length c4, .int .i64 x.f5.f0.f0, .int .i64 x.f5.f0.f1, .int .i64 x.f5.f0.f2, .int .i64 x.f5.f0.f3, .int .u32 x.f5.f1.f0, .int .u32 x.f5.f1.f1, .int .u32 x.f5.f1.f2, .int .u32 x.f5.f1.f3, .int .i64 x.f6, .int .i64 x.f7, .int .i64 x.f8] ∧ x.f0.length ≤ c0 ∧ k26.C w A0 x.f0.length x.f0 ∧ x.f1.length ≤ c1 ∧ (Kd.int .u32).C w A1 x.f1.length x.f1 ∧ x.f2.length ≤ c2 ∧ (Kd.int .u32).C w A2 x.f2.length x.f2 ∧ x.f3.length ≤ c3 ∧ (Kd.int .u32).C w A3 x.f3.length x.f3 ∧ x.f4.length ≤ c4 ∧ (Kd.int .i64).C w A4 x.f4.length x.f4 := by
  obtain ⟨_, _, rfl, ⟨A0, c0, rfl, l0, g0⟩, ⟨_, _, rfl, ⟨A1, c1, rfl, l1, g1⟩, ⟨_, _, rfl, ⟨A2, c2, rfl, l2, g2⟩, ⟨_, _, rfl, ⟨A3, c3, rfl, l3, g3⟩, ⟨_, _, rfl, ⟨A4, c4, rfl, l4, g4⟩, ⟨_, _, rfl, s5, ⟨_, _, rfl, rfl, ⟨_, _, rfl, rfl, rfl⟩⟩⟩⟩⟩⟩⟩⟩ := h
  obtain rfl := k115_open s5
  exact ⟨A0, c0, A1, c1, A2, c2, A3, c3, A4, c4, rfl, l0, g0, l1, g1, l2, g2, l3, g3, l4, g4⟩
theorem k117_openM {w : World} {base : Nat} {ok : Nat → Prop} {x : S117} {cs : List Value} (h : k117.M w base ok x cs) : ∃ v0 v1 v2 v3 v4, cs = [v0, v1, v2, v3, v4, .int .i64 x.f5.f0.f0, .int .i64 x.f5.f0.f1, .int .i64 x.f5.f0.f2, .int .i64 x.f5.f0.f3, .int .u32 x.f5.f1.f0, .int .u32 x.f5.f1.f1, .int .u32 x.f5.f1.f2, .int .u32 x.f5.f1.f3, .int .i64 x.f6, .int .i64 x.f7, .int .i64 x.f8] ∧ k26.R 26 w base ok v0 x.f0 ∧ (Kd.int .u32).R 52 w base ok v1 x.f1 ∧ (Kd.int .u32).R 52 w base ok v2 x.f2 ∧ (Kd.int .u32).R 52 w base ok v3 x.f3 ∧ (Kd.int .i64).R 3 w base ok v4 x.f4 := by
  obtain ⟨_, _, rfl, ⟨v0, rfl, g0⟩, ⟨_, _, rfl, ⟨v1, rfl, g1⟩, ⟨_, _, rfl, ⟨v2, rfl, g2⟩, ⟨_, _, rfl, ⟨v3, rfl, g3⟩, ⟨_, _, rfl, ⟨v4, rfl, g4⟩, ⟨_, _, rfl, s5, ⟨_, _, rfl, rfl, ⟨_, _, rfl, rfl, rfl⟩⟩⟩⟩⟩⟩⟩⟩ := h
  obtain rfl := k115_openM s5
  exact ⟨v0, v1, v2, v3, v4, rfl, g0, g1, g2, g3, g4⟩
theorem k117_mk (w : World) (x : S117) {A0 : Option Addr} {c0 : Nat} (l0 : x.f0.length ≤ c0) (g0 : k26.C w A0 x.f0.length x.f0) {A1 : Option Addr} {c1 : Nat} (l1 : x.f1.length ≤ c1) (g1 : (Kd.int .u32).C w A1 x.f1.length x.f1) {A2 : Option Addr} {c2 : Nat} (l2 : x.f2.length ≤ c2) (g2 : (Kd.int .u32).C w A2 x.f2.length x.f2) {A3 : Option Addr} {c3 : Nat} (l3 : x.f3.length ≤ c3) (g3 : (Kd.int .u32).C w A3 x.f3.length x.f3) {A4 : Option Addr} {c4 : Nat} (l4 : x.f4.length ≤ c4) (g4 : (Kd.int .i64).C w A4 x.f4.length x.f4) : k117.K w x [.slice A0 x.f0.length c0, .slice A1 x.f1.length c1, .slice A2 x.f2.length c2, .slice A3 x.f3.length c3, .slice A4 x.f4.length c4, .int .i64 x.f5.f0.f0, .int .i64 x.f5.f0.f1, .int .i64 x.f5.f0.f2, .int .i64 x.f5.f0.f3, .int .u32 x.f5.f1.f0, .int .u32 x.f5.f1.f1, .int .u32 x.f5.f1.f2, .int .u32 x.f5.f1.f3, .int .i64 x.f6, .int .i64 x.f7, .int .i64 x.f8] := ⟨[.slice A0 x.f0.length c0], [.slice A1 x.f1.length c1, .slice A2 x.f2.length c2, .slice A3 x.f3.length c3, .slice A4 x.f4.length c4, .int .i64 x.f5.f0.f0, .int .i64 x.f5.f0.f1, .int .i64 x.f5.f0.f2, .int .i64 x.f5.f0.f3, .int .u32 x.f5.f1.f0, .int .u32 x.f5.f1.f1, .int .u32 x.f5.f1.f2, .int .u32 x.f5.f1.f3, .int .i64 x.f6, .int .i64 x.f7, .int .i64 x.f8], rfl, ⟨A0, c0, rfl, l0, g0⟩, ⟨[.slice A1 x.f1.length c1], [.slice A2 x.f2.length c2, .slice A3 x.f3.length c3, .slice A4 x.f4.length c4, .int .i64 x.f5.f0.f0, .int .i64 x.f5.f0.f1, .int .i64 x.f5.f0.f2, .int .i64 x.f5.f0.f3, .int .u32 x.f5.f1.f0, .int .u32 x.f5.f1.f1, .int .u32 x.f5.f1.f2, .int .u32 x.f5.f1.f3, .int .i64 x.f6, .int .i64 x.f7, .int .i64 x.f8], rfl, ⟨A1, c1, rfl, l1, g1⟩, ⟨[.slice A2 x.f2.length c2], [.slice A3 x.f3.length c3, .slice A4 x.f4.length c4, .int .i64 x.f5.f0.f0, .int .i64 x.f5.f0.f1, .int .i64 x.f5.f0.f2, .int .i64 x.f5.f0.f3, .int .u32 x.f5.f1.f0, .int .u32 x.f5.f1.f1, .int .u32 x.f5.f1.f2, .int .u32 x.f5.f1.f3, .int .i64 x.f6, .int .i64 x.f7, .int .i64 x.f8], rfl, ⟨A2, c2, rfl, l2, g2⟩, ⟨[.slice A3 x.f3.length c3], [.slice A4 x.f4.length c4, .int .i64 x.f5.f0.f0, .int .i64 x.f5.f0.f1, .int .i64 x.f5.f0.f2, .int .i64 x.f5.f0.f3, .int .u32 x.f5.f1.f0, .int .u32 x.f5.f1.f1, .int .u32 x.f5.f1.f2, .int .u32 x.f5.f1.f3, .int .i64 x.f6, .int .i64 x.f7, .int .i64 x.f8], rfl, ⟨A3, c3, rfl, l3, g3⟩, ⟨[.slice A4 x.f4.length c4], [.int .i64 x.f5.f0.f0, .int .i64 x.f5.f0.f1, .int .i64 x.f5.f0.f2, .int .i64 x.f5.f0.f3, .int .u32 x.f5.f1.f0, .int .u32 x.f5.f1.f1, .int .u32 x.f5.f1.f2, .int .u32 x.f5.f1.f3, .int .i64 x.f6, .int .i64 x.f7, .int .i64 x.f8], rfl, ⟨A4, c4, rfl, l4, g4⟩, ⟨[.int .i64 x.f5.f0.f0, .int .i64 x.f5.f0.f1, .int .i64 x.f5.f0.f2, .int .i64 x.f5.f0.f3, .int .u32 x.f5.f1.f0, .int .u32 x.f5.f1.f1, .int .u32 x.f5.f1.f2, .int .u32 x.f5.f1.f3], [.int .i64 x.f6, .int .i64 x.f7, .int .i64 x.f8], rfl, (k115_mk w x.f5 ), ⟨[.int .i64 x.f6], [.int .i64 x.f7, .int .i64 x.f8], rfl, rfl, ⟨[.int .i64 x.f7], [.int .i64 x.f8], rfl, rfl, rfl⟩⟩⟩⟩⟩⟩⟩⟩
theorem k117_mkM (w : World) (base : Nat) (ok : Nat → Prop) (x : S117) {v0 : Value} (g0 : k26.R 26 w base ok v0 x.f0) {v1 : Value} (g1 : (Kd.int .u32).R 52 w base ok v1 x.f1) {v2 : Value} (g2 : (Kd.int .u32).R 52 w base ok v2 x.f2) {v3 : Value} (g3 : (Kd.int .u32).R 52 w base ok v3 x.f3) {v4 : Value} (g4 : (Kd.int .i64).R 3 w base ok v4 x.f4) : k117.M w base ok x [v0, v1, v2, v3, v4, .int .i64 x.f5.f0.f0, .int .i64 x.f5.f0.f1, .int .i64 x.f5.f0.f2, .int .i64 x.f5.f0.f3, .int .u32 x.f5.f1.f0, .int .u32 x.f5.f1.f1, .int .u32 x.f5.f1.f2, .int .u32 x.f5.f1.f3, .int .i64 x.f6, .int .i64 x.f7, .int .i64 x.f8] := ⟨[v0], [v1, v2, v3, v4, .int .i64 x.f5.f0.f0, .int .i64 x.f5.f0.f1, .int .i64 x.f5.f0.f2, .int .i64 x.f5.f0.f3, .int .u32 x.f5.f1.f0, .int .u32 x.f5.f1.f1, .int .u32 x.f5.f1.f2, .int .u32 x.f5.f1.f3, .int .i64 x.f6, .int .i64 x.f7, .int .i64 x.f8], rfl, ⟨v0, rfl, g0⟩, ⟨[v1], [v2, v3, v4, .int .i64 x.f5.f0.f0, .int .i64 x.f5.f0.f1, .int .i64 x.f5.f0.f2, .int .i64 x.f5.f0.f3, .int .u32 x.f5.f1.f0, .int .u32 x.f5.f1.f1, .int .u32 x.f5.f1.f2, .int .u32 x.f5.f1.f3, .int .i64 x.f6, .int .i64 x.f7, .int .i64 x.f8], rfl, ⟨v1, rfl, g1⟩, ⟨[v2], [v3, v4, .int .i64 x.f5.f0.f0, .int .i64 x.f5.f0.f1, .int .i64 x.f5.f0.f2, .int .i64 x.f5.f0.f3, .int .u32 x.f5.f1.f0, .int .u32 x.f5.f1.f1, .int .u32 x.f5.f1.f2, .int .u32 x.f5.f1.f3, .int .i64 x.f6, .int .i64 x.f7, .int .i64 x.f8], rfl, ⟨v2, rfl, g2⟩, ⟨[v3], [v4, .int .i64 x.f5.f0.f0, .int .i64 x.f5.f0.f1, .int .i64 x.f5.f0.f2, .int .i64 x.f5.f0.f3, .int .u32 x.f5.f1.f0, .int .u32 x.f5.f1.f1, .int .u32 x.f5.f1.f2, .int .u32 x.f5.f1.f3, .int .i64 x.f6, .int .i64 x.f7, .int .i64 x.f8], rfl, ⟨v3, rfl, g3⟩, ⟨[v4], [.int .i64 x.f5.f0.f0, .int .i64 x.f5.f0.f1, .int .i64 x.f5.f0.f2, .int .i64 x.f5.f0.f3, .int .u32 x.f5.f1.f0, .int .u32 x.f5.f1.f1, .int .u32 x.f5.f1.f2, .int .u32 x.f5.f1.f3, .int .i64 x.f6, .int .i64 x.f7, .int .i64 x.f8], rfl, ⟨v4, rfl, g4⟩, ⟨[.int .i64 x.f5.f0.f0, .int .i64 x.f5.f0.f1, .int .i64 x.f5.f0.f2, .int .i64 x.f5.f0.f3, .int .u32 x.f5.f1.f0, .int .u32 x.f5.f1.f1, .int .u32 x.f5.f1.f2, .int .u32 x.f5.f1.f3], [.int .i64 x.f6, .int .i64 x.f7, .int .i64 x.f8], rfl, (k115_mkM w base ok x.f5 ), ⟨[.int .i64 x.f6], [.int .i64 x.f7, .int .i64 x.f8], rfl, rfl, ⟨[.int .i64 x.f7], [.int .i64 x.f8], rfl, rfl, rfl⟩⟩⟩⟩⟩⟩⟩⟩
theorem k117_openF {W : World} {ok : Nat → Prop} {x : S117} {cs : List Value} (h : Kd.FK k117 W ok x cs) : ∃ A0 c0 A1 c1 A2 c2 A3 c3 A4 c4, cs = [.slice A0 x.f0.length c0, .slice A1 x.f1.length c1, .slice A2 x.f2.length c2, .slice A3 x.f3.length c3, .slice A4 x.f4.length c4, .int .i64 x.f5.f0.f0, .int .i64 x.f5.f0.f1, .int .i64 x.f5.f0.f2, .int .i64 x.f5.f0.f3, .int .u32 x.f5.f1.f0, .int .u32 x.f5.f1.f1, .int .u32 x.f5.f1.f2, .int .u32 x.f5.f1.f3, .int .i64 x.f6, .int .i64 x.f7, .int .i64 x.f8] ∧ x.f0.length ≤ c0 ∧ Kd.F k26 W ok A0 x.f0.length x.f0 ∧ x.f1.length ≤ c1 ∧ Kd.F (Kd.int .u32) W ok A1 x.f1.length x.f1 ∧ x.f2.length ≤ c2 ∧ Kd.F (Kd.int .u32) W ok A2 x.f2.length x.f2 ∧ x.f3.length ≤ c3 ∧ Kd.F (Kd.int .u32) W ok A3 x.f3.length x.f3 ∧ x.f4.length ≤ c4 ∧ Kd.F (Kd.int .i64) W ok A4 x.f4.length x.f4 := by
  obtain ⟨A0, c0, A1, c1, A2, c2, A3, c3, A4, c4, rfl, l0, _, l1, _, l2, _, l3, _, l4, _⟩ := k117_open (Kd.FK_now h)
  exact ⟨A0, c0, A1, c1, A2, c2, A3, c3, A4, c4, rfl, l0, (fun W' hW => by obtain ⟨A0_, c0_, A1_, c1_, A2_, c2_, A3_, c3_, A4_, c4_, he, l0_, g0_, l1_, g1_, l2_, g2_, l3_, g3_, l4_, g4_⟩ := k117_open (h W' hW); injection (Option.some.inj (show some (Value.slice A0 x.f0.length c0) = some (Value.slice A0_ x.f0.length c0_) from congrArg (fun l => l[0]?) he)) with ha_ _ _; rw [ha_]; exact g0_), l1, (fun W' hW => by obtain ⟨A0_, c0_, A1_, c1_, A2_, c2_, A3_, c3_, A4_, c4_, he, l0_, g0_, l1_, g1_, l2_, g2_, l3_, g3_, l4_, g4_⟩ := k117_open (h W' hW); injection (Option.some.inj (show some (Value.slice A1 x.f1.length c1) = some (Value.slice A1_ x.f1.length c1_) from congrArg (fun l => l[1]?) he)) with ha_ _ _; rw [ha_]; exact g1_), l2, (fun W' hW => by obtain ⟨A0_, c0_, A1_, c1_, A2_, c2_, A3_, c3_, A4_, c4_, he, l0_, g0_, l1_, g1_, l2_, g2_, l3_, g3_, l4_, g4_⟩ := k117_open (h W' hW); injection (Option.some.inj (show some (Value.slice A2 x.f2.length c2) = some (Value.slice A2_ x.f2.length c2_) from congrArg (fun l => l[2]?) he)) with ha_ _ _; rw [ha_]; exact g2_), l3, (fun W' hW => by obtain ⟨A0_, c0_, A1_, c1_, A2_, c2_, A3_, c3_, A4_, c4_, he, l0_, g0_, l1_, g1_, l2_, g2_, l3_, g3_, l4_, g4_⟩ := k117_open (h W' hW); injection (Option.some.inj (show some (Value.slice A3 x.f3.length c3) = some (Value.slice A3_ x.f3.length c3_) from congrArg (fun l => l[3]?) he)) with ha_ _ _; rw [ha_]; exact g3_), l4, (fun W' hW => by obtain ⟨A0_, c0_, A1_, c1_, A2_, c2_, A3_, c3_, A4_, c4_, he, l0_, g0_, l1_, g1_, l2_, g2_, l3_, g3_, l4_, g4_⟩ := k117_open (h W' hW); injection (Option.some.inj (show some (Value.slice A4 x.f4.length c4) = some (Value.slice A4_ x.f4.length c4_) from congrArg (fun l => l[4]?) he)) with ha_ _ _; rw [ha_]; exact g4_)⟩
theorem k117_mkF (W : World) (ok : Nat → Prop) (x : S117) {A0 : Option Addr} {c0 : Nat} (l0 : x.f0.length ≤ c0) (g0 : Kd.F k26 W ok A0 x.f0.length x.f0) {A1 : Option Addr} {c1 : Nat} (l1 : x.f1.length ≤ c1) (g1 : Kd.F (Kd.int .u32) W ok A1 x.f1.length x.f1) {A2 : Option Addr} {c2 : Nat} (l2 : x.f2.length ≤ c2) (g2 : Kd.F (Kd.int .u32) W ok A2 x.f2.length x.f2) {A3 : Option Addr} {c3 : Nat} (l3 : x.f3.length ≤ c3) (g3 : Kd.F (Kd.int .u32) W ok A3 x.f3.length x.f3) {A4 : Option Addr} {c4 : Nat} (l4 : x.f4.length ≤ c4) (g4 : Kd.F (Kd.int .i64) W ok A4 x.f4.length x.f4) : Kd.FK k117 W ok x [.slice A0 x.f0.length c0, .slice A1 x.f1.length c1, .slice A2 x.f2.length c2, .slice A3 x.f3.length c3, .slice A4 x.f4.length c4, .int .i64 x.f5.f0.f0, .int .i64 x.f5.f0.f1, .int .i64 x.f5.f0.f2, .int .i64 x.f5.f0.f3, .int .u32 x.f5.f1.f0, .int .u32 x.f5.f1.f1, .int .u32 x.f5.f1.f2, .int .u32 x.f5.f1.f3, .int .i64 x.f6, .int .i64 x.f7, .int .i64 x.f8] := fun W2 hW => k117_mk W2 x l0 (g0 W2 hW) l1 (g1 W2 hW) l2 (g2 W2 hW) l3 (g3 W2 hW) l4 (g4 W2 hW)
def rd_T117 (xs : List S117) (i : Int) : S117 := xs.getD i.toNat z117
theorem at_T117 {w : World} {A : Option Addr} {n : Nat} {xs : List S117} (h : Kd.C k117 w A n xs) (i : Int) (h0 : 0 ≤ i) (h1 : i < n) : ∃ ad A0 c0 A1 c1 A2 c2 A3 c3 A4 c4, A = some ad ∧ w.cell? (ad.add (i.toNat * 16)) = some (.slice A0 (rd_T117 xs i).f0.length c0) ∧ w.cell? ⟨(ad.add (i.toNat * 16)).block, (ad.add (i.toNat * 16)).off + 1, none⟩ = some (.slice A1 (rd_T117 xs i).f1.length c1) ∧ w.cell? ⟨(ad.add (i.toNat * 16)).block, (ad.add (i.toNat * 16)).off + 2, none⟩ = some (.slice A2 (rd_T117 xs i).f2.length c2) ∧ w.cell? ⟨(ad.add (i.toNat * 16)).block, (ad.add (i.toNat * 16)).off + 3, none⟩ = some (.slice A3 (rd_T117 xs i).f3.length c3) ∧ w.cell? ⟨(ad.add (i.toNat * 16)).block, (ad.add (i.toNat * 16)).off + 4, none⟩ = some (.slice A4 (rd_T117 xs i).f4.length c4) ∧ w.cell? ⟨(ad.add (i.toNat * 16)).block, (ad.add (i.toNat * 16)).off + 5, none⟩ = some (.int .i64 (rd_T117 xs i).f5.f0.f0) ∧ w.cell? ⟨(ad.add (i.toNat * 16)).block, (ad.add (i.toNat * 16)).off + 6, none⟩ = some (.int .i64 (rd_T117 xs i).f5.f0.f1) ∧ w.cell? ⟨(ad.add (i.toNat * 16)).block, (ad.add (i.toNat * 16)).off + 7, none⟩ = some (.int .i64 (rd_T117 xs i).f5.f0.f2) ∧ w.cell? ⟨(ad.add (i.toNat * 16)).block, (ad.add (i.toNat * 16)).off + 8, none⟩ = some (.int .i64 (rd_T117 xs i).f5.f0.f3) ∧ w.cell? ⟨(ad.add (i.toNat * 16)).block, (ad.add (i.toNat * 16)).off + 9, none⟩ = some (.int .u32 (rd_T117 xs i).f5.f1.f0) ∧ w.cell? ⟨(ad.add (i.toNat * 16)).block, (ad.add (i.toNat * 16)).off + 10, none⟩ = some (.int .u32 (rd_T117 xs i).f5.f1.f1) ∧ w.cell? ⟨(ad.add (i.toNat * 16)).block, (ad.add (i.toNat * 16)).off + 11, none⟩ = some (.int .u32 (rd_T117 xs i).f5.f1.f2) ∧ w.cell? ⟨(ad.add (i.toNat * 16)).block, (ad.add (i.toNat * 16)).off + 12, none⟩ = some (.int .u32 (rd_T117 xs i).f5.f1.f3) ∧ w.cell? ⟨(ad.add (i.toNat * 16)).block, (ad.add (i.toNat * 16)).off + 13, none⟩ = some (.int .i64 (rd_T117 xs i).f6) ∧ w.cell? ⟨(ad.add (i.toNat * 16)).block, (ad.add (i.toNat * 16)).off + 14, none⟩ = some (.int .i64 (rd_T117 xs i).f7) ∧ w.cell? ⟨(ad.add (i.toNat * 16)).block, (ad.add (i.toNat * 16)).off + 15, none⟩ = some (.int .i64 (rd_T117 xs i).f8) ∧ (rd_T117 xs i).f0.length ≤ c0 ∧ k26.C w A0 (rd_T117 xs i).f0.length (rd_T117 xs i).f0 ∧ (rd_T117 xs i).f1.length ≤ c1 ∧ (Kd.int .u32).C w A1 (rd_T117 xs i).f1.length (rd_T117 xs i).f1 ∧ (rd_T117 xs i).f2.length ≤ c2 ∧ (Kd.int .u32).C w A2 (rd_T117 xs i).f2.length (rd_T117 xs i).f2 ∧ (rd_T117 xs i).f3.length ≤ c3 ∧ (Kd.int .u32).C w A3 (rd_T117 xs i).f3.length (rd_T117 xs i).f3 ∧ (rd_T117 xs i).f4.length ≤ c4 ∧ (Kd.int .i64).C w A4 (rd_T117 xs i).f4.length (rd_T117 xs i).f4 := by
  obtain ⟨ad, c, e, _, hK, hc0⟩ := Kd.C_get h z117 i h0 h1
  have hc : ∀ j u, c[j]? = some u → w.cell? (ad.add (i.toNat * 16 + j)) = some u := hc0
  obtain ⟨A0, c0, A1, c1, A2, c2, A3, c3, A4, c4, rfl, l0, g0, l1, g1, l2, g2, l3, g3, l4, g4⟩ := k117_open hK
  exact ⟨ad, A0, c0, A1, c1, A2, c2, A3, c3, A4, c4, e, hc 0 _ rfl, by rw [← add_field _ _ 1 (by omega)]; exact hc 1 _ rfl, by rw [← add_field _ _ 2 (by omega)]; exact hc 2 _ rfl, by rw [← add_field _ _ 3 (by omega)]; exact hc 3 _ rfl, by rw [← add_field _ _ 4 (by omega)]; exact hc 4 _ rfl, by rw [← add_field _ _ 5 (by omega)]; exact hc 5 _ rfl, by rw [← add_field _ _ 6 (by omega)]; exact hc 6 _ rfl, by rw [← add_field _ _ 7 (by omega)]; exact hc 7 _ rfl, by rw [← add_field _ _ 8 (by omega)]; exact hc 8 _ rfl, by rw [← add_field _ _ 9 (by omega)]; exact hc 9 _ rfl, by rw [← add_field _ _ 10 (by omega)]; exact hc 10 _ rfl, by rw [← add_field _ _ 11 (by omega)]; exact hc 11 _ rfl, by rw [← add_field _ _ 12 (by omega)]; exact hc 12 _ rfl, by rw [← add_field _ _ 13 (by omega)]; exact hc 13 _ rfl, by rw [← add_field _ _ 14 (by omega)]; exact hc 14 _ rfl, by rw [← add_field _ _ 15 (by omega)]; exact hc 15 _ rfl, l0, g0, l1, g1, l2, g2, l3, g3, l4, g4⟩

end Go.Proofs.Ytbamkkdikeedoaa.G
