/- For each Go function that the laws of this group reach: a plain function with the same answers, and the proof that the call comes to them wherever the plain function has an answer. No other condition. (Laid by a program of this session.) -/
import Derived.Test.YthbiofcgaegjkaaDoorProg
import Derived.Below
import Derived.Deep.Draws
import Derived.Deep.AppendLies
import Derived.Maps.AppendAt
import Derived.OwnWalk
import Derived.Laws.BytesArg
import Derived.Laws.MakeOwn
import Derived.Laws.OwnMore
import Derived.Deep.OwnRows
import Derived.Tactics
import Derived.Lib.ConvBytes
import Derived.Laws.Slices
import Derived.WalkKit
import Derived.KernelRfl
import Derived.RowKit3
import Derived.Deep.LoopGhost
import Derived.Deep.QuietTactic
import Derived.BigQuiet
import Derived.WideLaws
import Derived.Deep.DeepCutAuto
import Derived.Deep.CutBlock
import Derived.Deep.RegionHeld3
import Derived.Laws.Rows
import Derived.Lib.AppendStr
import Derived.ArgAppend
import Derived.Laws.IdiomCopy
import Derived.OrdersHeld
import Derived.Laws.BitsLemmas
import Derived.RowKit
import Derived.Test.YthbiofcgaegjkaaDoorWWords
import Derived.Test.YthbiofcgaegjkaaDoorWLast
import Derived.Test.YthbiofcgaegjkaaDoorWTab
import Derived.Test.YthbiofcgaegjkaaDoorWFour
import Derived.Test.YthbiofcgaegjkaaDoorWQPut
import Derived.Test.YthbiofcgaegjkaaDoorWApart
import Derived.Test.YthbiofcgaegjkaaDoorWArr
import Derived.Test.YthbiofcgaegjkaaDoorWZeros
import Derived.Test.YthbiofcgaegjkaaDoorWFoot
import Derived.Test.YthbiofcgaegjkaaDoorWKept
import Derived.Test.YthbiofcgaegjkaaDoorWShare
import Derived.Test.YthbiofcgaegjkaaDoorWN
import Derived.Test.YthbiofcgaegjkaaDoorWFootNe
import Derived.Test.YthbiofcgaegjkaaDoorWAt
import Derived.Test.YthbiofcgaegjkaaDoorWEqStruct
import Derived.Test.YthbiofcgaegjkaaDoorWRepsOne
import Derived.Test.YthbiofcgaegjkaaDoorWInv
import Derived.Test.YthbiofcgaegjkaaDoorWInvWords
import Derived.Test.YthbiofcgaegjkaaDoorWGuard
import Derived.Test.YthbiofcgaegjkaaDoorWNEv
import Derived.Test.YthbiofcgaegjkaaDoorWMore
namespace Go.Proofs.YthbiofcgaegjkaaDoor.PTreeA
open Go.RowKit Go.Proofs.YthbiofcgaegjkaaDoorW.PrintWords Go.Proofs.YthbiofcgaegjkaaDoorW.PrintLast Go.Proofs.YthbiofcgaegjkaaDoorW.PrintMore
attribute [local go_sem] max2_int min2_int max_two min_two max_three min_three max_four min_four   -- for this text's walks alone
set_option linter.unusedVariables false
set_option linter.unusedSimpArgs false




theorem info39 : (Tryd.prog.info? 39).map (fun i => (i.zero, i.size, i.bytes)) = some (some (.agg #[(.string ⟨#[]⟩), (.slice none 0 0), (.int .i64 0)]), 3, 48) := by kernel_rfl
-- the values' own types
/-! #### struct type 39, nested in itself -/
structure S39 where
  f0 : ByteArray
  f1 : (List S39)
  f2 : Int
def z39 : S39 := ⟨(⟨#[]⟩ : ByteArray), ([] : List S39), (0 : Int)⟩
def F39 (d : Kd S39) : Kd S39 := Kd.iso (Kd.pair Kd.string (Kd.pair (Kd.slice 39 d) (Kd.int .i64))) (fun x : S39 => (x.f0, x.f1, x.f2))
theorem mono39 : Kd.Mono F39 := Kd.mono_iso _ (Kd.mono_pair (Kd.mono_const _) (Kd.mono_pair (Kd.mono_slice 39 Kd.mono_id) (Kd.mono_const _)))
theorem sub39 : Kd.Sub F39 [39] := Kd.sub_iso _ (Kd.sub_pair (Kd.sub_const _ (by decide)) (Kd.sub_pair (Kd.sub_slice 39 (by decide) Kd.sub_id) (Kd.sub_const _ (by decide))))
theorem sz39 : ∀ n, (Kd.upto F39 3 [39] n).sz = 3 := Kd.upto_sz (fun _ => rfl)
def k39 : Kd S39 := Kd.fix F39 3 [39] sz39 (Kd.upto_E sub39)
theorem k39_open {w : World} {x : S39} {cs : List Value} (h : k39.K w x cs) : ∃ A1 c1, cs = [.string x.f0, .slice A1 x.f1.length c1, .int .i64 x.f2] ∧ x.f1.length ≤ c1 ∧ k39.C w A1 x.f1.length x.f1 := by
  obtain ⟨n, h⟩ := h
  cases n with
  | zero => exact h.elim
  | succ n =>
    obtain ⟨_, _, rfl, rfl, ⟨_, _, rfl, ⟨A1, c1, rfl, l1, g1⟩, rfl⟩⟩ := h
    exact ⟨A1, c1, rfl, l1, Kd.fix_C g1⟩
theorem k39_openM {w : World} {base : Nat} {ok : Nat → Prop} {x : S39} {cs : List Value} (h : k39.M w base ok x cs) : ∃ v1, cs = [.string x.f0, v1, .int .i64 x.f2] ∧ k39.R 39 w base ok v1 x.f1 := by
  obtain ⟨n, h⟩ := h
  cases n with
  | zero => exact h.elim
  | succ n =>
    obtain ⟨_, _, rfl, rfl, ⟨_, _, rfl, ⟨v1, rfl, g1⟩, rfl⟩⟩ := h
    exact ⟨v1, rfl, Kd.fix_R g1⟩
theorem k39_mk (w : World) (x : S39) {A1 : Option Addr} {c1 : Nat} (l1 : x.f1.length ≤ c1) (g1 : k39.C w A1 x.f1.length x.f1) : k39.K w x [.string x.f0, .slice A1 x.f1.length c1, .int .i64 x.f2] := by
  obtain ⟨n1, q1⟩ := Kd.fix_C_back mono39 g1
  have r1 := Kd.upto_C_le mono39 sz39 (show n1 ≤ n1 by omega) q1
  exact ⟨n1 + 1, ⟨[.string x.f0], [.slice A1 x.f1.length c1, .int .i64 x.f2], rfl, rfl, ⟨[.slice A1 x.f1.length c1], [.int .i64 x.f2], rfl, ⟨A1, c1, rfl, l1, r1⟩, rfl⟩⟩⟩
theorem k39_mkM (w : World) (base : Nat) (ok : Nat → Prop) (x : S39) {v1 : Value} (g1 : k39.R 39 w base ok v1 x.f1) : k39.M w base ok x [.string x.f0, v1, .int .i64 x.f2] := by
  obtain ⟨n1, q1⟩ := Kd.fix_R_back mono39 g1
  have r1 := Kd.upto_R_le mono39 sz39 (show n1 ≤ n1 by omega) q1
  exact ⟨n1 + 1, ⟨[.string x.f0], [v1, .int .i64 x.f2], rfl, rfl, ⟨[v1], [.int .i64 x.f2], rfl, ⟨v1, rfl, r1⟩, rfl⟩⟩⟩
def rd_T39 (xs : List S39) (i : Int) : S39 := xs.getD i.toNat z39
theorem at_T39 {w : World} {A : Option Addr} {n : Nat} {xs : List S39} (h : Kd.C k39 w A n xs) (i : Int) (h0 : 0 ≤ i) (h1 : i < n) : ∃ ad A1 c1, A = some ad ∧ w.cell? (ad.add (i.toNat * 3)) = some (.string (rd_T39 xs i).f0) ∧ w.cell? ⟨(ad.add (i.toNat * 3)).block, (ad.add (i.toNat * 3)).off + 1, none⟩ = some (.slice A1 (rd_T39 xs i).f1.length c1) ∧ w.cell? ⟨(ad.add (i.toNat * 3)).block, (ad.add (i.toNat * 3)).off + 2, none⟩ = some (.int .i64 (rd_T39 xs i).f2) ∧ (rd_T39 xs i).f1.length ≤ c1 ∧ k39.C w A1 (rd_T39 xs i).f1.length (rd_T39 xs i).f1 := by
  obtain ⟨ad, c, e, _, hK, hc0⟩ := Kd.C_get h z39 i h0 h1
  have hc : ∀ j u, c[j]? = some u → w.cell? (ad.add (i.toNat * 3 + j)) = some u := hc0
  obtain ⟨A1, c1, rfl, l1, g1⟩ := k39_open hK
  exact ⟨ad, A1, c1, e, hc 0 _ rfl, by rw [← add_field _ _ 1 (by omega)]; exact hc 1 _ rfl, by rw [← add_field _ _ 2 (by omega)]; exact hc 2 _ rfl, l1, g1⟩

def rd_L3 (xs : List (List S39)) (i : Int) : (List S39) := xs.getD i.toNat ([] : List S39)
theorem at_L3 {w : World} {A : Option Addr} {n : Nat} {xs : List (List S39)} (h : Kd.C (Kd.slice 39 k39) w A n xs) (i : Int) (h0 : 0 ≤ i) (h1 : i < n) : ∃ ad A0 c0, A = some ad ∧ w.cell? (ad.add i.toNat) = some (.slice A0 (rd_L3 xs i).length c0) ∧ (rd_L3 xs i).length ≤ c0 ∧ k39.C w A0 (rd_L3 xs i).length (rd_L3 xs i) := by
  obtain ⟨ad, c, e, _, hK, hc0⟩ := Kd.C_get h ([] : List S39) i h0 h1
  have hc : ∀ j u, c[j]? = some u → w.cell? (ad.add (i.toNat * 1 + j)) = some u := hc0
  obtain ⟨A0, c0, rfl, l0, g0⟩ := hK
  exact ⟨ad, A0, c0, e, by have hq := hc 0 _ rfl; rwa [Nat.mul_one, Nat.add_zero] at hq, l0, g0⟩

/-! #### struct type 33 -/
structure S33 where
  f0 : Int
  f1 : Bool
  f2 : Int
def z33 : S33 := ⟨(0 : Int), false, (0 : Int)⟩
def k33 : Kd S33 := Kd.iso (Kd.pair (Kd.int .i64) (Kd.pair Kd.bool (Kd.int .i64))) (fun x : S33 => (x.f0, x.f1, x.f2))
theorem k33_open {w : World} {x : S33} {cs : List Value} (h : k33.K w x cs) : cs = [.int .i64 x.f0, .bool x.f1, .int .i64 x.f2] := by
  obtain ⟨_, _, rfl, rfl, ⟨_, _, rfl, rfl, rfl⟩⟩ := h
  exact rfl
theorem k33_openM {w : World} {base : Nat} {ok : Nat → Prop} {x : S33} {cs : List Value} (h : k33.M w base ok x cs) : cs = [.int .i64 x.f0, .bool x.f1, .int .i64 x.f2] := by
  obtain ⟨_, _, rfl, rfl, ⟨_, _, rfl, rfl, rfl⟩⟩ := h
  exact rfl
theorem k33_mk (w : World) (x : S33)  : k33.K w x [.int .i64 x.f0, .bool x.f1, .int .i64 x.f2] := ⟨[.int .i64 x.f0], [.bool x.f1, .int .i64 x.f2], rfl, rfl, ⟨[.bool x.f1], [.int .i64 x.f2], rfl, rfl, rfl⟩⟩
theorem k33_mkM (w : World) (base : Nat) (ok : Nat → Prop) (x : S33)  : k33.M w base ok x [.int .i64 x.f0, .bool x.f1, .int .i64 x.f2] := ⟨[.int .i64 x.f0], [.bool x.f1, .int .i64 x.f2], rfl, rfl, ⟨[.bool x.f1], [.int .i64 x.f2], rfl, rfl, rfl⟩⟩
def rd_T33 (xs : List S33) (i : Int) : S33 := xs.getD i.toNat z33
theorem at_T33 {w : World} {A : Option Addr} {n : Nat} {xs : List S33} (h : Kd.C k33 w A n xs) (i : Int) (h0 : 0 ≤ i) (h1 : i < n) : ∃ ad , A = some ad ∧ w.cell? (ad.add (i.toNat * 3)) = some (.int .i64 (rd_T33 xs i).f0) ∧ w.cell? ⟨(ad.add (i.toNat * 3)).block, (ad.add (i.toNat * 3)).off + 1, none⟩ = some (.bool (rd_T33 xs i).f1) ∧ w.cell? ⟨(ad.add (i.toNat * 3)).block, (ad.add (i.toNat * 3)).off + 2, none⟩ = some (.int .i64 (rd_T33 xs i).f2) := by
  obtain ⟨ad, c, e, _, hK, hc0⟩ := Kd.C_get h z33 i h0 h1
  have hc : ∀ j u, c[j]? = some u → w.cell? (ad.add (i.toNat * 3 + j)) = some u := hc0
  obtain rfl := k33_open hK
  exact ⟨ad, e, hc 0 _ rfl, by rw [← add_field _ _ 1 (by omega)]; exact hc 1 _ rfl, by rw [← add_field _ _ 2 (by omega)]; exact hc 2 _ rfl⟩

end Go.Proofs.YthbiofcgaegjkaaDoor.PTreeA
