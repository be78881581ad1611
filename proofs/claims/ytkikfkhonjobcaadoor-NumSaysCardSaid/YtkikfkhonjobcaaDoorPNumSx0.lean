/- For each Go function that the laws of this group reach: a plain function with the same answers, and the proof that the call comes to them wherever the plain function has an answer. No other condition. (Laid by a program of this session.) -/
import Derived.Test.YtkikfkhonjobcaaDoorProg
import Derived.Below
import Derived.Deep.Draws
import Derived.Deep.AppendLies
import Derived.Maps.AppendAt
import Derived.OwnWalk
import Derived.Laws.BytesArg
import Derived.Laws.MakeOwn
import Derived.Laws.OwnMore
import Derived.Deep.OwnRows
import Derived.Tactics
import Derived.Lib.ConvBytes
import Derived.Laws.Slices
import Derived.WalkKit
import Derived.KernelRfl
import Derived.RowKit3
import Derived.Deep.LoopGhost
import Derived.Deep.QuietTactic
import Derived.BigQuiet
import Derived.WideLaws
import Derived.Deep.DeepCutAuto
import Derived.Deep.CutBlock
import Derived.Deep.RegionHeld3
import Derived.Laws.Rows
import Derived.Lib.AppendStr
import Derived.ArgAppend
import Derived.Laws.IdiomCopy
import Derived.OrdersHeld
import Derived.Laws.BitsLemmas
import Derived.RowKit
import Derived.Test.YtkikfkhonjobcaaDoorWWords
import Derived.Test.YtkikfkhonjobcaaDoorWLast
import Derived.Test.YtkikfkhonjobcaaDoorWTab
import Derived.Test.YtkikfkhonjobcaaDoorWFour
import Derived.Test.YtkikfkhonjobcaaDoorWQPut
import Derived.Test.YtkikfkhonjobcaaDoorWApart
import Derived.Test.YtkikfkhonjobcaaDoorWArr
import Derived.Test.YtkikfkhonjobcaaDoorWZeros
import Derived.Test.YtkikfkhonjobcaaDoorWFoot
import Derived.Test.YtkikfkhonjobcaaDoorWKept
import Derived.Test.YtkikfkhonjobcaaDoorWShare
import Derived.Test.YtkikfkhonjobcaaDoorWN
import Derived.Test.YtkikfkhonjobcaaDoorWFootNe
import Derived.Test.YtkikfkhonjobcaaDoorWAt
import Derived.Test.YtkikfkhonjobcaaDoorWEqStruct
import Derived.Test.YtkikfkhonjobcaaDoorWRepsOne
import Derived.Test.YtkikfkhonjobcaaDoorWInv
import Derived.Test.YtkikfkhonjobcaaDoorWInvWords
import Derived.Test.YtkikfkhonjobcaaDoorWGuard
import Derived.Test.YtkikfkhonjobcaaDoorWNEv
import Derived.Test.YtkikfkhonjobcaaDoorWMore
namespace Go.Proofs.YtkikfkhonjobcaaDoor.PNumS
open Go.RowKit Go.Proofs.YtkikfkhonjobcaaDoorW.PrintWords Go.Proofs.YtkikfkhonjobcaaDoorW.PrintLast Go.Proofs.YtkikfkhonjobcaaDoorW.PrintMore
attribute [local go_sem] max2_int min2_int max_two min_two max_three min_three max_four min_four   -- for this text's walks alone
set_option linter.unusedVariables false
set_option linter.unusedSimpArgs false




theorem info9 : (Tryd.prog.info? 9).map (fun i => (i.zero, i.size, i.bytes)) = some (some (.string ⟨#[]⟩), 1, 16) := by kernel_rfl
-- the values' own types
/-! #### struct type 51 -/
structure S51 where
  f0 : Int
  f1 : Bool
  f2 : Int
def z51 : S51 := ⟨(0 : Int), false, (0 : Int)⟩
def k51 : Kd S51 := Kd.iso (Kd.pair (Kd.int .i64) (Kd.pair Kd.bool (Kd.int .i64))) (fun x : S51 => (x.f0, x.f1, x.f2))
theorem k51_open {w : World} {x : S51} {cs : List Value} (h : k51.K w x cs) : cs = [.int .i64 x.f0, .bool x.f1, .int .i64 x.f2] := by
  obtain ⟨_, _, rfl, rfl, ⟨_, _, rfl, rfl, rfl⟩⟩ := h
  exact rfl
theorem k51_openM {w : World} {base : Nat} {ok : Nat → Prop} {x : S51} {cs : List Value} (h : k51.M w base ok x cs) : cs = [.int .i64 x.f0, .bool x.f1, .int .i64 x.f2] := by
  obtain ⟨_, _, rfl, rfl, ⟨_, _, rfl, rfl, rfl⟩⟩ := h
  exact rfl
theorem k51_mk (w : World) (x : S51)  : k51.K w x [.int .i64 x.f0, .bool x.f1, .int .i64 x.f2] := ⟨[.int .i64 x.f0], [.bool x.f1, .int .i64 x.f2], rfl, rfl, ⟨[.bool x.f1], [.int .i64 x.f2], rfl, rfl, rfl⟩⟩
theorem k51_mkM (w : World) (base : Nat) (ok : Nat → Prop) (x : S51)  : k51.M w base ok x [.int .i64 x.f0, .bool x.f1, .int .i64 x.f2] := ⟨[.int .i64 x.f0], [.bool x.f1, .int .i64 x.f2], rfl, rfl, ⟨[.bool x.f1], [.int .i64 x.f2], rfl, rfl, rfl⟩⟩
def rd_T51 (xs : List S51) (i : Int) : S51 := xs.getD i.toNat z51
theorem at_T51 {w : World} {A : Option Addr} {n : Nat} {xs : List S51} (h : Kd.C k51 w A n xs) (i : Int) (h0 : 0 ≤ i) (h1 : i < n) : ∃ ad , A = some ad ∧ w.cell? (ad.add (i.toNat * 3)) = some (.int .i64 (rd_T51 xs i).f0) ∧ w.cell? ⟨(ad.add (i.toNat * 3)).block, (ad.add (i.toNat * 3)).off + 1, none⟩ = some (.bool (rd_T51 xs i).f1) ∧ w.cell? ⟨(ad.add (i.toNat * 3)).block, (ad.add (i.toNat * 3)).off + 2, none⟩ = some (.int .i64 (rd_T51 xs i).f2) := by
  obtain ⟨ad, c, e, _, hK, hc0⟩ := Kd.C_get h z51 i h0 h1
  have hc : ∀ j u, c[j]? = some u → w.cell? (ad.add (i.toNat * 3 + j)) = some u := hc0
  obtain rfl := k51_open hK
  exact ⟨ad, e, hc 0 _ rfl, by rw [← add_field _ _ 1 (by omega)]; exact hc 1 _ rfl, by rw [← add_field _ _ 2 (by omega)]; exact hc 2 _ rfl⟩

end Go.Proofs.YtkikfkhonjobcaaDoor.PNumS
