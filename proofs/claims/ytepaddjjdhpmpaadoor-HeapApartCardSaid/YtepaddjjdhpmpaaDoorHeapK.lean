/- The kind of a heap's words (a struct of a bool and a whole number), by the print's combinators. No condition. -/
import Derived.Test.YtepaddjjdhpmpaaDoorProg
import Derived.Below
import Derived.Deep.Draws
import Derived.Deep.AppendLies
import Derived.Maps.AppendAt
import Derived.OwnWalk
import Derived.Laws.BytesArg
import Derived.Laws.MakeOwn
import Derived.Laws.OwnMore
import Derived.Deep.OwnRows
import Derived.Tactics
import Derived.Lib.ConvBytes
import Derived.Laws.Slices
import Derived.WalkKit
import Derived.KernelRfl
import Derived.RowKit3
import Derived.Deep.LoopGhost
import Derived.Deep.QuietTactic
import Derived.BigQuiet
import Derived.WideLaws
import Derived.Deep.DeepCutAuto
import Derived.Deep.CutBlock
import Derived.Deep.RegionHeld3
import Derived.Laws.Rows
import Derived.Lib.AppendStr
import Derived.ArgAppend
import Derived.Laws.IdiomCopy
import Derived.OrdersHeld
import Derived.Laws.BitsLemmas
import Derived.RowKit
import Derived.Test.YtepaddjjdhpmpaaDoorWWords
import Derived.Test.YtepaddjjdhpmpaaDoorWLast
import Derived.Test.YtepaddjjdhpmpaaDoorWTab
import Derived.Test.YtepaddjjdhpmpaaDoorWFour
import Derived.Test.YtepaddjjdhpmpaaDoorWQPut
import Derived.Test.YtepaddjjdhpmpaaDoorWApart
import Derived.Test.YtepaddjjdhpmpaaDoorWArr
import Derived.Test.YtepaddjjdhpmpaaDoorWZeros
import Derived.Test.YtepaddjjdhpmpaaDoorWFoot
import Derived.Test.YtepaddjjdhpmpaaDoorWKept
import Derived.Test.YtepaddjjdhpmpaaDoorWShare
import Derived.Test.YtepaddjjdhpmpaaDoorWN
import Derived.Test.YtepaddjjdhpmpaaDoorWFootNe
import Derived.Test.YtepaddjjdhpmpaaDoorWAt
import Derived.Test.YtepaddjjdhpmpaaDoorWEqStruct
import Derived.Test.YtepaddjjdhpmpaaDoorWRepsOne
import Derived.Test.YtepaddjjdhpmpaaDoorWInv
import Derived.Test.YtepaddjjdhpmpaaDoorWInvWords
import Derived.Test.YtepaddjjdhpmpaaDoorWGuard
import Derived.Test.YtepaddjjdhpmpaaDoorWNEv
import Derived.Test.YtepaddjjdhpmpaaDoorWMore
namespace Go.Proofs.YtepaddjjdhpmpaaDoor.HeapK
open Go.RowKit Go.Proofs.YtepaddjjdhpmpaaDoorW.PrintWords Go.Proofs.YtepaddjjdhpmpaaDoorW.PrintLast Go.Proofs.YtepaddjjdhpmpaaDoorW.PrintMore
set_option linter.unusedVariables false
set_option linter.unusedSimpArgs false
theorem info33 : (Tryd.prog.info? 33).map (fun i => (i.zero, i.size, i.bytes)) = some (some (.agg #[.bool false, .int .i64 0]), 2, 16) := by kernel_rfl
/-! #### struct type 33 -/
structure S33 where
  f0 : Bool
  f1 : Int
def z33 : S33 := ⟨false, (0 : Int)⟩
def k33 : Kd S33 := Kd.iso (Kd.pair Kd.bool (Kd.int .i64)) (fun x : S33 => (x.f0, x.f1))
theorem k33_open {w : World} {x : S33} {cs : List Value} (h : k33.K w x cs) : cs = [.bool x.f0, .int .i64 x.f1] := by
  obtain ⟨_, _, rfl, rfl, rfl⟩ := h
  exact rfl
theorem k33_openM {w : World} {base : Nat} {ok : Nat → Prop} {x : S33} {cs : List Value} (h : k33.M w base ok x cs) : cs = [.bool x.f0, .int .i64 x.f1] := by
  obtain ⟨_, _, rfl, rfl, rfl⟩ := h
  exact rfl
theorem k33_mk (w : World) (x : S33)  : k33.K w x [.bool x.f0, .int .i64 x.f1] := ⟨[.bool x.f0], [.int .i64 x.f1], rfl, rfl, rfl⟩
theorem k33_mkM (w : World) (base : Nat) (ok : Nat → Prop) (x : S33)  : k33.M w base ok x [.bool x.f0, .int .i64 x.f1] := ⟨[.bool x.f0], [.int .i64 x.f1], rfl, rfl, rfl⟩
def rd_T33 (xs : List S33) (i : Int) : S33 := xs.getD i.toNat z33
theorem at_T33 {w : World} {A : Option Addr} {n : Nat} {xs : List S33} (h : Kd.C k33 w A n xs) (i : Int) (h0 : 0 ≤ i) (h1 : i < n) : ∃ ad , A = some ad ∧ w.cell? (ad.add (i.toNat * 2)) = some (.bool (rd_T33 xs i).f0) ∧ w.cell? ⟨(ad.add (i.toNat * 2)).block, (ad.add (i.toNat * 2)).off + 1, none⟩ = some (.int .i64 (rd_T33 xs i).f1) := by
  obtain ⟨ad, c, e, _, hK, hc0⟩ := Kd.C_get h z33 i h0 h1
  have hc : ∀ j u, c[j]? = some u → w.cell? (ad.add (i.toNat * 2 + j)) = some u := hc0
  obtain rfl := k33_open hK
  exact ⟨ad, e, hc 0 _ rfl, by rw [← add_field _ _ 1 (by omega)]; exact hc 1 _ rfl⟩

end Go.Proofs.YtepaddjjdhpmpaaDoor.HeapK
