/- For each Go function that the laws of this group reach: a plain function with the same answers, and the proof that the call comes to them wherever the plain function has an answer. No other condition. (Laid by a program of this session.) -/
import Derived.Test.YtmoeekidmkhkoaaDoorProg
import Derived.Below
import Derived.Deep.Draws
import Derived.Deep.AppendLies
import Derived.Maps.AppendAt
import Derived.OwnWalk
import Derived.Laws.BytesArg
import Derived.Laws.MakeOwn
import Derived.Laws.OwnMore
import Derived.Deep.OwnRows
import Derived.Tactics
import Derived.Lib.ConvBytes
import Derived.Laws.Slices
import Derived.WalkKit
import Derived.KernelRfl
import Derived.RowKit3
import Derived.Deep.LoopGhost
import Derived.Deep.QuietTactic
import Derived.BigQuiet
import Derived.WideLaws
import Derived.Deep.DeepCutAuto
import Derived.Deep.CutBlock
import Derived.Deep.RegionHeld3
import Derived.Laws.Rows
import Derived.Lib.AppendStr
import Derived.ArgAppend
import Derived.Laws.IdiomCopy
import Derived.OrdersHeld
import Derived.Laws.BitsLemmas
import Derived.RowKit
import Derived.Test.YtmoeekidmkhkoaaDoorSWAll
namespace Go.Proofs.YtmoeekidmkhkoaaDoor.PFreeA
open Go.RowKit Go.Proofs.YtmoeekidmkhkoaaDoorW.PrintWords Go.Proofs.YtmoeekidmkhkoaaDoorW.PrintLast Go.Proofs.YtmoeekidmkhkoaaDoorW.PrintMore
attribute [local go_sem] max2_int min2_int max_two min_two max_three min_three max_four min_four   -- for this text's walks alone
set_option linter.unusedVariables false
set_option linter.unusedSimpArgs false
def errW : Option Int → Value
 | none => .nilIface
 | some c => .iface 0 (.int .i64 c)
theorem errW_none : errW none = .nilIface := rfl
theorem errW_some (c : Int) : errW (some c) = .iface 0 (.int .i64 c) := rfl
theorem info9 : (Tryd.prog.info? 9).map (fun i => (i.zero, i.size, i.bytes)) = some (some (.string ⟨#[]⟩), 1, 16) := by kernel_rfl
-- the values' own types
mutual
structure S33 where
 f0 : Int
 f1 : ByteArray
 f2 : Int
 f3 : (List ByteArray)
 f4 : (List S33)
 f5 : (List S40)
structure S40 where
 f0 : Int
 f1 : ByteArray
 f2 : Int
 f3 : (List ByteArray)
 f4 : S33
end
def z33 : S33 := ⟨(0 : Int), (⟨#[]⟩ : ByteArray), (0 : Int), ([] : List ByteArray), ([] : List S33), ([] : List S40)⟩
def G40 (d : Kd S33) : Kd S40 := Kd.iso (Kd.pair (Kd.int .i64) (Kd.pair Kd.string (Kd.pair (Kd.int .i64) (Kd.pair (Kd.slice 9 Kd.string) d)))) (fun x : S40 => (x.f0, x.f1, x.f2, x.f3, x.f4))
theorem monoG40 : Kd.Mono G40 := Kd.mono_iso _ (Kd.mono_pair (Kd.mono_const _) (Kd.mono_pair (Kd.mono_const _) (Kd.mono_pair (Kd.mono_const _) (Kd.mono_pair (Kd.mono_const _) Kd.mono_id))))
theorem subG40 {E : List Nat} : Kd.Sub (fun d => G40 d) ([9, 33, 40] ++ E) := Kd.sub_iso _ (Kd.sub_pair (Kd.sub_const _ (by intro q hq; exact List.mem_append_left _ (by revert q; decide))) (Kd.sub_pair (Kd.sub_const _ (by intro q hq; exact List.mem_append_left _ (by revert q; decide))) (Kd.sub_pair (Kd.sub_const _ (by intro q hq; exact List.mem_append_left _ (by revert q; decide))) (Kd.sub_pair (Kd.sub_const _ (by intro q hq; exact List.mem_append_left _ (by revert q; decide))) Kd.sub_id))))
def F33 (d : Kd S33) : Kd S33 := Kd.iso (Kd.pair (Kd.int .i64) (Kd.pair Kd.string (Kd.pair (Kd.int .i64) (Kd.pair (Kd.slice 9 Kd.string) (Kd.pair (Kd.slice 33 d) (Kd.slice 40 (G40 d))))))) (fun x : S33 => (x.f0, x.f1, x.f2, x.f3, x.f4, x.f5))
theorem mono33 : Kd.Mono F33 := Kd.mono_iso _ (Kd.mono_pair (Kd.mono_const _) (Kd.mono_pair (Kd.mono_const _) (Kd.mono_pair (Kd.mono_const _) (Kd.mono_pair (Kd.mono_const _) (Kd.mono_pair (Kd.mono_slice 33 Kd.mono_id) (Kd.mono_slice 40 monoG40))))))
theorem sub33 : Kd.Sub F33 [9, 33, 40] := Kd.sub_iso _ (Kd.sub_pair (Kd.sub_const _ (by decide)) (Kd.sub_pair (Kd.sub_const _ (by decide)) (Kd.sub_pair (Kd.sub_const _ (by decide)) (Kd.sub_pair (Kd.sub_const _ (by decide)) (Kd.sub_pair (Kd.sub_slice 33 (by decide) Kd.sub_id) (Kd.sub_slice 40 (by decide) (by simpa using (subG40 (E := [])))))))))
theorem sz33 : ∀ n, (Kd.upto F33 6 [9, 33, 40] n).sz = 6 := Kd.upto_sz (fun _ => rfl)
def k33 : Kd S33 := Kd.fix F33 6 [9, 33, 40] sz33 (Kd.upto_E sub33)
def k40 : Kd S40 := G40 k33
abbrev upto40 (n : Nat) : Kd S40 := G40 (Kd.upto F33 (k33).sz (k33).E n)
theorem via40_up {n : Nat} {w : World} {x : S40} {cs : List Value} (h : (upto40 n).K w x cs) : (k40).K w x cs := monoG40.K (Kd.upto F33 (k33).sz (k33).E n) k33 (sz33 n) (fun _ _ _ hp => ⟨n, hp⟩) _ _ _ h
theorem via40_size (n : Nat) : (upto40 n).sz = (k40).sz := monoG40.sz _ _ (sz33 n)
theorem via40_C {n : Nat} {w : World} {A : Option Addr} {m : Nat} {xs : List S40} (h : (upto40 n).C w A m xs) : (k40).C w A m xs := Kd.C_imp (via40_size n) (fun _ _ _ h => via40_up h) h
theorem via40_K_back {w : World} {x : S40} {cs : List Value} (h : (k40).K w x cs) : ∃ n, (upto40 n).K w x cs := by
 obtain ⟨_, _, rfl, h0, _, _, rfl, h1, _, _, rfl, h2, _, _, rfl, h3, n, h4⟩ := h
 exact ⟨n, _, _, rfl, h0, _, _, rfl, h1, _, _, rfl, h2, _, _, rfl, h3, h4⟩
theorem via40_K_le {n m : Nat} (hnm : n ≤ m) {w : World} {x : S40} {cs : List Value} (h : (upto40 n).K w x cs) : (upto40 m).K w x cs := monoG40.K _ _ (by rw [sz33 n, sz33 m]) (fun _ _ _ hp => Kd.upto_K_le mono33 sz33 hnm hp) _ _ _ h
theorem via40_C_le {n m : Nat} (hnm : n ≤ m) {w : World} {A : Option Addr} {l : Nat} {xs : List S40} (h : (upto40 n).C w A l xs) : (upto40 m).C w A l xs := Kd.C_imp (by rw [via40_size, via40_size]) (fun _ _ _ hp => via40_K_le hnm hp) h
theorem via40_C_back {w : World} {A : Option Addr} {m : Nat} {xs : List S40} (h : (k40).C w A m xs) : ∃ n, (upto40 n).C w A m xs := by
 rcases Nat.eq_zero_or_pos m with hz | hpos
 ·subst hz
  exact ⟨0, h.1, h.2.1, fun hp => absurd hp (Nat.lt_irrefl 0)⟩
 ·obtain ⟨ad, e, hc⟩ := h.2.2 hpos
  obtain ⟨N, hN⟩ := Kd.bounded (P := fun n j => ∀ p, xs[j]? = some p → ∃ c, c.length = (k40).sz ∧ (upto40 n).K w p c ∧ ∀ i u, c[i]? = some u → w.cell? (ad.add (j * (k40).sz + i)) = some u)
   (fun n n' j hnm hp p hj => by
    obtain ⟨c, h1, h2, h3⟩ := hp p hj
    exact ⟨c, h1, via40_K_le hnm h2, h3⟩) xs.length
   (fun j hj => by
    obtain ⟨c, h1, h2, h3⟩ := hc j _ (List.getElem?_eq_getElem hj)
    obtain ⟨n, h2⟩ := via40_K_back h2
    refine ⟨n, fun p hp => ?_⟩
    rw [List.getElem?_eq_getElem hj] at hp
    injection hp with hp
    rw [← hp]
    exact ⟨c, h1, h2, h3⟩)
  refine ⟨N, h.1, h.2.1, fun _ => ⟨ad, e, fun j p hj => ?_⟩⟩
  rw [via40_size]
  exact hN j (List.getElem?_eq_some_iff.1 hj).1 p hj
theorem k33_open {w : World} {x : S33} {cs : List Value} (h : k33.K w x cs) : ∃ A3 c3 A4 c4 A5 c5, cs = [.int .i64 x.f0, .string x.f1, .int .i64 x.f2, .slice A3 x.f3.length c3, .slice A4 x.f4.length c4, .slice A5 x.f5.length c5] ∧ x.f3.length ≤ c3 ∧ Kd.string.C w A3 x.f3.length x.f3 ∧ x.f4.length ≤ c4 ∧ k33.C w A4 x.f4.length x.f4 ∧ x.f5.length ≤ c5 ∧ k40.C w A5 x.f5.length x.f5 := by
 obtain ⟨n, h⟩ := h
 cases n with
 | zero => exact h.elim
 | succ n =>
  obtain ⟨_, _, rfl, rfl, ⟨_, _, rfl, rfl, ⟨_, _, rfl, rfl, ⟨_, _, rfl, ⟨A3, c3, rfl, l3, g3⟩, ⟨_, _, rfl, ⟨A4, c4, rfl, l4, g4⟩, ⟨A5, c5, rfl, l5, g5⟩⟩⟩⟩⟩⟩ := h
  exact ⟨A3, c3, A4, c4, A5, c5, rfl, l3, g3, l4, Kd.fix_C g4, l5, via40_C g5⟩
theorem k33_mk (w : World) (x : S33) {A3 : Option Addr} {c3 : Nat} (l3 : x.f3.length ≤ c3) (g3 : Kd.string.C w A3 x.f3.length x.f3) {A4 : Option Addr} {c4 : Nat} (l4 : x.f4.length ≤ c4) (g4 : k33.C w A4 x.f4.length x.f4) {A5 : Option Addr} {c5 : Nat} (l5 : x.f5.length ≤ c5) (g5 : k40.C w A5 x.f5.length x.f5) : k33.K w x [.int .i64 x.f0, .string x.f1, .int .i64 x.f2, .slice A3 x.f3.length c3, .slice A4 x.f4.length c4, .slice A5 x.f5.length c5] := by
 obtain ⟨n4, q4⟩ := Kd.fix_C_back mono33 g4
 obtain ⟨n5, q5⟩ := via40_C_back g5
 have r4 := Kd.upto_C_le mono33 sz33 (show n4 ≤ (max n4 n5) by omega) q4
 have r5 := via40_C_le (show n5 ≤ (max n4 n5) by omega) q5
 exact ⟨(max n4 n5) + 1, ⟨[.int .i64 x.f0], [.string x.f1, .int .i64 x.f2, .slice A3 x.f3.length c3, .slice A4 x.f4.length c4, .slice A5 x.f5.length c5], rfl, rfl, ⟨[.string x.f1], [.int .i64 x.f2, .slice A3 x.f3.length c3, .slice A4 x.f4.length c4, .slice A5 x.f5.length c5], rfl, rfl, ⟨[.int .i64 x.f2], [.slice A3 x.f3.length c3, .slice A4 x.f4.length c4, .slice A5 x.f5.length c5], rfl, rfl, ⟨[.slice A3 x.f3.length c3], [.slice A4 x.f4.length c4, .slice A5 x.f5.length c5], rfl, ⟨A3, c3, rfl, l3, g3⟩, ⟨[.slice A4 x.f4.length c4], [.slice A5 x.f5.length c5], rfl, ⟨A4, c4, rfl, l4, r4⟩, ⟨A5, c5, rfl, l5, r5⟩⟩⟩⟩⟩⟩⟩
def rd_T33 (xs : List S33) (i : Int) : S33 := xs.getD i.toNat z33
theorem at_T33 {w : World} {A : Option Addr} {n : Nat} {xs : List S33} (h : Kd.C k33 w A n xs) (i : Int) (h0 : 0 ≤ i) (h1 : i < n) : ∃ ad A3 c3 A4 c4 A5 c5, A = some ad ∧ w.cell? (ad.add (i.toNat * 6)) = some (.int .i64 (rd_T33 xs i).f0) ∧ w.cell? ⟨(ad.add (i.toNat * 6)).block, (ad.add (i.toNat * 6)).off + 1, none⟩ = some (.string (rd_T33 xs i).f1) ∧ w.cell? ⟨(ad.add (i.toNat * 6)).block, (ad.add (i.toNat * 6)).off + 2, none⟩ = some (.int .i64 (rd_T33 xs i).f2) ∧ w.cell? ⟨(ad.add (i.toNat * 6)).block, (ad.add (i.toNat * 6)).off + 3, none⟩ = some (.slice A3 (rd_T33 xs i).f3.length c3) ∧ w.cell? ⟨(ad.add (i.toNat * 6)).block, (ad.add (i.toNat * 6)).off + 4, none⟩ = some (.slice A4 (rd_T33 xs i).f4.length c4) ∧ w.cell? ⟨(ad.add (i.toNat * 6)).block, (ad.add (i.toNat * 6)).off + 5, none⟩ = some (.slice A5 (rd_T33 xs i).f5.length c5) ∧ (rd_T33 xs i).f3.length ≤ c3 ∧ Kd.string.C w A3 (rd_T33 xs i).f3.length (rd_T33 xs i).f3 ∧ (rd_T33 xs i).f4.length ≤ c4 ∧ k33.C w A4 (rd_T33 xs i).f4.length (rd_T33 xs i).f4 ∧ (rd_T33 xs i).f5.length ≤ c5 ∧ k40.C w A5 (rd_T33 xs i).f5.length (rd_T33 xs i).f5 := by
 obtain ⟨ad, c, e, _, hK, hc0⟩ := Kd.C_get h z33 i h0 h1
 have hc : ∀ j u, c[j]? = some u → w.cell? (ad.add (i.toNat * 6 + j)) = some u := hc0
 obtain ⟨A3, c3, A4, c4, A5, c5, rfl, l3, g3, l4, g4, l5, g5⟩ := k33_open hK
 exact ⟨ad, A3, c3, A4, c4, A5, c5, e, hc 0 _ rfl, by rw [← add_field _ _ 1 (by omega)]; exact hc 1 _ rfl, by rw [← add_field _ _ 2 (by omega)]; exact hc 2 _ rfl, by rw [← add_field _ _ 3 (by omega)]; exact hc 3 _ rfl, by rw [← add_field _ _ 4 (by omega)]; exact hc 4 _ rfl, by rw [← add_field _ _ 5 (by omega)]; exact hc 5 _ rfl, l3, g3, l4, g4, l5, g5⟩
def z40 : S40 := ⟨(0 : Int), (⟨#[]⟩ : ByteArray), (0 : Int), ([] : List ByteArray), z33⟩
theorem k40_open {w : World} {x : S40} {cs : List Value} (h : k40.K w x cs) : ∃ A3 c3 A7 c7 A8 c8 A9 c9, cs = [.int .i64 x.f0, .string x.f1, .int .i64 x.f2, .slice A3 x.f3.length c3, .int .i64 x.f4.f0, .string x.f4.f1, .int .i64 x.f4.f2, .slice A7 x.f4.f3.length c7, .slice A8 x.f4.f4.length c8, .slice A9 x.f4.f5.length c9] ∧ x.f3.length ≤ c3 ∧ Kd.string.C w A3 x.f3.length x.f3 ∧ x.f4.f3.length ≤ c7 ∧ Kd.string.C w A7 x.f4.f3.length x.f4.f3 ∧ x.f4.f4.length ≤ c8 ∧ k33.C w A8 x.f4.f4.length x.f4.f4 ∧ x.f4.f5.length ≤ c9 ∧ k40.C w A9 x.f4.f5.length x.f4.f5 := by
 obtain ⟨_, _, rfl, rfl, ⟨_, _, rfl, rfl, ⟨_, _, rfl, rfl, ⟨_, _, rfl, ⟨A3, c3, rfl, l3, g3⟩, s4⟩⟩⟩⟩ := h
 obtain ⟨A7, c7, A8, c8, A9, c9, rfl, l7, g7, l8, g8, l9, g9⟩ := k33_open s4
 exact ⟨A3, c3, A7, c7, A8, c8, A9, c9, rfl, l3, g3, l7, g7, l8, g8, l9, g9⟩
theorem k40_mk (w : World) (x : S40) {A3 : Option Addr} {c3 : Nat} (l3 : x.f3.length ≤ c3) (g3 : Kd.string.C w A3 x.f3.length x.f3) {A7 : Option Addr} {c7 : Nat} (l7 : x.f4.f3.length ≤ c7) (g7 : Kd.string.C w A7 x.f4.f3.length x.f4.f3) {A8 : Option Addr} {c8 : Nat} (l8 : x.f4.f4.length ≤ c8) (g8 : k33.C w A8 x.f4.f4.length x.f4.f4) {A9 : Option Addr} {c9 : Nat} (l9 : x.f4.f5.length ≤ c9) (g9 : k40.C w A9 x.f4.f5.length x.f4.f5) : k40.K w x [.int .i64 x.f0, .string x.f1, .int .i64 x.f2, .slice A3 x.f3.length c3, .int .i64 x.f4.f0, .string x.f4.f1, .int .i64 x.f4.f2, .slice A7 x.f4.f3.length c7, .slice A8 x.f4.f4.length c8, .slice A9 x.f4.f5.length c9] := ⟨[.int .i64 x.f0], [.string x.f1, .int .i64 x.f2, .slice A3 x.f3.length c3, .int .i64 x.f4.f0, .string x.f4.f1, .int .i64 x.f4.f2, .slice A7 x.f4.f3.length c7, .slice A8 x.f4.f4.length c8, .slice A9 x.f4.f5.length c9], rfl, rfl, ⟨[.string x.f1], [.int .i64 x.f2, .slice A3 x.f3.length c3, .int .i64 x.f4.f0, .string x.f4.f1, .int .i64 x.f4.f2, .slice A7 x.f4.f3.length c7, .slice A8 x.f4.f4.length c8, .slice A9 x.f4.f5.length c9], rfl, rfl, ⟨[.int .i64 x.f2], [.slice A3 x.f3.length c3, .int .i64 x.f4.f0, .string x.f4.f1, .int .i64 x.f4.f2, .slice A7 x.f4.f3.length c7, .slice A8 x.f4.f4.length c8, .slice A9 x.f4.f5.length c9], rfl, rfl, ⟨[.slice A3 x.f3.length c3], [.int .i64 x.f4.f0, .string x.f4.f1, .int .i64 x.f4.f2, .slice A7 x.f4.f3.length c7, .slice A8 x.f4.f4.length c8, .slice A9 x.f4.f5.length c9], rfl, ⟨A3, c3, rfl, l3, g3⟩, (k33_mk w x.f4 l7 g7 l8 g8 l9 g9)⟩⟩⟩⟩
def rd_T40 (xs : List S40) (i : Int) : S40 := xs.getD i.toNat z40
theorem at_T40 {w : World} {A : Option Addr} {n : Nat} {xs : List S40} (h : Kd.C k40 w A n xs) (i : Int) (h0 : 0 ≤ i) (h1 : i < n) : ∃ ad A3 c3 A7 c7 A8 c8 A9 c9, A = some ad ∧ w.cell? (ad.add (i.toNat * 10)) = some (.int .i64 (rd_T40 xs i).f0) ∧ w.cell? ⟨(ad.add (i.toNat * 10)).block, (ad.add (i.toNat * 10)).off + 1, none⟩ = some (.string (rd_T40 xs i).f1) ∧ w.cell? ⟨(ad.add (i.toNat * 10)).block, (ad.add (i.toNat * 10)).off + 2, none⟩ = some (.int .i64 (rd_T40 xs i).f2) ∧ w.cell? ⟨(ad.add (i.toNat * 10)).block, (ad.add (i.toNat * 10)).off + 3, none⟩ = some (.slice A3 (rd_T40 xs i).f3.length c3) ∧ w.cell? ⟨(ad.add (i.toNat * 10)).block, (ad.add (i.toNat * 10)).off + 4, none⟩ = some (.int .i64 (rd_T40 xs i).f4.f0) ∧ w.cell? ⟨(ad.add (i.toNat * 10)).block, (ad.add (i.toNat * 10)).off + 5, none⟩ = some (.string (rd_T40 xs i).f4.f1) ∧ w.cell? ⟨(ad.add (i.toNat * 10)).block, (ad.add (i.toNat * 10)).off + 6, none⟩ = some (.int .i64 (rd_T40 xs i).f4.f2) ∧ w.cell? ⟨(ad.add (i.toNat * 10)).block, (ad.add (i.toNat * 10)).off + 7, none⟩ = some (.slice A7 (rd_T40 xs i).f4.f3.length c7) ∧ w.cell? ⟨(ad.add (i.toNat * 10)).block, (ad.add (i.toNat * 10)).off + 8, none⟩ = some (.slice A8 (rd_T40 xs i).f4.f4.length c8) ∧ w.cell? ⟨(ad.add (i.toNat * 10)).block, (ad.add (i.toNat * 10)).off + 9, none⟩ = some (.slice A9 (rd_T40 xs i).f4.f5.length c9) ∧ (rd_T40 xs i).f3.length ≤ c3 ∧ Kd.string.C w A3 (rd_T40 xs i).f3.length (rd_T40 xs i).f3 ∧ (rd_T40 xs i).f4.f3.length ≤ c7 ∧ Kd.string.C w A7 (rd_T40 xs i).f4.f3.length (rd_T40 xs i).f4.f3 ∧ (rd_T40 xs i).f4.f4.length ≤ c8 ∧ k33.C w A8 (rd_T40 xs i).f4.f4.length (rd_T40 xs i).f4.f4 ∧ (rd_T40 xs i).f4.f5.length ≤ c9 ∧ k40.C w A9 (rd_T40 xs i).f4.f5.length (rd_T40 xs i).f4.f5 := by
 obtain ⟨ad, c, e, _, hK, hc0⟩ := Kd.C_get h z40 i h0 h1
 have hc : ∀ j u, c[j]? = some u → w.cell? (ad.add (i.toNat * 10 + j)) = some u := hc0
 obtain ⟨A3, c3, A7, c7, A8, c8, A9, c9, rfl, l3, g3, l7, g7, l8, g8, l9, g9⟩ := k40_open hK
 exact ⟨ad, A3, c3, A7, c7, A8, c8, A9, c9, e, hc 0 _ rfl, by rw [← add_field _ _ 1 (by omega)]; exact hc 1 _ rfl, by rw [← add_field _ _ 2 (by omega)]; exact hc 2 _ rfl, by rw [← add_field _ _ 3 (by omega)]; exact hc 3 _ rfl, by rw [← add_field _ _ 4 (by omega)]; exact hc 4 _ rfl, by rw [← add_field _ _ 5 (by omega)]; exact hc 5 _ rfl, by rw [← add_field _ _ 6 (by omega)]; exact hc 6 _ rfl, by rw [← add_field _ _ 7 (by omega)]; exact hc 7 _ rfl, by rw [← add_field _ _ 8 (by omega)]; exact hc 8 _ rfl, by rw [← add_field _ _ 9 (by omega)]; exact hc 9 _ rfl, l3, g3, l7, g7, l8, g8, l9, g9⟩
structure S56 where
 f0 : ByteArray
 f1 : (List S56)
 f2 : Int
def z56 : S56 := ⟨(⟨#[]⟩ : ByteArray), ([] : List S56), (0 : Int)⟩
def F56 (d : Kd S56) : Kd S56 := Kd.iso (Kd.pair Kd.string (Kd.pair (Kd.slice 56 d) (Kd.int .i64))) (fun x : S56 => (x.f0, x.f1, x.f2))
theorem mono56 : Kd.Mono F56 := Kd.mono_iso _ (Kd.mono_pair (Kd.mono_const _) (Kd.mono_pair (Kd.mono_slice 56 Kd.mono_id) (Kd.mono_const _)))
theorem sub56 : Kd.Sub F56 [56] := Kd.sub_iso _ (Kd.sub_pair (Kd.sub_const _ (by decide)) (Kd.sub_pair (Kd.sub_slice 56 (by decide) Kd.sub_id) (Kd.sub_const _ (by decide))))
theorem sz56 : ∀ n, (Kd.upto F56 3 [56] n).sz = 3 := Kd.upto_sz (fun _ => rfl)
def k56 : Kd S56 := Kd.fix F56 3 [56] sz56 (Kd.upto_E sub56)
theorem k56_open {w : World} {x : S56} {cs : List Value} (h : k56.K w x cs) : ∃ A1 c1, cs = [.string x.f0, .slice A1 x.f1.length c1, .int .i64 x.f2] ∧ x.f1.length ≤ c1 ∧ k56.C w A1 x.f1.length x.f1 := by
 obtain ⟨n, h⟩ := h
 cases n with
 | zero => exact h.elim
 | succ n =>
  obtain ⟨_, _, rfl, rfl, ⟨_, _, rfl, ⟨A1, c1, rfl, l1, g1⟩, rfl⟩⟩ := h
  exact ⟨A1, c1, rfl, l1, Kd.fix_C g1⟩
theorem k56_mk (w : World) (x : S56) {A1 : Option Addr} {c1 : Nat} (l1 : x.f1.length ≤ c1) (g1 : k56.C w A1 x.f1.length x.f1) : k56.K w x [.string x.f0, .slice A1 x.f1.length c1, .int .i64 x.f2] := by
 obtain ⟨n1, q1⟩ := Kd.fix_C_back mono56 g1
 have r1 := Kd.upto_C_le mono56 sz56 (show n1 ≤ n1 by omega) q1
 exact ⟨n1 + 1, ⟨[.string x.f0], [.slice A1 x.f1.length c1, .int .i64 x.f2], rfl, rfl, ⟨[.slice A1 x.f1.length c1], [.int .i64 x.f2], rfl, ⟨A1, c1, rfl, l1, r1⟩, rfl⟩⟩⟩
def rd_T56 (xs : List S56) (i : Int) : S56 := xs.getD i.toNat z56
theorem at_T56 {w : World} {A : Option Addr} {n : Nat} {xs : List S56} (h : Kd.C k56 w A n xs) (i : Int) (h0 : 0 ≤ i) (h1 : i < n) : ∃ ad A1 c1, A = some ad ∧ w.cell? (ad.add (i.toNat * 3)) = some (.string (rd_T56 xs i).f0) ∧ w.cell? ⟨(ad.add (i.toNat * 3)).block, (ad.add (i.toNat * 3)).off + 1, none⟩ = some (.slice A1 (rd_T56 xs i).f1.length c1) ∧ w.cell? ⟨(ad.add (i.toNat * 3)).block, (ad.add (i.toNat * 3)).off + 2, none⟩ = some (.int .i64 (rd_T56 xs i).f2) ∧ (rd_T56 xs i).f1.length ≤ c1 ∧ k56.C w A1 (rd_T56 xs i).f1.length (rd_T56 xs i).f1 := by
 obtain ⟨ad, c, e, _, hK, hc0⟩ := Kd.C_get h z56 i h0 h1
 have hc : ∀ j u, c[j]? = some u → w.cell? (ad.add (i.toNat * 3 + j)) = some u := hc0
 obtain ⟨A1, c1, rfl, l1, g1⟩ := k56_open hK
 exact ⟨ad, A1, c1, e, hc 0 _ rfl, by rw [← add_field _ _ 1 (by omega)]; exact hc 1 _ rfl, by rw [← add_field _ _ 2 (by omega)]; exact hc 2 _ rfl, l1, g1⟩
end Go.Proofs.YtmoeekidmkhkoaaDoor.PFreeA

