/- For each Go function that the laws of this group reach: a plain function with the same answers, and the proof that the call comes to them wherever the plain function has an answer. No other condition. (Laid by a program of this session.) -/
import Derived.Test.YtlgpoigbadajnaaDoorProg
import Derived.Below
import Derived.Deep.Draws
import Derived.Deep.AppendLies
import Derived.Maps.AppendAt
import Derived.OwnWalk
import Derived.Laws.BytesArg
import Derived.Laws.MakeOwn
import Derived.Laws.OwnMore
import Derived.Deep.OwnRows
import Derived.Tactics
import Derived.Lib.ConvBytes
import Derived.Laws.Slices
import Derived.WalkKit
import Derived.KernelRfl
import Derived.RowKit3
import Derived.Deep.LoopGhost
import Derived.Deep.QuietTactic
import Derived.BigQuiet
import Derived.WideLaws
import Derived.Deep.DeepCutAuto
import Derived.Deep.CutBlock
import Derived.Deep.RegionHeld3
import Derived.Laws.Rows
import Derived.Lib.AppendStr
import Derived.ArgAppend
import Derived.Laws.IdiomCopy
import Derived.OrdersHeld
import Derived.Laws.BitsLemmas
import Derived.RowKit
import Derived.Test.YtlgpoigbadajnaaDoorWWords
import Derived.Test.YtlgpoigbadajnaaDoorWLast
import Derived.Test.YtlgpoigbadajnaaDoorWTab
import Derived.Test.YtlgpoigbadajnaaDoorWFour
import Derived.Test.YtlgpoigbadajnaaDoorWQPut
import Derived.Test.YtlgpoigbadajnaaDoorWApart
import Derived.Test.YtlgpoigbadajnaaDoorWArr
import Derived.Test.YtlgpoigbadajnaaDoorWZeros
import Derived.Test.YtlgpoigbadajnaaDoorWFoot
import Derived.Test.YtlgpoigbadajnaaDoorWKept
import Derived.Test.YtlgpoigbadajnaaDoorWShare
import Derived.Test.YtlgpoigbadajnaaDoorWN
import Derived.Test.YtlgpoigbadajnaaDoorWFootNe
import Derived.Test.YtlgpoigbadajnaaDoorWAt
import Derived.Test.YtlgpoigbadajnaaDoorWEqStruct
import Derived.Test.YtlgpoigbadajnaaDoorWRepsOne
import Derived.Test.YtlgpoigbadajnaaDoorWInv
import Derived.Test.YtlgpoigbadajnaaDoorWInvWords
import Derived.Test.YtlgpoigbadajnaaDoorWGuard
import Derived.Test.YtlgpoigbadajnaaDoorWNEv
import Derived.Test.YtlgpoigbadajnaaDoorWMore
namespace Go.Proofs.YtlgpoigbadajnaaDoor.PDepA
open Go.RowKit Go.Proofs.YtlgpoigbadajnaaDoorW.PrintWords Go.Proofs.YtlgpoigbadajnaaDoorW.PrintLast Go.Proofs.YtlgpoigbadajnaaDoorW.PrintMore
attribute [local go_sem] max2_int min2_int max_two min_two max_three min_three max_four min_four   -- for this text's walks alone
set_option linter.unusedVariables false
set_option linter.unusedSimpArgs false



def errW : Option Int → Value
  | none => .nilIface
  | some c => .iface 0 (.int .i64 c)
theorem errW_none : errW none = .nilIface := rfl
theorem errW_some (c : Int) : errW (some c) = .iface 0 (.int .i64 c) := rfl

theorem info9 : (Tryd.prog.info? 9).map (fun i => (i.zero, i.size, i.bytes)) = some (some (.string ⟨#[]⟩), 1, 16) := by kernel_rfl
theorem info29 : (Tryd.prog.info? 29).map (fun i => (i.zero, i.size, i.bytes)) = some (some (.agg #[(.int .i64 0), (.string ⟨#[]⟩), (.int .i64 0), (.slice none 0 0), (.slice none 0 0), (.slice none 0 0)]), 6, 104) := by kernel_rfl
theorem info34 : (Tryd.prog.info? 34).map (fun i => (i.zero, i.size, i.bytes)) = some (some (.agg #[(.string ⟨#[]⟩), (.slice none 0 0), (.int .i64 0), (.string ⟨#[]⟩), (.int .i64 0), (.slice none 0 0), (.slice none 0 0), (.slice none 0 0)]), 8, 144) := by kernel_rfl
theorem info56 : (Tryd.prog.info? 56).map (fun i => (i.zero, i.size, i.bytes)) = some (some (.agg #[(.string ⟨#[]⟩), (.slice none 0 0), (.slice none 0 0)]), 3, 64) := by kernel_rfl
theorem info65 : (Tryd.prog.info? 65).map (fun i => (i.zero, i.size, i.bytes)) = some (some (.agg #[(.string ⟨#[]⟩), (.slice none 0 0)]), 2, 40) := by kernel_rfl
theorem info67 : (Tryd.prog.info? 67).map (fun i => (i.zero, i.size, i.bytes)) = some (some (.agg #[(.string ⟨#[]⟩), (.slice none 0 0)]), 2, 40) := by kernel_rfl
theorem info88 : (Tryd.prog.info? 88).map (fun i => (i.zero, i.size, i.bytes)) = some (some (.agg #[(.int .i64 0), (.string ⟨#[]⟩), (.int .i64 0), (.slice none 0 0), (.int .i64 0), (.string ⟨#[]⟩), (.int .i64 0), (.slice none 0 0), (.slice none 0 0), (.slice none 0 0)]), 10, 160) := by kernel_rfl
-- the values' own types
def rd_L2 (xs : List (List ByteArray)) (i : Int) : (List ByteArray) := xs.getD i.toNat ([] : List ByteArray)
theorem at_L2 {w : World} {A : Option Addr} {n : Nat} {xs : List (List ByteArray)} (h : Kd.C (Kd.slice 9 Kd.string) w A n xs) (i : Int) (h0 : 0 ≤ i) (h1 : i < n) : ∃ ad A0 c0, A = some ad ∧ w.cell? (ad.add i.toNat) = some (.slice A0 (rd_L2 xs i).length c0) ∧ (rd_L2 xs i).length ≤ c0 ∧ Kd.string.C w A0 (rd_L2 xs i).length (rd_L2 xs i) := by
  obtain ⟨ad, c, e, _, hK, hc0⟩ := Kd.C_get h ([] : List ByteArray) i h0 h1
  have hc : ∀ j u, c[j]? = some u → w.cell? (ad.add (i.toNat * 1 + j)) = some u := hc0
  obtain ⟨A0, c0, rfl, l0, g0⟩ := hK
  exact ⟨ad, A0, c0, e, by have hq := hc 0 _ rfl; rwa [Nat.mul_one, Nat.add_zero] at hq, l0, g0⟩

/-! #### struct type 29, nested in itself -/
mutual
structure S29 where
  f0 : Int
  f1 : ByteArray
  f2 : Int
  f3 : (List ByteArray)
  f4 : (List S29)
  f5 : (List S88)
structure S88 where
  f0 : Int
  f1 : ByteArray
  f2 : Int
  f3 : (List ByteArray)
  f4 : S29
end
def z29 : S29 := ⟨(0 : Int), (⟨#[]⟩ : ByteArray), (0 : Int), ([] : List ByteArray), ([] : List S29), ([] : List S88)⟩
def G88 (d : Kd S29) : Kd S88 := Kd.iso (Kd.pair (Kd.int .i64) (Kd.pair Kd.string (Kd.pair (Kd.int .i64) (Kd.pair (Kd.slice 9 Kd.string) d)))) (fun x : S88 => (x.f0, x.f1, x.f2, x.f3, x.f4))
theorem monoG88 : Kd.Mono G88 := Kd.mono_iso _ (Kd.mono_pair (Kd.mono_const _) (Kd.mono_pair (Kd.mono_const _) (Kd.mono_pair (Kd.mono_const _) (Kd.mono_pair (Kd.mono_const _) Kd.mono_id))))
theorem subG88 {E : List Nat} : Kd.Sub (fun d => G88 d) ([9, 29, 88] ++ E) := Kd.sub_iso _ (Kd.sub_pair (Kd.sub_const _ (by intro q hq; exact List.mem_append_left _ (by revert q; decide))) (Kd.sub_pair (Kd.sub_const _ (by intro q hq; exact List.mem_append_left _ (by revert q; decide))) (Kd.sub_pair (Kd.sub_const _ (by intro q hq; exact List.mem_append_left _ (by revert q; decide))) (Kd.sub_pair (Kd.sub_const _ (by intro q hq; exact List.mem_append_left _ (by revert q; decide))) Kd.sub_id))))
def F29 (d : Kd S29) : Kd S29 := Kd.iso (Kd.pair (Kd.int .i64) (Kd.pair Kd.string (Kd.pair (Kd.int .i64) (Kd.pair (Kd.slice 9 Kd.string) (Kd.pair (Kd.slice 29 d) (Kd.slice 88 (G88 d))))))) (fun x : S29 => (x.f0, x.f1, x.f2, x.f3, x.f4, x.f5))
theorem mono29 : Kd.Mono F29 := Kd.mono_iso _ (Kd.mono_pair (Kd.mono_const _) (Kd.mono_pair (Kd.mono_const _) (Kd.mono_pair (Kd.mono_const _) (Kd.mono_pair (Kd.mono_const _) (Kd.mono_pair (Kd.mono_slice 29 Kd.mono_id) (Kd.mono_slice 88 monoG88))))))
theorem sub29 : Kd.Sub F29 [9, 29, 88] := Kd.sub_iso _ (Kd.sub_pair (Kd.sub_const _ (by decide)) (Kd.sub_pair (Kd.sub_const _ (by decide)) (Kd.sub_pair (Kd.sub_const _ (by decide)) (Kd.sub_pair (Kd.sub_const _ (by decide)) (Kd.sub_pair (Kd.sub_slice 29 (by decide) Kd.sub_id) (Kd.sub_slice 88 (by decide) (by simpa using (subG88 (E := [])))))))))
theorem sz29 : ∀ n, (Kd.upto F29 6 [9, 29, 88] n).sz = 6 := Kd.upto_sz (fun _ => rfl)
def k29 : Kd S29 := Kd.fix F29 6 [9, 29, 88] sz29 (Kd.upto_E sub29)
def k88 : Kd S88 := G88 k29
abbrev upto88 (n : Nat) : Kd S88 := G88 (Kd.upto F29 (k29).sz (k29).E n)
theorem via88_up {n : Nat} {w : World} {x : S88} {cs : List Value} (h : (upto88 n).K w x cs) : (k88).K w x cs := monoG88.K (Kd.upto F29 (k29).sz (k29).E n) k29 (sz29 n) (fun _ _ _ hp => ⟨n, hp⟩) _ _ _ h
theorem via88_upM {n : Nat} {w : World} {base : Nat} {ok : Nat → Prop} {x : S88} {cs : List Value} (h : (upto88 n).M w base ok x cs) : (k88).M w base ok x cs := monoG88.M (Kd.upto F29 (k29).sz (k29).E n) k29 (sz29 n) (fun _ _ _ _ _ hp => ⟨n, hp⟩) _ _ _ _ _ h
theorem via88_size (n : Nat) : (upto88 n).sz = (k88).sz := monoG88.sz _ _ (sz29 n)
theorem via88_C {n : Nat} {w : World} {A : Option Addr} {m : Nat} {xs : List S88} (h : (upto88 n).C w A m xs) : (k88).C w A m xs := Kd.C_imp (via88_size n) (fun _ _ _ h => via88_up h) h
theorem via88_R {n e : Nat} {w : World} {base : Nat} {ok : Nat → Prop} {v : Value} {xs : List S88} (h : (upto88 n).R e w base ok v xs) : (k88).R e w base ok v xs := Kd.R_imp (via88_size n) (fun _ _ _ _ _ h => via88_upM h) h
theorem via88_K_back {w : World} {x : S88} {cs : List Value} (h : (k88).K w x cs) : ∃ n, (upto88 n).K w x cs := by
  obtain ⟨_, _, rfl, h0, _, _, rfl, h1, _, _, rfl, h2, _, _, rfl, h3, n, h4⟩ := h
  exact ⟨n, _, _, rfl, h0, _, _, rfl, h1, _, _, rfl, h2, _, _, rfl, h3, h4⟩
theorem via88_M_back {w : World} {base : Nat} {ok : Nat → Prop} {x : S88} {cs : List Value} (h : (k88).M w base ok x cs) : ∃ n, (upto88 n).M w base ok x cs := by
  obtain ⟨_, _, rfl, h0, _, _, rfl, h1, _, _, rfl, h2, _, _, rfl, h3, n, h4⟩ := h
  exact ⟨n, _, _, rfl, h0, _, _, rfl, h1, _, _, rfl, h2, _, _, rfl, h3, h4⟩
theorem via88_K_le {n m : Nat} (hnm : n ≤ m) {w : World} {x : S88} {cs : List Value} (h : (upto88 n).K w x cs) : (upto88 m).K w x cs := monoG88.K _ _ (by rw [sz29 n, sz29 m]) (fun _ _ _ hp => Kd.upto_K_le mono29 sz29 hnm hp) _ _ _ h
theorem via88_M_le {n m : Nat} (hnm : n ≤ m) {w : World} {base : Nat} {ok : Nat → Prop} {x : S88} {cs : List Value} (h : (upto88 n).M w base ok x cs) : (upto88 m).M w base ok x cs := monoG88.M _ _ (by rw [sz29 n, sz29 m]) (fun _ _ _ _ _ hp => Kd.upto_M_le mono29 sz29 hnm hp) _ _ _ _ _ h
theorem via88_C_le {n m : Nat} (hnm : n ≤ m) {w : World} {A : Option Addr} {l : Nat} {xs : List S88} (h : (upto88 n).C w A l xs) : (upto88 m).C w A l xs := Kd.C_imp (by rw [via88_size, via88_size]) (fun _ _ _ hp => via88_K_le hnm hp) h
theorem via88_R_le {n m : Nat} (hnm : n ≤ m) {e : Nat} {w : World} {base : Nat} {ok : Nat → Prop} {v : Value} {xs : List S88} (h : (upto88 n).R e w base ok v xs) : (upto88 m).R e w base ok v xs := Kd.R_imp (by rw [via88_size, via88_size]) (fun _ _ _ _ _ hp => via88_M_le hnm hp) h
theorem via88_R_back {e : Nat} {w : World} {base : Nat} {ok : Nat → Prop} {v : Value} {xs : List S88} (h : (k88).R e w base ok v xs) : ∃ n, (upto88 n).R e w base ok v xs := by
  obtain ⟨h0, inner, ho, hr⟩ := h
  obtain ⟨N, hN⟩ := Kd.reps_bounded (R := fun n p c => (upto88 n).M w base (fun k => ok k ∧ some k ≠ v.ownBlock) p c) (fun n m p c hnm hp => via88_M_le hnm hp) (hr.imp_ (fun _ _ hp => via88_M_back hp))
  exact ⟨N, h0, inner, by rw [via88_size]; exact ho, by rw [via88_size]; exact hN⟩
theorem via88_C_back {w : World} {A : Option Addr} {m : Nat} {xs : List S88} (h : (k88).C w A m xs) : ∃ n, (upto88 n).C w A m xs := by
  rcases Nat.eq_zero_or_pos m with hz | hpos
  · subst hz
    exact ⟨0, h.1, h.2.1, fun hp => absurd hp (Nat.lt_irrefl 0)⟩
  · obtain ⟨ad, e, hc⟩ := h.2.2 hpos
    obtain ⟨N, hN⟩ := Kd.bounded (P := fun n j => ∀ p, xs[j]? = some p → ∃ c, c.length = (k88).sz ∧ (upto88 n).K w p c ∧ ∀ i u, c[i]? = some u → w.cell? (ad.add (j * (k88).sz + i)) = some u)
      (fun n n' j hnm hp p hj => by
        obtain ⟨c, h1, h2, h3⟩ := hp p hj
        exact ⟨c, h1, via88_K_le hnm h2, h3⟩) xs.length
      (fun j hj => by
        obtain ⟨c, h1, h2, h3⟩ := hc j _ (List.getElem?_eq_getElem hj)
        obtain ⟨n, h2⟩ := via88_K_back h2
        refine ⟨n, fun p hp => ?_⟩
        rw [List.getElem?_eq_getElem hj] at hp
        injection hp with hp
        rw [← hp]
        exact ⟨c, h1, h2, h3⟩)
    refine ⟨N, h.1, h.2.1, fun _ => ⟨ad, e, fun j p hj => ?_⟩⟩
    rw [via88_size]
    exact hN j (List.getElem?_eq_some_iff.1 hj).1 p hj
theorem k29_open {w : World} {x : S29} {cs : List Value} (h : k29.K w x cs) : ∃ A3 c3 A4 c4 A5 c5, cs = [.int .i64 x.f0, .string x.f1, .int .i64 x.f2, .slice A3 x.f3.length c3, .slice A4 x.f4.length c4, .slice A5 x.f5.length c5] ∧ x.f3.length ≤ c3 ∧ Kd.string.C w A3 x.f3.length x.f3 ∧ x.f4.length ≤ c4 ∧ k29.C w A4 x.f4.length x.f4 ∧ x.f5.length ≤ c5 ∧ k88.C w A5 x.f5.length x.f5 := by
  obtain ⟨n, h⟩ := h
  cases n with
  | zero => exact h.elim
  | succ n =>
    obtain ⟨_, _, rfl, rfl, ⟨_, _, rfl, rfl, ⟨_, _, rfl, rfl, ⟨_, _, rfl, ⟨A3, c3, rfl, l3, g3⟩, ⟨_, _, rfl, ⟨A4, c4, rfl, l4, g4⟩, ⟨A5, c5, rfl, l5, g5⟩⟩⟩⟩⟩⟩ := h
    exact ⟨A3, c3, A4, c4, A5, c5, rfl, l3, g3, l4, Kd.fix_C g4, l5, via88_C g5⟩
theorem k29_openM {w : World} {base : Nat} {ok : Nat → Prop} {x : S29} {cs : List Value} (h : k29.M w base ok x cs) : ∃ v3 v4 v5, cs = [.int .i64 x.f0, .string x.f1, .int .i64 x.f2, v3, v4, v5] ∧ Kd.string.R 9 w base ok v3 x.f3 ∧ k29.R 29 w base ok v4 x.f4 ∧ k88.R 88 w base ok v5 x.f5 := by
  obtain ⟨n, h⟩ := h
  cases n with
  | zero => exact h.elim
  | succ n =>
    obtain ⟨_, _, rfl, rfl, ⟨_, _, rfl, rfl, ⟨_, _, rfl, rfl, ⟨_, _, rfl, ⟨v3, rfl, g3⟩, ⟨_, _, rfl, ⟨v4, rfl, g4⟩, ⟨v5, rfl, g5⟩⟩⟩⟩⟩⟩ := h
    exact ⟨v3, v4, v5, rfl, g3, Kd.fix_R g4, via88_R g5⟩
theorem k29_mk (w : World) (x : S29) {A3 : Option Addr} {c3 : Nat} (l3 : x.f3.length ≤ c3) (g3 : Kd.string.C w A3 x.f3.length x.f3) {A4 : Option Addr} {c4 : Nat} (l4 : x.f4.length ≤ c4) (g4 : k29.C w A4 x.f4.length x.f4) {A5 : Option Addr} {c5 : Nat} (l5 : x.f5.length ≤ c5) (g5 : k88.C w A5 x.f5.length x.f5) : k29.K w x [.int .i64 x.f0, .string x.f1, .int .i64 x.f2, .slice A3 x.f3.length c3, .slice A4 x.f4.length c4, .slice A5 x.f5.length c5] := by
  obtain ⟨n4, q4⟩ := Kd.fix_C_back mono29 g4
  obtain ⟨n5, q5⟩ := via88_C_back g5
  have r4 := Kd.upto_C_le mono29 sz29 (show n4 ≤ (max n4 n5) by omega) q4
  have r5 := via88_C_le (show n5 ≤ (max n4 n5) by omega) q5
  exact ⟨(max n4 n5) + 1, ⟨[.int .i64 x.f0], [.string x.f1, .int .i64 x.f2, .slice A3 x.f3.length c3, .slice A4 x.f4.length c4, .slice A5 x.f5.length c5], rfl, rfl, ⟨[.string x.f1], [.int .i64 x.f2, .slice A3 x.f3.length c3, .slice A4 x.f4.length c4, .slice A5 x.f5.length c5], rfl, rfl, ⟨[.int .i64 x.f2], [.slice A3 x.f3.length c3, .slice A4 x.f4.length c4, .slice A5 x.f5.length c5], rfl, rfl, ⟨[.slice A3 x.f3.length c3], [.slice A4 x.f4.length c4, .slice A5 x.f5.length c5], rfl, ⟨A3, c3, rfl, l3, g3⟩, ⟨[.slice A4 x.f4.length c4], [.slice A5 x.f5.length c5], rfl, ⟨A4, c4, rfl, l4, r4⟩, ⟨A5, c5, rfl, l5, r5⟩⟩⟩⟩⟩⟩⟩
theorem k29_mkM (w : World) (base : Nat) (ok : Nat → Prop) (x : S29) {v3 : Value} (g3 : Kd.string.R 9 w base ok v3 x.f3) {v4 : Value} (g4 : k29.R 29 w base ok v4 x.f4) {v5 : Value} (g5 : k88.R 88 w base ok v5 x.f5) : k29.M w base ok x [.int .i64 x.f0, .string x.f1, .int .i64 x.f2, v3, v4, v5] := by
  obtain ⟨n4, q4⟩ := Kd.fix_R_back mono29 g4
  obtain ⟨n5, q5⟩ := via88_R_back g5
  have r4 := Kd.upto_R_le mono29 sz29 (show n4 ≤ (max n4 n5) by omega) q4
  have r5 := via88_R_le (show n5 ≤ (max n4 n5) by omega) q5
  exact ⟨(max n4 n5) + 1, ⟨[.int .i64 x.f0], [.string x.f1, .int .i64 x.f2, v3, v4, v5], rfl, rfl, ⟨[.string x.f1], [.int .i64 x.f2, v3, v4, v5], rfl, rfl, ⟨[.int .i64 x.f2], [v3, v4, v5], rfl, rfl, ⟨[v3], [v4, v5], rfl, ⟨v3, rfl, g3⟩, ⟨[v4], [v5], rfl, ⟨v4, rfl, r4⟩, ⟨v5, rfl, r5⟩⟩⟩⟩⟩⟩⟩
theorem k29_openF {W : World} {ok : Nat → Prop} {x : S29} {cs : List Value} (h : Kd.FK k29 W ok x cs) : ∃ A3 c3 A4 c4 A5 c5, cs = [.int .i64 x.f0, .string x.f1, .int .i64 x.f2, .slice A3 x.f3.length c3, .slice A4 x.f4.length c4, .slice A5 x.f5.length c5] ∧ x.f3.length ≤ c3 ∧ Kd.F Kd.string W ok A3 x.f3.length x.f3 ∧ x.f4.length ≤ c4 ∧ Kd.F k29 W ok A4 x.f4.length x.f4 ∧ x.f5.length ≤ c5 ∧ Kd.F k88 W ok A5 x.f5.length x.f5 := by
  obtain ⟨A3, c3, A4, c4, A5, c5, rfl, l3, _, l4, _, l5, _⟩ := k29_open (Kd.FK_now h)
  exact ⟨A3, c3, A4, c4, A5, c5, rfl, l3, (fun W' hW => by obtain ⟨A3_, c3_, A4_, c4_, A5_, c5_, he, l3_, g3_, l4_, g4_, l5_, g5_⟩ := k29_open (h W' hW); injection (Option.some.inj (show some (Value.slice A3 x.f3.length c3) = some (Value.slice A3_ x.f3.length c3_) from congrArg (fun l => l[3]?) he)) with ha_ _ _; rw [ha_]; exact g3_), l4, (fun W' hW => by obtain ⟨A3_, c3_, A4_, c4_, A5_, c5_, he, l3_, g3_, l4_, g4_, l5_, g5_⟩ := k29_open (h W' hW); injection (Option.some.inj (show some (Value.slice A4 x.f4.length c4) = some (Value.slice A4_ x.f4.length c4_) from congrArg (fun l => l[4]?) he)) with ha_ _ _; rw [ha_]; exact g4_), l5, (fun W' hW => by obtain ⟨A3_, c3_, A4_, c4_, A5_, c5_, he, l3_, g3_, l4_, g4_, l5_, g5_⟩ := k29_open (h W' hW); injection (Option.some.inj (show some (Value.slice A5 x.f5.length c5) = some (Value.slice A5_ x.f5.length c5_) from congrArg (fun l => l[5]?) he)) with ha_ _ _; rw [ha_]; exact g5_)⟩
theorem k29_mkF (W : World) (ok : Nat → Prop) (x : S29) {A3 : Option Addr} {c3 : Nat} (l3 : x.f3.length ≤ c3) (g3 : Kd.F Kd.string W ok A3 x.f3.length x.f3) {A4 : Option Addr} {c4 : Nat} (l4 : x.f4.length ≤ c4) (g4 : Kd.F k29 W ok A4 x.f4.length x.f4) {A5 : Option Addr} {c5 : Nat} (l5 : x.f5.length ≤ c5) (g5 : Kd.F k88 W ok A5 x.f5.length x.f5) : Kd.FK k29 W ok x [.int .i64 x.f0, .string x.f1, .int .i64 x.f2, .slice A3 x.f3.length c3, .slice A4 x.f4.length c4, .slice A5 x.f5.length c5] := fun W2 hW => k29_mk W2 x l3 (g3 W2 hW) l4 (g4 W2 hW) l5 (g5 W2 hW)
def rd_T29 (xs : List S29) (i : Int) : S29 := xs.getD i.toNat z29
theorem at_T29 {w : World} {A : Option Addr} {n : Nat} {xs : List S29} (h : Kd.C k29 w A n xs) (i : Int) (h0 : 0 ≤ i) (h1 : i < n) : ∃ ad A3 c3 A4 c4 A5 c5, A = some ad ∧ w.cell? (ad.add (i.toNat * 6)) = some (.int .i64 (rd_T29 xs i).f0) ∧ w.cell? ⟨(ad.add (i.toNat * 6)).block, (ad.add (i.toNat * 6)).off + 1, none⟩ = some (.string (rd_T29 xs i).f1) ∧ w.cell? ⟨(ad.add (i.toNat * 6)).block, (ad.add (i.toNat * 6)).off + 2, none⟩ = some (.int .i64 (rd_T29 xs i).f2) ∧ w.cell? ⟨(ad.add (i.toNat * 6)).block, (ad.add (i.toNat * 6)).off + 3, none⟩ = some (.slice A3 (rd_T29 xs i).f3.length c3) ∧ w.cell? ⟨(ad.add (i.toNat * 6)).block, (ad.add (i.toNat * 6)).off + 4, none⟩ = some (.slice A4 (rd_T29 xs i).f4.length c4) ∧ w.cell? ⟨(ad.add (i.toNat * 6)).block, (ad.add (i.toNat * 6)).off + 5, none⟩ = some (.slice A5 (rd_T29 xs i).f5.length c5) ∧ (rd_T29 xs i).f3.length ≤ c3 ∧ Kd.string.C w A3 (rd_T29 xs i).f3.length (rd_T29 xs i).f3 ∧ (rd_T29 xs i).f4.length ≤ c4 ∧ k29.C w A4 (rd_T29 xs i).f4.length (rd_T29 xs i).f4 ∧ (rd_T29 xs i).f5.length ≤ c5 ∧ k88.C w A5 (rd_T29 xs i).f5.length (rd_T29 xs i).f5 := by
  obtain ⟨ad, c, e, _, hK, hc0⟩ := Kd.C_get h z29 i h0 h1
  have hc : ∀ j u, c[j]? = some u → w.cell? (ad.add (i.toNat * 6 + j)) = some u := hc0
  obtain ⟨A3, c3, A4, c4, A5, c5, rfl, l3, g3, l4, g4, l5, g5⟩ := k29_open hK
  exact ⟨ad, A3, c3, A4, c4, A5, c5, e, hc 0 _ rfl, by rw [← add_field _ _ 1 (by omega)]; exact hc 1 _ rfl, by rw [← add_field _ _ 2 (by omega)]; exact hc 2 _ rfl, by rw [← add_field _ _ 3 (by omega)]; exact hc 3 _ rfl, by rw [← add_field _ _ 4 (by omega)]; exact hc 4 _ rfl, by rw [← add_field _ _ 5 (by omega)]; exact hc 5 _ rfl, l3, g3, l4, g4, l5, g5⟩

/-! #### struct type 88 -/
def z88 : S88 := ⟨(0 : Int), (⟨#[]⟩ : ByteArray), (0 : Int), ([] : List ByteArray), z29⟩
theorem k88_open {w : World} {x : S88} {cs : List Value} (h : k88.K w x cs) : ∃ A3 c3 A7 c7 A8 c8 A9 c9, cs = [.int .i64 x.f0, .string x.f1, .int .i64 x.f2, .slice A3 x.f3.length c3, .int .i64 x.f4.f0, .string x.f4.f1, .int .i64 x.f4.f2, .slice A7 x.f4.f3.length c7, .slice A8 x.f4.f4.length c8, .slice A9 x.f4.f5.length c9] ∧ x.f3.length ≤ c3 ∧ Kd.string.C w A3 x.f3.length x.f3 ∧ x.f4.f3.length ≤ c7 ∧ Kd.string.C w A7 x.f4.f3.length x.f4.f3 ∧ x.f4.f4.length ≤ c8 ∧ k29.C w A8 x.f4.f4.length x.f4.f4 ∧ x.f4.f5.length ≤ c9 ∧ k88.C w A9 x.f4.f5.length x.f4.f5 := by
  obtain ⟨_, _, rfl, rfl, ⟨_, _, rfl, rfl, ⟨_, _, rfl, rfl, ⟨_, _, rfl, ⟨A3, c3, rfl, l3, g3⟩, s4⟩⟩⟩⟩ := h
  obtain ⟨A7, c7, A8, c8, A9, c9, rfl, l7, g7, l8, g8, l9, g9⟩ := k29_open s4
  exact ⟨A3, c3, A7, c7, A8, c8, A9, c9, rfl, l3, g3, l7, g7, l8, g8, l9, g9⟩
theorem k88_openM {w : World} {base : Nat} {ok : Nat → Prop} {x : S88} {cs : List Value} (h : k88.M w base ok x cs) : ∃ v3 v7 v8 v9, cs = [.int .i64 x.f0, .string x.f1, .int .i64 x.f2, v3, .int .i64 x.f4.f0, .string x.f4.f1, .int .i64 x.f4.f2, v7, v8, v9] ∧ Kd.string.R 9 w base ok v3 x.f3 ∧ Kd.string.R 9 w base ok v7 x.f4.f3 ∧ k29.R 29 w base ok v8 x.f4.f4 ∧ k88.R 88 w base ok v9 x.f4.f5 := by
  obtain ⟨_, _, rfl, rfl, ⟨_, _, rfl, rfl, ⟨_, _, rfl, rfl, ⟨_, _, rfl, ⟨v3, rfl, g3⟩, s4⟩⟩⟩⟩ := h
  obtain ⟨v7, v8, v9, rfl, g7, g8, g9⟩ := k29_openM s4
  exact ⟨v3, v7, v8, v9, rfl, g3, g7, g8, g9⟩
theorem k88_mk (w : World) (x : S88) {A3 : Option Addr} {c3 : Nat} (l3 : x.f3.length ≤ c3) (g3 : Kd.string.C w A3 x.f3.length x.f3) {A7 : Option Addr} {c7 : Nat} (l7 : x.f4.f3.length ≤ c7) (g7 : Kd.string.C w A7 x.f4.f3.length x.f4.f3) {A8 : Option Addr} {c8 : Nat} (l8 : x.f4.f4.length ≤ c8) (g8 : k29.C w A8 x.f4.f4.length x.f4.f4) {A9 : Option Addr} {c9 : Nat} (l9 : x.f4.f5.length ≤ c9) (g9 : k88.C w A9 x.f4.f5.length x.f4.f5) : k88.K w x [.int .i64 x.f0, .string x.f1, .int .i64 x.f2, .slice A3 x.f3.length c3, .int .i64 x.f4.f0, .string x.f4.f1, .int .i64 x.f4.f2, .slice A7 x.f4.f3.length c7, .slice A8 x.f4.f4.length c8, .slice A9 x.f4.f5.length c9] := ⟨[.int .i64 x.f0], [.string x.f1, .int .i64 x.f2, .slice A3 x.f3.length c3, .int .i64 x.f4.f0, .string x.f4.f1, .int .i64 x.f4.f2, .slice A7 x.f4.f3.length c7, .slice A8 x.f4.f4.length c8, .slice A9 x.f4.f5.length c9], rfl, rfl, ⟨[.string x.f1], [.int .i64 x.f2, .slice A3 x.f3.length c3, .int .i64 x.f4.f0, .string x.f4.f1, .int .i64 x.f4.f2, .slice A7 x.f4.f3.length c7, .slice A8 x.f4.f4.length c8, .slice A9 x.f4.f5.length c9], rfl, rfl, ⟨[.int .i64 x.f2], [.slice A3 x.f3.length c3, .int .i64 x.f4.f0, .string x.f4.f1, .int .i64 x.f4.f2, .slice A7 x.f4.f3.length c7, .slice A8 x.f4.f4.length c8, .slice A9 x.f4.f5.length c9], rfl, rfl, ⟨[.slice A3 x.f3.length c3], [.int .i64 x.f4.f0, .string x.f4.f1, .int .i64 x.f4.f2, .slice A7 x.f4.f3.length c7, .slice A8 x.f4.f4.length c8, .slice A9 x.f4.f5.length c9], rfl, ⟨A3, c3, rfl, l3, g3⟩, (k29_mk w x.f4 l7 g7 l8 g8 l9 g9)⟩⟩⟩⟩
theorem k88_mkM (w : World) (base : Nat) (ok : Nat → Prop) (x : S88) {v3 : Value} (g3 : Kd.string.R 9 w base ok v3 x.f3) {v7 : Value} (g7 : Kd.string.R 9 w base ok v7 x.f4.f3) {v8 : Value} (g8 : k29.R 29 w base ok v8 x.f4.f4) {v9 : Value} (g9 : k88.R 88 w base ok v9 x.f4.f5) : k88.M w base ok x [.int .i64 x.f0, .string x.f1, .int .i64 x.f2, v3, .int .i64 x.f4.f0, .string x.f4.f1, .int .i64 x.f4.f2, v7, v8, v9] := ⟨[.int .i64 x.f0], [.string x.f1, .int .i64 x.f2, v3, .int .i64 x.f4.f0, .string x.f4.f1, .int .i64 x.f4.f2, v7, v8, v9], rfl, rfl, ⟨[.string x.f1], [.int .i64 x.f2, v3, .int .i64 x.f4.f0, .string x.f4.f1, .int .i64 x.f4.f2, v7, v8, v9], rfl, rfl, ⟨[.int .i64 x.f2], [v3, .int .i64 x.f4.f0, .string x.f4.f1, .int .i64 x.f4.f2, v7, v8, v9], rfl, rfl, ⟨[v3], [.int .i64 x.f4.f0, .string x.f4.f1, .int .i64 x.f4.f2, v7, v8, v9], rfl, ⟨v3, rfl, g3⟩, (k29_mkM w base ok x.f4 g7 g8 g9)⟩⟩⟩⟩
theorem k88_openF {W : World} {ok : Nat → Prop} {x : S88} {cs : List Value} (h : Kd.FK k88 W ok x cs) : ∃ A3 c3 A7 c7 A8 c8 A9 c9, cs = [.int .i64 x.f0, .string x.f1, .int .i64 x.f2, .slice A3 x.f3.length c3, .int .i64 x.f4.f0, .string x.f4.f1, .int .i64 x.f4.f2, .slice A7 x.f4.f3.length c7, .slice A8 x.f4.f4.length c8, .slice A9 x.f4.f5.length c9] ∧ x.f3.length ≤ c3 ∧ Kd.F Kd.string W ok A3 x.f3.length x.f3 ∧ x.f4.f3.length ≤ c7 ∧ Kd.F Kd.string W ok A7 x.f4.f3.length x.f4.f3 ∧ x.f4.f4.length ≤ c8 ∧ Kd.F k29 W ok A8 x.f4.f4.length x.f4.f4 ∧ x.f4.f5.length ≤ c9 ∧ Kd.F k88 W ok A9 x.f4.f5.length x.f4.f5 := by
  obtain ⟨A3, c3, A7, c7, A8, c8, A9, c9, rfl, l3, _, l7, _, l8, _, l9, _⟩ := k88_open (Kd.FK_now h)
  exact ⟨A3, c3, A7, c7, A8, c8, A9, c9, rfl, l3, (fun W' hW => by obtain ⟨A3_, c3_, A7_, c7_, A8_, c8_, A9_, c9_, he, l3_, g3_, l7_, g7_, l8_, g8_, l9_, g9_⟩ := k88_open (h W' hW); injection (Option.some.inj (show some (Value.slice A3 x.f3.length c3) = some (Value.slice A3_ x.f3.length c3_) from congrArg (fun l => l[3]?) he)) with ha_ _ _; rw [ha_]; exact g3_), l7, (fun W' hW => by obtain ⟨A3_, c3_, A7_, c7_, A8_, c8_, A9_, c9_, he, l3_, g3_, l7_, g7_, l8_, g8_, l9_, g9_⟩ := k88_open (h W' hW); injection (Option.some.inj (show some (Value.slice A7 x.f4.f3.length c7) = some (Value.slice A7_ x.f4.f3.length c7_) from congrArg (fun l => l[7]?) he)) with ha_ _ _; rw [ha_]; exact g7_), l8, (fun W' hW => by obtain ⟨A3_, c3_, A7_, c7_, A8_, c8_, A9_, c9_, he, l3_, g3_, l7_, g7_, l8_, g8_, l9_, g9_⟩ := k88_open (h W' hW); injection (Option.some.inj (show some (Value.slice A8 x.f4.f4.length c8) = some (Value.slice A8_ x.f4.f4.length c8_) from congrArg (fun l => l[8]?) he)) with ha_ _ _; rw [ha_]; exact g8_), l9, (fun W' hW => by obtain ⟨A3_, c3_, A7_, c7_, A8_, c8_, A9_, c9_, he, l3_, g3_, l7_, g7_, l8_, g8_, l9_, g9_⟩ := k88_open (h W' hW); injection (Option.some.inj (show some (Value.slice A9 x.f4.f5.length c9) = some (Value.slice A9_ x.f4.f5.length c9_) from congrArg (fun l => l[9]?) he)) with ha_ _ _; rw [ha_]; exact g9_)⟩
theorem k88_mkF (W : World) (ok : Nat → Prop) (x : S88) {A3 : Option Addr} {c3 : Nat} (l3 : x.f3.length ≤ c3) (g3 : Kd.F Kd.string W ok A3 x.f3.length x.f3) {A7 : Option Addr} {c7 : Nat} (l7 : x.f4.f3.length ≤ c7) (g7 : Kd.F Kd.string W ok A7 x.f4.f3.length x.f4.f3) {A8 : Option Addr} {c8 : Nat} (l8 : x.f4.f4.length ≤ c8) (g8 : Kd.F k29 W ok A8 x.f4.f4.length x.f4.f4) {A9 : Option Addr} {c9 : Nat} (l9 : x.f4.f5.length ≤ c9) (g9 : Kd.F k88 W ok A9 x.f4.f5.length x.f4.f5) : Kd.FK k88 W ok x [.int .i64 x.f0, .string x.f1, .int .i64 x.f2, .slice A3 x.f3.length c3, .int .i64 x.f4.f0, .string x.f4.f1, .int .i64 x.f4.f2, .slice A7 x.f4.f3.length c7, .slice A8 x.f4.f4.length c8, .slice A9 x.f4.f5.length c9] := fun W2 hW => k88_mk W2 x l3 (g3 W2 hW) l7 (g7 W2 hW) l8 (g8 W2 hW) l9 (g9 W2 hW)
def rd_T88 (xs : List S88) (i : Int) : S88 := xs.getD i.toNat z88
theorem at_T88 {w : World} {A : Option Addr} {n : Nat} {xs : List S88} (h : Kd.C k88 w A n xs) (i : Int) (h0 : 0 ≤ i) (h1 : i < n) : ∃ ad A3 c3 A7 c7 A8 c8 A9 c9, A = some ad ∧ w.cell? (ad.add (i.toNat * 10)) = some (.int .i64 (rd_T88 xs i).f0) ∧ w.cell? ⟨(ad.add (i.toNat * 10)).block, (ad.add (i.toNat * 10)).off + 1, none⟩ = some (.string (rd_T88 xs i).f1) ∧ w.cell? ⟨(ad.add (i.toNat * 10)).block, (ad.add (i.toNat * 10)).off + 2, none⟩ = some (.int .i64 (rd_T88 xs i).f2) ∧ w.cell? ⟨(ad.add (i.toNat * 10)).block, (ad.add (i.toNat * 10)).off + 3, none⟩ = some (.slice A3 (rd_T88 xs i).f3.length c3) ∧ w.cell? ⟨(ad.add (i.toNat * 10)).block, (ad.add (i.toNat * 10)).off + 4, none⟩ = some (.int .i64 (rd_T88 xs i).f4.f0) ∧ w.cell? ⟨(ad.add (i.toNat * 10)).block, (ad.add (i.toNat * 10)).off + 5, none⟩ = some (.string (rd_T88 xs i).f4.f1) ∧ w.cell? ⟨(ad.add (i.toNat * 10)).block, (ad.add (i.toNat * 10)).off + 6, none⟩ = some (.int .i64 (rd_T88 xs i).f4.f2) ∧ w.cell? ⟨(ad.add (i.toNat * 10)).block, (ad.add (i.toNat * 10)).off + 7, none⟩ = some (.slice A7 (rd_T88 xs i).f4.f3.length c7) ∧ w.cell? ⟨(ad.add (i.toNat * 10)).block, (ad.add (i.toNat * 10)).off + 8, none⟩ = some (.slice A8 (rd_T88 xs i).f4.f4.length c8) ∧ w.cell? ⟨(ad.add (i.toNat * 10)).block, (ad.add (i.toNat * 10)).off + 9, none⟩ = some (.slice A9 (rd_T88 xs i).f4.f5.length c9) ∧ (rd_T88 xs i).f3.length ≤ c3 ∧ Kd.string.C w A3 (rd_T88 xs i).f3.length (rd_T88 xs i).f3 ∧ (rd_T88 xs i).f4.f3.length ≤ c7 ∧ Kd.string.C w A7 (rd_T88 xs i).f4.f3.length (rd_T88 xs i).f4.f3 ∧ (rd_T88 xs i).f4.f4.length ≤ c8 ∧ k29.C w A8 (rd_T88 xs i).f4.f4.length (rd_T88 xs i).f4.f4 ∧ (rd_T88 xs i).f4.f5.length ≤ c9 ∧ k88.C w A9 (rd_T88 xs i).f4.f5.length (rd_T88 xs i).f4.f5 := by
  obtain ⟨ad, c, e, _, hK, hc0⟩ := Kd.C_get h z88 i h0 h1
  have hc : ∀ j u, c[j]? = some u → w.cell? (ad.add (i.toNat * 10 + j)) = some u := hc0
  obtain ⟨A3, c3, A7, c7, A8, c8, A9, c9, rfl, l3, g3, l7, g7, l8, g8, l9, g9⟩ := k88_open hK
  exact ⟨ad, A3, c3, A7, c7, A8, c8, A9, c9, e, hc 0 _ rfl, by rw [← add_field _ _ 1 (by omega)]; exact hc 1 _ rfl, by rw [← add_field _ _ 2 (by omega)]; exact hc 2 _ rfl, by rw [← add_field _ _ 3 (by omega)]; exact hc 3 _ rfl, by rw [← add_field _ _ 4 (by omega)]; exact hc 4 _ rfl, by rw [← add_field _ _ 5 (by omega)]; exact hc 5 _ rfl, by rw [← add_field _ _ 6 (by omega)]; exact hc 6 _ rfl, by rw [← add_field _ _ 7 (by omega)]; exact hc 7 _ rfl, by rw [← add_field _ _ 8 (by omega)]; exact hc 8 _ rfl, by rw [← add_field _ _ 9 (by omega)]; exact hc 9 _ rfl, l3, g3, l7, g7, l8, g8, l9, g9⟩

/-! #### struct type 67, nested in itself -/
structure S67 where
  f0 : ByteArray
  f1 : (List S67)
def z67 : S67 := ⟨(⟨#[]⟩ : ByteArray), ([] : List S67)⟩
def F67 (d : Kd S67) : Kd S67 := Kd.iso (Kd.pair Kd.string (Kd.slice 67 d)) (fun x : S67 => (x.f0, x.f1))
theorem mono67 : Kd.Mono F67 := Kd.mono_iso _ (Kd.mono_pair (Kd.mono_const _) (Kd.mono_slice 67 Kd.mono_id))
theorem sub67 : Kd.Sub F67 [67] := Kd.sub_iso _ (Kd.sub_pair (Kd.sub_const _ (by decide)) (Kd.sub_slice 67 (by decide) Kd.sub_id))
theorem sz67 : ∀ n, (Kd.upto F67 2 [67] n).sz = 2 := Kd.upto_sz (fun _ => rfl)
def k67 : Kd S67 := Kd.fix F67 2 [67] sz67 (Kd.upto_E sub67)
theorem k67_open {w : World} {x : S67} {cs : List Value} (h : k67.K w x cs) : ∃ A1 c1, cs = [.string x.f0, .slice A1 x.f1.length c1] ∧ x.f1.length ≤ c1 ∧ k67.C w A1 x.f1.length x.f1 := by
  obtain ⟨n, h⟩ := h
  cases n with
  | zero => exact h.elim
  | succ n =>
    obtain ⟨_, _, rfl, rfl, ⟨A1, c1, rfl, l1, g1⟩⟩ := h
    exact ⟨A1, c1, rfl, l1, Kd.fix_C g1⟩
theorem k67_openM {w : World} {base : Nat} {ok : Nat → Prop} {x : S67} {cs : List Value} (h : k67.M w base ok x cs) : ∃ v1, cs = [.string x.f0, v1] ∧ k67.R 67 w base ok v1 x.f1 := by
  obtain ⟨n, h⟩ := h
  cases n with
  | zero => exact h.elim
  | succ n =>
    obtain ⟨_, _, rfl, rfl, ⟨v1, rfl, g1⟩⟩ := h
    exact ⟨v1, rfl, Kd.fix_R g1⟩
theorem k67_mk (w : World) (x : S67) {A1 : Option Addr} {c1 : Nat} (l1 : x.f1.length ≤ c1) (g1 : k67.C w A1 x.f1.length x.f1) : k67.K w x [.string x.f0, .slice A1 x.f1.length c1] := by
  obtain ⟨n1, q1⟩ := Kd.fix_C_back mono67 g1
  have r1 := Kd.upto_C_le mono67 sz67 (show n1 ≤ n1 by omega) q1
  exact ⟨n1 + 1, ⟨[.string x.f0], [.slice A1 x.f1.length c1], rfl, rfl, ⟨A1, c1, rfl, l1, r1⟩⟩⟩
theorem k67_mkM (w : World) (base : Nat) (ok : Nat → Prop) (x : S67) {v1 : Value} (g1 : k67.R 67 w base ok v1 x.f1) : k67.M w base ok x [.string x.f0, v1] := by
  obtain ⟨n1, q1⟩ := Kd.fix_R_back mono67 g1
  have r1 := Kd.upto_R_le mono67 sz67 (show n1 ≤ n1 by omega) q1
  exact ⟨n1 + 1, ⟨[.string x.f0], [v1], rfl, rfl, ⟨v1, rfl, r1⟩⟩⟩
theorem k67_openF {W : World} {ok : Nat → Prop} {x : S67} {cs : List Value} (h : Kd.FK k67 W ok x cs) : ∃ A1 c1, cs = [.string x.f0, .slice A1 x.f1.length c1] ∧ x.f1.length ≤ c1 ∧ Kd.F k67 W ok A1 x.f1.length x.f1 := by
  obtain ⟨A1, c1, rfl, l1, _⟩ := k67_open (Kd.FK_now h)
  exact ⟨A1, c1, rfl, l1, (fun W' hW => by obtain ⟨A1_, c1_, he, l1_, g1_⟩ := k67_open (h W' hW); injection (Option.some.inj (show some (Value.slice A1 x.f1.length c1) = some (Value.slice A1_ x.f1.length c1_) from congrArg (fun l => l[1]?) he)) with ha_ _ _; rw [ha_]; exact g1_)⟩
theorem k67_mkF (W : World) (ok : Nat → Prop) (x : S67) {A1 : Option Addr} {c1 : Nat} (l1 : x.f1.length ≤ c1) (g1 : Kd.F k67 W ok A1 x.f1.length x.f1) : Kd.FK k67 W ok x [.string x.f0, .slice A1 x.f1.length c1] := fun W2 hW => k67_mk W2 x l1 (g1 W2 hW)
def rd_T67 (xs : List S67) (i : Int) : S67 := xs.getD i.toNat z67
theorem at_T67 {w : World} {A : Option Addr} {n : Nat} {xs : List S67} (h : Kd.C k67 w A n xs) (i : Int) (h0 : 0 ≤ i) (h1 : i < n) : ∃ ad A1 c1, A = some ad ∧ w.cell? (ad.add (i.toNat * 2)) = some (.string (rd_T67 xs i).f0) ∧ w.cell? ⟨(ad.add (i.toNat * 2)).block, (ad.add (i.toNat * 2)).off + 1, none⟩ = some (.slice A1 (rd_T67 xs i).f1.length c1) ∧ (rd_T67 xs i).f1.length ≤ c1 ∧ k67.C w A1 (rd_T67 xs i).f1.length (rd_T67 xs i).f1 := by
  obtain ⟨ad, c, e, _, hK, hc0⟩ := Kd.C_get h z67 i h0 h1
  have hc : ∀ j u, c[j]? = some u → w.cell? (ad.add (i.toNat * 2 + j)) = some u := hc0
  obtain ⟨A1, c1, rfl, l1, g1⟩ := k67_open hK
  exact ⟨ad, A1, c1, e, hc 0 _ rfl, by rw [← add_field _ _ 1 (by omega)]; exact hc 1 _ rfl, l1, g1⟩

def rd_L6 (xs : List (List S67)) (i : Int) : (List S67) := xs.getD i.toNat ([] : List S67)
theorem at_L6 {w : World} {A : Option Addr} {n : Nat} {xs : List (List S67)} (h : Kd.C (Kd.slice 67 k67) w A n xs) (i : Int) (h0 : 0 ≤ i) (h1 : i < n) : ∃ ad A0 c0, A = some ad ∧ w.cell? (ad.add i.toNat) = some (.slice A0 (rd_L6 xs i).length c0) ∧ (rd_L6 xs i).length ≤ c0 ∧ k67.C w A0 (rd_L6 xs i).length (rd_L6 xs i) := by
  obtain ⟨ad, c, e, _, hK, hc0⟩ := Kd.C_get h ([] : List S67) i h0 h1
  have hc : ∀ j u, c[j]? = some u → w.cell? (ad.add (i.toNat * 1 + j)) = some u := hc0
  obtain ⟨A0, c0, rfl, l0, g0⟩ := hK
  exact ⟨ad, A0, c0, e, by have hq := hc 0 _ rfl; rwa [Nat.mul_one, Nat.add_zero] at hq, l0, g0⟩

/-! #### struct type 65 -/
structure S65 where
  f0 : ByteArray
  f1 : (List S67)
def z65 : S65 := ⟨(⟨#[]⟩ : ByteArray), ([] : List S67)⟩
def k65 : Kd S65 := Kd.iso (Kd.pair Kd.string (Kd.slice 67 k67)) (fun x : S65 => (x.f0, x.f1))
theorem k65_open {w : World} {x : S65} {cs : List Value} (h : k65.K w x cs) : ∃ A1 c1, cs = [.string x.f0, .slice A1 x.f1.length c1] ∧ x.f1.length ≤ c1 ∧ k67.C w A1 x.f1.length x.f1 := by
  obtain ⟨_, _, rfl, rfl, ⟨A1, c1, rfl, l1, g1⟩⟩ := h
  exact ⟨A1, c1, rfl, l1, g1⟩
theorem k65_openM {w : World} {base : Nat} {ok : Nat → Prop} {x : S65} {cs : List Value} (h : k65.M w base ok x cs) : ∃ v1, cs = [.string x.f0, v1] ∧ k67.R 67 w base ok v1 x.f1 := by
  obtain ⟨_, _, rfl, rfl, ⟨v1, rfl, g1⟩⟩ := h
  exact ⟨v1, rfl, g1⟩
theorem k65_mk (w : World) (x : S65) {A1 : Option Addr} {c1 : Nat} (l1 : x.f1.length ≤ c1) (g1 : k67.C w A1 x.f1.length x.f1) : k65.K w x [.string x.f0, .slice A1 x.f1.length c1] := ⟨[.string x.f0], [.slice A1 x.f1.length c1], rfl, rfl, ⟨A1, c1, rfl, l1, g1⟩⟩
theorem k65_mkM (w : World) (base : Nat) (ok : Nat → Prop) (x : S65) {v1 : Value} (g1 : k67.R 67 w base ok v1 x.f1) : k65.M w base ok x [.string x.f0, v1] := ⟨[.string x.f0], [v1], rfl, rfl, ⟨v1, rfl, g1⟩⟩
theorem k65_openF {W : World} {ok : Nat → Prop} {x : S65} {cs : List Value} (h : Kd.FK k65 W ok x cs) : ∃ A1 c1, cs = [.string x.f0, .slice A1 x.f1.length c1] ∧ x.f1.length ≤ c1 ∧ Kd.F k67 W ok A1 x.f1.length x.f1 := by
  obtain ⟨A1, c1, rfl, l1, _⟩ := k65_open (Kd.FK_now h)
  exact ⟨A1, c1, rfl, l1, (fun W' hW => by obtain ⟨A1_, c1_, he, l1_, g1_⟩ := k65_open (h W' hW); injection (Option.some.inj (show some (Value.slice A1 x.f1.length c1) = some (Value.slice A1_ x.f1.length c1_) from congrArg (fun l => l[1]?) he)) with ha_ _ _; rw [ha_]; exact g1_)⟩
theorem k65_mkF (W : World) (ok : Nat → Prop) (x : S65) {A1 : Option Addr} {c1 : Nat} (l1 : x.f1.length ≤ c1) (g1 : Kd.F k67 W ok A1 x.f1.length x.f1) : Kd.FK k65 W ok x [.string x.f0, .slice A1 x.f1.length c1] := fun W2 hW => k65_mk W2 x l1 (g1 W2 hW)
def rd_T65 (xs : List S65) (i : Int) : S65 := xs.getD i.toNat z65
theorem at_T65 {w : World} {A : Option Addr} {n : Nat} {xs : List S65} (h : Kd.C k65 w A n xs) (i : Int) (h0 : 0 ≤ i) (h1 : i < n) : ∃ ad A1 c1, A = some ad ∧ w.cell? (ad.add (i.toNat * 2)) = some (.string (rd_T65 xs i).f0) ∧ w.cell? ⟨(ad.add (i.toNat * 2)).block, (ad.add (i.toNat * 2)).off + 1, none⟩ = some (.slice A1 (rd_T65 xs i).f1.length c1) ∧ (rd_T65 xs i).f1.length ≤ c1 ∧ k67.C w A1 (rd_T65 xs i).f1.length (rd_T65 xs i).f1 := by
  obtain ⟨ad, c, e, _, hK, hc0⟩ := Kd.C_get h z65 i h0 h1
  have hc : ∀ j u, c[j]? = some u → w.cell? (ad.add (i.toNat * 2 + j)) = some u := hc0
  obtain ⟨A1, c1, rfl, l1, g1⟩ := k65_open hK
  exact ⟨ad, A1, c1, e, hc 0 _ rfl, by rw [← add_field _ _ 1 (by omega)]; exact hc 1 _ rfl, l1, g1⟩

def rd_L8 (xs : List (List S65)) (i : Int) : (List S65) := xs.getD i.toNat ([] : List S65)
theorem at_L8 {w : World} {A : Option Addr} {n : Nat} {xs : List (List S65)} (h : Kd.C (Kd.slice 65 k65) w A n xs) (i : Int) (h0 : 0 ≤ i) (h1 : i < n) : ∃ ad A0 c0, A = some ad ∧ w.cell? (ad.add i.toNat) = some (.slice A0 (rd_L8 xs i).length c0) ∧ (rd_L8 xs i).length ≤ c0 ∧ k65.C w A0 (rd_L8 xs i).length (rd_L8 xs i) := by
  obtain ⟨ad, c, e, _, hK, hc0⟩ := Kd.C_get h ([] : List S65) i h0 h1
  have hc : ∀ j u, c[j]? = some u → w.cell? (ad.add (i.toNat * 1 + j)) = some u := hc0
  obtain ⟨A0, c0, rfl, l0, g0⟩ := hK
  exact ⟨ad, A0, c0, e, by have hq := hc 0 _ rfl; rwa [Nat.mul_one, Nat.add_zero] at hq, l0, g0⟩

/-! #### struct type 56 -/
structure S56 where
  f0 : ByteArray
  f1 : (List ByteArray)
  f2 : (List S65)
def z56 : S56 := ⟨(⟨#[]⟩ : ByteArray), ([] : List ByteArray), ([] : List S65)⟩
def k56 : Kd S56 := Kd.iso (Kd.pair Kd.string (Kd.pair (Kd.slice 9 Kd.string) (Kd.slice 65 k65))) (fun x : S56 => (x.f0, x.f1, x.f2))
theorem k56_open {w : World} {x : S56} {cs : List Value} (h : k56.K w x cs) : ∃ A1 c1 A2 c2, cs = [.string x.f0, .slice A1 x.f1.length c1, .slice A2 x.f2.length c2] ∧ x.f1.length ≤ c1 ∧ Kd.string.C w A1 x.f1.length x.f1 ∧ x.f2.length ≤ c2 ∧ k65.C w A2 x.f2.length x.f2 := by
  obtain ⟨_, _, rfl, rfl, ⟨_, _, rfl, ⟨A1, c1, rfl, l1, g1⟩, ⟨A2, c2, rfl, l2, g2⟩⟩⟩ := h
  exact ⟨A1, c1, A2, c2, rfl, l1, g1, l2, g2⟩
theorem k56_openM {w : World} {base : Nat} {ok : Nat → Prop} {x : S56} {cs : List Value} (h : k56.M w base ok x cs) : ∃ v1 v2, cs = [.string x.f0, v1, v2] ∧ Kd.string.R 9 w base ok v1 x.f1 ∧ k65.R 65 w base ok v2 x.f2 := by
  obtain ⟨_, _, rfl, rfl, ⟨_, _, rfl, ⟨v1, rfl, g1⟩, ⟨v2, rfl, g2⟩⟩⟩ := h
  exact ⟨v1, v2, rfl, g1, g2⟩
theorem k56_mk (w : World) (x : S56) {A1 : Option Addr} {c1 : Nat} (l1 : x.f1.length ≤ c1) (g1 : Kd.string.C w A1 x.f1.length x.f1) {A2 : Option Addr} {c2 : Nat} (l2 : x.f2.length ≤ c2) (g2 : k65.C w A2 x.f2.length x.f2) : k56.K w x [.string x.f0, .slice A1 x.f1.length c1, .slice A2 x.f2.length c2] := ⟨[.string x.f0], [.slice A1 x.f1.length c1, .slice A2 x.f2.length c2], rfl, rfl, ⟨[.slice A1 x.f1.length c1], [.slice A2 x.f2.length c2], rfl, ⟨A1, c1, rfl, l1, g1⟩, ⟨A2, c2, rfl, l2, g2⟩⟩⟩
theorem k56_mkM (w : World) (base : Nat) (ok : Nat → Prop) (x : S56) {v1 : Value} (g1 : Kd.string.R 9 w base ok v1 x.f1) {v2 : Value} (g2 : k65.R 65 w base ok v2 x.f2) : k56.M w base ok x [.string x.f0, v1, v2] := ⟨[.string x.f0], [v1, v2], rfl, rfl, ⟨[v1], [v2], rfl, ⟨v1, rfl, g1⟩, ⟨v2, rfl, g2⟩⟩⟩
theorem k56_openF {W : World} {ok : Nat → Prop} {x : S56} {cs : List Value} (h : Kd.FK k56 W ok x cs) : ∃ A1 c1 A2 c2, cs = [.string x.f0, .slice A1 x.f1.length c1, .slice A2 x.f2.length c2] ∧ x.f1.length ≤ c1 ∧ Kd.F Kd.string W ok A1 x.f1.length x.f1 ∧ x.f2.length ≤ c2 ∧ Kd.F k65 W ok A2 x.f2.length x.f2 := by
  obtain ⟨A1, c1, A2, c2, rfl, l1, _, l2, _⟩ := k56_open (Kd.FK_now h)
  exact ⟨A1, c1, A2, c2, rfl, l1, (fun W' hW => by obtain ⟨A1_, c1_, A2_, c2_, he, l1_, g1_, l2_, g2_⟩ := k56_open (h W' hW); injection (Option.some.inj (show some (Value.slice A1 x.f1.length c1) = some (Value.slice A1_ x.f1.length c1_) from congrArg (fun l => l[1]?) he)) with ha_ _ _; rw [ha_]; exact g1_), l2, (fun W' hW => by obtain ⟨A1_, c1_, A2_, c2_, he, l1_, g1_, l2_, g2_⟩ := k56_open (h W' hW); injection (Option.some.inj (show some (Value.slice A2 x.f2.length c2) = some (Value.slice A2_ x.f2.length c2_) from congrArg (fun l => l[2]?) he)) with ha_ _ _; rw [ha_]; exact g2_)⟩
theorem k56_mkF (W : World) (ok : Nat → Prop) (x : S56) {A1 : Option Addr} {c1 : Nat} (l1 : x.f1.length ≤ c1) (g1 : Kd.F Kd.string W ok A1 x.f1.length x.f1) {A2 : Option Addr} {c2 : Nat} (l2 : x.f2.length ≤ c2) (g2 : Kd.F k65 W ok A2 x.f2.length x.f2) : Kd.FK k56 W ok x [.string x.f0, .slice A1 x.f1.length c1, .slice A2 x.f2.length c2] := fun W2 hW => k56_mk W2 x l1 (g1 W2 hW) l2 (g2 W2 hW)
def rd_T56 (xs : List S56) (i : Int) : S56 := xs.getD i.toNat z56
theorem at_T56 {w : World} {A : Option Addr} {n : Nat} {xs : List S56} (h : Kd.C k56 w A n xs) (i : Int) (h0 : 0 ≤ i) (h1 : i < n) : ∃ ad A1 c1 A2 c2, A = some ad ∧ w.cell? (ad.add (i.toNat * 3)) = some (.string (rd_T56 xs i).f0) ∧ w.cell? ⟨(ad.add (i.toNat * 3)).block, (ad.add (i.toNat * 3)).off + 1, none⟩ = some (.slice A1 (rd_T56 xs i).f1.length c1) ∧ w.cell? ⟨(ad.add (i.toNat * 3)).block, (ad.add (i.toNat * 3)).off + 2, none⟩ = some (.slice A2 (rd_T56 xs i).f2.length c2) ∧ (rd_T56 xs i).f1.length ≤ c1 ∧ Kd.string.C w A1 (rd_T56 xs i).f1.length (rd_T56 xs i).f1 ∧ (rd_T56 xs i).f2.length ≤ c2 ∧ k65.C w A2 (rd_T56 xs i).f2.length (rd_T56 xs i).f2 := by
  obtain ⟨ad, c, e, _, hK, hc0⟩ := Kd.C_get h z56 i h0 h1
  have hc : ∀ j u, c[j]? = some u → w.cell? (ad.add (i.toNat * 3 + j)) = some u := hc0
  obtain ⟨A1, c1, A2, c2, rfl, l1, g1, l2, g2⟩ := k56_open hK
  exact ⟨ad, A1, c1, A2, c2, e, hc 0 _ rfl, by rw [← add_field _ _ 1 (by omega)]; exact hc 1 _ rfl, by rw [← add_field _ _ 2 (by omega)]; exact hc 2 _ rfl, l1, g1, l2, g2⟩

/-! #### struct type 34 -/
structure S34 where
  f0 : ByteArray
  f1 : (List ByteArray)
  f2 : S29
def z34 : S34 := ⟨(⟨#[]⟩ : ByteArray), ([] : List ByteArray), z29⟩
def k34 : Kd S34 := Kd.iso (Kd.pair Kd.string (Kd.pair (Kd.slice 9 Kd.string) k29)) (fun x : S34 => (x.f0, x.f1, x.f2))
theorem k34_open {w : World} {x : S34} {cs : List Value} (h : k34.K w x cs) : ∃ A1 c1 A5 c5 A6 c6 A7 c7, cs = [.string x.f0, .slice A1 x.f1.length c1, .int .i64 x.f2.f0, .string x.f2.f1, .int .i64 x.f2.f2, .slice A5 x.f2.f3.length c5, .slice A6 x.f2.f4.length c6, .slice A7 x.f2.f5.length c7] ∧ x.f1.length ≤ c1 ∧ Kd.string.C w A1 x.f1.length x.f1 ∧ x.f2.f3.length ≤ c5 ∧ Kd.string.C w A5 x.f2.f3.length x.f2.f3 ∧ x.f2.f4.length ≤ c6 ∧ k29.C w A6 x.f2.f4.length x.f2.f4 ∧ x.f2.f5.length ≤ c7 ∧ k88.C w A7 x.f2.f5.length x.f2.f5 := by
  obtain ⟨_, _, rfl, rfl, ⟨_, _, rfl, ⟨A1, c1, rfl, l1, g1⟩, s2⟩⟩ := h
  obtain ⟨A5, c5, A6, c6, A7, c7, rfl, l5, g5, l6, g6, l7, g7⟩ := k29_open s2
  exact ⟨A1, c1, A5, c5, A6, c6, A7, c7, rfl, l1, g1, l5, g5, l6, g6, l7, g7⟩
theorem k34_openM {w : World} {base : Nat} {ok : Nat → Prop} {x : S34} {cs : List Value} (h : k34.M w base ok x cs) : ∃ v1 v5 v6 v7, cs = [.string x.f0, v1, .int .i64 x.f2.f0, .string x.f2.f1, .int .i64 x.f2.f2, v5, v6, v7] ∧ Kd.string.R 9 w base ok v1 x.f1 ∧ Kd.string.R 9 w base ok v5 x.f2.f3 ∧ k29.R 29 w base ok v6 x.f2.f4 ∧ k88.R 88 w base ok v7 x.f2.f5 := by
  obtain ⟨_, _, rfl, rfl, ⟨_, _, rfl, ⟨v1, rfl, g1⟩, s2⟩⟩ := h
  obtain ⟨v5, v6, v7, rfl, g5, g6, g7⟩ := k29_openM s2
  exact ⟨v1, v5, v6, v7, rfl, g1, g5, g6, g7⟩
theorem k34_mk (w : World) (x : S34) {A1 : Option Addr} {c1 : Nat} (l1 : x.f1.length ≤ c1) (g1 : Kd.string.C w A1 x.f1.length x.f1) {A5 : Option Addr} {c5 : Nat} (l5 : x.f2.f3.length ≤ c5) (g5 : Kd.string.C w A5 x.f2.f3.length x.f2.f3) {A6 : Option Addr} {c6 : Nat} (l6 : x.f2.f4.length ≤ c6) (g6 : k29.C w A6 x.f2.f4.length x.f2.f4) {A7 : Option Addr} {c7 : Nat} (l7 : x.f2.f5.length ≤ c7) (g7 : k88.C w A7 x.f2.f5.length x.f2.f5) : k34.K w x [.string x.f0, .slice A1 x.f1.length c1, .int .i64 x.f2.f0, .string x.f2.f1, .int .i64 x.f2.f2, .slice A5 x.f2.f3.length c5, .slice A6 x.f2.f4.length c6, .slice A7 x.f2.f5.length c7] := ⟨[.string x.f0], [.slice A1 x.f1.length c1, .int .i64 x.f2.f0, .string x.f2.f1, .int .i64 x.f2.f2, .slice A5 x.f2.f3.length c5, .slice A6 x.f2.f4.length c6, .slice A7 x.f2.f5.length c7], rfl, rfl, ⟨[.slice A1 x.f1.length c1], [.int .i64 x.f2.f0, .string x.f2.f1, .int .i64 x.f2.f2, .slice A5 x.f2.f3.length c5, .slice A6 x.f2.f4.length c6, .slice A7 x.f2.f5.length c7], rfl, ⟨A1, c1, rfl, l1, g1⟩, (k29_mk w x.f2 l5 g5 l6 g6 l7 g7)⟩⟩
theorem k34_mkM (w : World) (base : Nat) (ok : Nat → Prop) (x : S34) {v1 : Value} (g1 : Kd.string.R 9 w base ok v1 x.f1) {v5 : Value} (g5 : Kd.string.R 9 w base ok v5 x.f2.f3) {v6 : Value} (g6 : k29.R 29 w base ok v6 x.f2.f4) {v7 : Value} (g7 : k88.R 88 w base ok v7 x.f2.f5) : k34.M w base ok x [.string x.f0, v1, .int .i64 x.f2.f0, .string x.f2.f1, .int .i64 x.f2.f2, v5, v6, v7] := ⟨[.string x.f0], [v1, .int .i64 x.f2.f0, .string x.f2.f1, .int .i64 x.f2.f2, v5, v6, v7], rfl, rfl, ⟨[v1], [.int .i64 x.f2.f0, .string x.f2.f1, .int .i64 x.f2.f2, v5, v6, v7], rfl, ⟨v1, rfl, g1⟩, (k29_mkM w base ok x.f2 g5 g6 g7)⟩⟩
theorem k34_openF {W : World} {ok : Nat → Prop} {x : S34} {cs : List Value} (h : Kd.FK k34 W ok x cs) : ∃ A1 c1 A5 c5 A6 c6 A7 c7, cs = [.string x.f0, .slice A1 x.f1.length c1, .int .i64 x.f2.f0, .string x.f2.f1, .int .i64 x.f2.f2, .slice A5 x.f2.f3.length c5, .slice A6 x.f2.f4.length c6, .slice A7 x.f2.f5.length c7] ∧ x.f1.length ≤ c1 ∧ Kd.F Kd.string W ok A1 x.f1.length x.f1 ∧ x.f2.f3.length ≤ c5 ∧ Kd.F Kd.string W ok A5 x.f2.f3.length x.f2.f3 ∧ x.f2.f4.length ≤ c6 ∧ Kd.F k29 W ok A6 x.f2.f4.length x.f2.f4 ∧ x.f2.f5.length ≤ c7 ∧ Kd.F k88 W ok A7 x.f2.f5.length x.f2.f5 := by
  obtain ⟨A1, c1, A5, c5, A6, c6, A7, c7, rfl, l1, _, l5, _, l6, _, l7, _⟩ := k34_open (Kd.FK_now h)
  exact ⟨A1, c1, A5, c5, A6, c6, A7, c7, rfl, l1, (fun W' hW => by obtain ⟨A1_, c1_, A5_, c5_, A6_, c6_, A7_, c7_, he, l1_, g1_, l5_, g5_, l6_, g6_, l7_, g7_⟩ := k34_open (h W' hW); injection (Option.some.inj (show some (Value.slice A1 x.f1.length c1) = some (Value.slice A1_ x.f1.length c1_) from congrArg (fun l => l[1]?) he)) with ha_ _ _; rw [ha_]; exact g1_), l5, (fun W' hW => by obtain ⟨A1_, c1_, A5_, c5_, A6_, c6_, A7_, c7_, he, l1_, g1_, l5_, g5_, l6_, g6_, l7_, g7_⟩ := k34_open (h W' hW); injection (Option.some.inj (show some (Value.slice A5 x.f2.f3.length c5) = some (Value.slice A5_ x.f2.f3.length c5_) from congrArg (fun l => l[5]?) he)) with ha_ _ _; rw [ha_]; exact g5_), l6, (fun W' hW => by obtain ⟨A1_, c1_, A5_, c5_, A6_, c6_, A7_, c7_, he, l1_, g1_, l5_, g5_, l6_, g6_, l7_, g7_⟩ := k34_open (h W' hW); injection (Option.some.inj (show some (Value.slice A6 x.f2.f4.length c6) = some (Value.slice A6_ x.f2.f4.length c6_) from congrArg (fun l => l[6]?) he)) with ha_ _ _; rw [ha_]; exact g6_), l7, (fun W' hW => by obtain ⟨A1_, c1_, A5_, c5_, A6_, c6_, A7_, c7_, he, l1_, g1_, l5_, g5_, l6_, g6_, l7_, g7_⟩ := k34_open (h W' hW); injection (Option.some.inj (show some (Value.slice A7 x.f2.f5.length c7) = some (Value.slice A7_ x.f2.f5.length c7_) from congrArg (fun l => l[7]?) he)) with ha_ _ _; rw [ha_]; exact g7_)⟩
theorem k34_mkF (W : World) (ok : Nat → Prop) (x : S34) {A1 : Option Addr} {c1 : Nat} (l1 : x.f1.length ≤ c1) (g1 : Kd.F Kd.string W ok A1 x.f1.length x.f1) {A5 : Option Addr} {c5 : Nat} (l5 : x.f2.f3.length ≤ c5) (g5 : Kd.F Kd.string W ok A5 x.f2.f3.length x.f2.f3) {A6 : Option Addr} {c6 : Nat} (l6 : x.f2.f4.length ≤ c6) (g6 : Kd.F k29 W ok A6 x.f2.f4.length x.f2.f4) {A7 : Option Addr} {c7 : Nat} (l7 : x.f2.f5.length ≤ c7) (g7 : Kd.F k88 W ok A7 x.f2.f5.length x.f2.f5) : Kd.FK k34 W ok x [.string x.f0, .slice A1 x.f1.length c1, .int .i64 x.f2.f0, .string x.f2.f1, .int .i64 x.f2.f2, .slice A5 x.f2.f3.length c5, .slice A6 x.f2.f4.length c6, .slice A7 x.f2.f5.length c7] := fun W2 hW => k34_mk W2 x l1 (g1 W2 hW) l5 (g5 W2 hW) l6 (g6 W2 hW) l7 (g7 W2 hW)
def rd_T34 (xs : List S34) (i : Int) : S34 := xs.getD i.toNat z34
theorem at_T34 {w : World} {A : Option Addr} {n : Nat} {xs : List S34} (h : Kd.C k34 w A n xs) (i : Int) (h0 : 0 ≤ i) (h1 : i < n) : ∃ ad A1 c1 A5 c5 A6 c6 A7 c7, A = some ad ∧ w.cell? (ad.add (i.toNat * 8)) = some (.string (rd_T34 xs i).f0) ∧ w.cell? ⟨(ad.add (i.toNat * 8)).block, (ad.add (i.toNat * 8)).off + 1, none⟩ = some (.slice A1 (rd_T34 xs i).f1.length c1) ∧ w.cell? ⟨(ad.add (i.toNat * 8)).block, (ad.add (i.toNat * 8)).off + 2, none⟩ = some (.int .i64 (rd_T34 xs i).f2.f0) ∧ w.cell? ⟨(ad.add (i.toNat * 8)).block, (ad.add (i.toNat * 8)).off + 3, none⟩ = some (.string (rd_T34 xs i).f2.f1) ∧ w.cell? ⟨(ad.add (i.toNat * 8)).block, (ad.add (i.toNat * 8)).off + 4, none⟩ = some (.int .i64 (rd_T34 xs i).f2.f2) ∧ w.cell? ⟨(ad.add (i.toNat * 8)).block, (ad.add (i.toNat * 8)).off + 5, none⟩ = some (.slice A5 (rd_T34 xs i).f2.f3.length c5) ∧ w.cell? ⟨(ad.add (i.toNat * 8)).block, (ad.add (i.toNat * 8)).off + 6, none⟩ = some (.slice A6 (rd_T34 xs i).f2.f4.length c6) ∧ w.cell? ⟨(ad.add (i.toNat * 8)).block, (ad.add (i.toNat * 8)).off + 7, none⟩ = some (.slice A7 (rd_T34 xs i).f2.f5.length c7) ∧ (rd_T34 xs i).f1.length ≤ c1 ∧ Kd.string.C w A1 (rd_T34 xs i).f1.length (rd_T34 xs i).f1 ∧ (rd_T34 xs i).f2.f3.length ≤ c5 ∧ Kd.string.C w A5 (rd_T34 xs i).f2.f3.length (rd_T34 xs i).f2.f3 ∧ (rd_T34 xs i).f2.f4.length ≤ c6 ∧ k29.C w A6 (rd_T34 xs i).f2.f4.length (rd_T34 xs i).f2.f4 ∧ (rd_T34 xs i).f2.f5.length ≤ c7 ∧ k88.C w A7 (rd_T34 xs i).f2.f5.length (rd_T34 xs i).f2.f5 := by
  obtain ⟨ad, c, e, _, hK, hc0⟩ := Kd.C_get h z34 i h0 h1
  have hc : ∀ j u, c[j]? = some u → w.cell? (ad.add (i.toNat * 8 + j)) = some u := hc0
  obtain ⟨A1, c1, A5, c5, A6, c6, A7, c7, rfl, l1, g1, l5, g5, l6, g6, l7, g7⟩ := k34_open hK
  exact ⟨ad, A1, c1, A5, c5, A6, c6, A7, c7, e, hc 0 _ rfl, by rw [← add_field _ _ 1 (by omega)]; exact hc 1 _ rfl, by rw [← add_field _ _ 2 (by omega)]; exact hc 2 _ rfl, by rw [← add_field _ _ 3 (by omega)]; exact hc 3 _ rfl, by rw [← add_field _ _ 4 (by omega)]; exact hc 4 _ rfl, by rw [← add_field _ _ 5 (by omega)]; exact hc 5 _ rfl, by rw [← add_field _ _ 6 (by omega)]; exact hc 6 _ rfl, by rw [← add_field _ _ 7 (by omega)]; exact hc 7 _ rfl, l1, g1, l5, g5, l6, g6, l7, g7⟩

end Go.Proofs.YtlgpoigbadajnaaDoor.PDepA
