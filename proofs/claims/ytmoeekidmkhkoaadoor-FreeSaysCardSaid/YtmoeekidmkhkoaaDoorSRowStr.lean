/- How a slice of texts that came in reads: facts on the data of a row's arguments. No condition. -/
import Derived.Test.YtmoeekidmkhkoaaDoorProg
import Derived.Test.YtmoeekidmkhkoaaDoorSWAll
import Derived.Lib.SmallJoins
import Derived.Deep.Slices
import Derived.SizedLaws
import Derived.ChangeArms
import Derived.RowKit
namespace Go.Proofs.YtmoeekidmkhkoaaDoor.RowStr
open Go.ChangeShapes Go.WideShapes Go.ChangeAt Go.RowKit Go.Deep Go.Joins Go.Proofs.YtmoeekidmkhkoaaDoorW.PrintWords
set_option linter.unusedVariables false
set_option linter.unusedSimpArgs false
variable {H : Type} {enc : TypeId × Value → H} {W : World} {base : Nat} {spare : Nat → Bool} {held : Bool}
theorem arg_ss {ts : List TypeId} {ds : List (DataW H)} {j : Nat} {a : Option Addr} {len cap : Nat} {d : DataW H} {p : List MemPlace} (hsz : (DataW.weightsEach Tryd.prog ts ds).all (· ≤ reachBytes) = true) (ht : ts[j]? = some 22) (hd : ds[j]? = some d)
  (h : DataW.Trod enc Tryd.prog W base spare held 22 (.slice a len cap) d p) : ∃ l : List ByteArray, len = l.length ∧ Kd.C Kd.string W a l.length l ∧ l.length ≤ cap ∧ l.length * 16 ≤ 140737488351232 := by
 obtain ⟨fuel, hf⟩ := h
 rcases open_slice Tryd.underlying22 hf with ⟨hc, _⟩ | ⟨ad, len', cap', m, n, D, Pl, hc, hb, hl, hm, hmm, hx, he⟩
 ·have hc' : [Value.slice a len cap] = [.slice none 0 0] := hc
  rw [List.cons.injEq] at hc'
  obtain ⟨rfl, rfl, rfl⟩ := Value.slice.inj hc'.1
  exact ⟨[], rfl, Kd.C_nil _ _, Nat.le_refl _, by decide⟩
 ·have hc' : [Value.slice a len cap] = [.slice (some ad) len' cap'] := hc
  rw [List.cons.injEq] at hc'
  obtain ⟨rfl, rfl, rfl⟩ := Value.slice.inj hc'.1
  obtain ⟨hd', _⟩ := Prod.mk.inj hx
  subst hd'
  have hle : len ≤ m := by rw [hmm]; split <;> omega
  have hall : ∀ i, ∃ t : ByteArray, i < len → W.cell? (ad.add i) = some (.string t) := by
   intro i
   by_cases hi : i < len
   ·obtain ⟨cs', h1, h2⟩ := he i (by omega)
    obtain ⟨_, _, h4⟩ := World.cells?_some h1
    obtain ⟨s1, e1, _, _⟩ := DataW.trod_string Tryd.underlying9 h2
    have e2 : cs' = [Value.string s1] := e1
    subst e2
    refine ⟨s1, fun _ => ?_⟩
    have hco : Tryd.prog.cellsOf 9 = 1 := by kernel_rfl
    have h5 := h4 0 (by rw [hco]; exact Nat.one_pos)
    have hz : (ad.add (i * Tryd.prog.cellsOf 9)).add 0 = ad.add i := by
     have : Tryd.prog.cellsOf 9 = 1 := by kernel_rfl
     rw [this, Nat.mul_one]
     simp [Addr.add]
    rw [hz] at h5
    rw [h5]
    rfl
   ·exact ⟨⟨#[]⟩, fun h => absurd h hi⟩
  obtain ⟨F, hF⟩ := Classical.axiomOfChoice hall
  refine ⟨(List.range len).map F, by simp, ⟨rfl, ?_, fun _ => ⟨ad, rfl, fun q t hq => ?_⟩⟩, by simpa using hl, ?_⟩
  ·simp [maxLen] at *; omega
  ·have hq' : q < len := by have := (List.getElem?_eq_some_iff.1 hq).1; simpa using this
   have ht' : t = F q := by
    rw [List.getElem?_map, List.getElem?_range hq'] at hq
    simpa using hq.symm
   subst ht'
   refine ⟨[.string (F q)], rfl, rfl, fun i u hu => ?_⟩
   match i, hu with
   | 0, hu =>
    have := hF q hq'
    have hsz1 : Kd.string.sz = 1 := rfl
    rw [hsz1, Nat.mul_one, Nat.add_zero, this]
    exact hu
  ·have z := sized_slice hsz ht hd Tryd.underlying22
   have hb16 : Tryd.prog.bytesOf 9 = 16 := by kernel_rfl
   rw [hb16] at z
   simp only [List.length_map, List.length_range] at z ⊢
   exact Nat.le_trans (Nat.mul_le_mul_right _ (Nat.le_add_right _ _)) z
end Go.Proofs.YtmoeekidmkhkoaaDoor.RowStr

