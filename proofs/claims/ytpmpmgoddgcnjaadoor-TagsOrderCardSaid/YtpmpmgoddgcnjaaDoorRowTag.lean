/- How a tag, and a slice of tags, that came in read: facts on the data of a row's arguments. No condition. -/
import Derived.Test.YtpmpmgoddgcnjaaDoorPTagsBx0
import Derived.Lib.SmallJoins
import Derived.Deep.Slices
import Derived.SizedLaws
import Derived.ChangeArms
import Derived.RowKit
namespace Go.Proofs.YtpmpmgoddgcnjaaDoor.RowTag
open Go.ChangeShapes Go.WideShapes Go.ChangeAt Go.RowKit Go.Deep Go.Joins Go.Proofs.YtpmpmgoddgcnjaaDoor.PTagsB Go.Proofs.YtpmpmgoddgcnjaaDoorW.PrintWords Go.Proofs.YtpmpmgoddgcnjaaDoorW.PrintLast
set_option linter.unusedVariables false
set_option linter.unusedSimpArgs false
variable {H : Type} {enc : TypeId × Value → H} {W : World} {base : Nat} {spare : Nat → Bool} {held : Bool}
def lits (t : S23) : DataW H := .agg [.lit (.int .i64 t.f0), .lit (.string t.f1.data.toList), .lit (.int .i64 t.f2)]
theorem hone : oneCellFields Tryd.prog (Tryd.prog.fieldsOf 23) = true := by kernel_rfl
/-- A tag's cells. -/
theorem open_tag {n : Nat} {cs : List Value} {x : DataW H × List MemPlace} (h : DataW.trod enc Tryd.prog W base spare held n 23 cs = some x) : ∃ t : S23, cs = [.int .i64 t.f0, .string t.f1, .int .i64 t.f2] ∧ x.1 = lits t := by
  obtain ⟨y0, y1, y2, m, hx, hl, h0, h1, h2⟩ := trod_struct3 Tryd.underlying23 h
  have hl3 : cs.length = 3 := hl
  obtain ⟨c0, c1, c2, rfl⟩ : ∃ c0 c1 c2, cs = [c0, c1, c2] := by
    match cs, hl3 with
    | [c0, c1, c2], _ => exact ⟨c0, c1, c2, rfl⟩
  obtain ⟨n0, e0, z0, _⟩ := DataW.trod_int Tryd.underlying3 h0
  obtain ⟨s1, e1, z1, _⟩ := DataW.trod_string Tryd.underlying9 h1
  obtain ⟨n2, e2, z2, _⟩ := DataW.trod_int Tryd.underlying3 h2
  have e0' : [c0] = [Value.int .i64 n0] := e0
  have e1' : [c1] = [Value.string s1] := e1
  have e2' : [c2] = [Value.int .i64 n2] := e2
  refine ⟨⟨n0, s1, n2⟩, ?_, ?_⟩
  · rw [List.cons.injEq] at e0' e1' e2'
    rw [e0'.1, e1'.1, e2'.1]
  · subst hx z0 z1 z2
    rfl
/-- A tag that came in. -/
theorem arg_st23 {ts : List TypeId} {ds : List (DataW H)} {j : Nat} {r : Reach} {b0 : Nat} {v : Value} {d : DataW H} {p : List MemPlace} (hsz : (DataW.weightsEach Tryd.prog ts ds).all (· ≤ reachBytes) = true) (ht : ts[j]? = some 23) (hd : ds[j]? = some d)
    (hv : Value.okWide Tryd.prog W r b0 23 v) (h : DataW.Trod enc Tryd.prog W base spare held 23 v d p) : ∃ t : S23, v = .agg #[.int .i64 t.f0, .string t.f1, .int .i64 t.f2] ∧ t.f1.size ≤ 140737488351232 := by
  obtain ⟨cs, rfl, hs⟩ := okWide_struct Tryd.underlying23 hv
  obtain ⟨fuel, hf⟩ := h
  obtain ⟨t, hc, hx⟩ := open_tag hf
  refine ⟨t, ?_, ?_⟩
  · have : cs.toList = [.int .i64 t.f0, .string t.f1, .int .i64 t.f2] := hc
    rw [← this]
  · have hd' : d = lits t := hx
    subst hd'
    have := List.all_eq_true.1 hsz _ (DataW.weights_mem_each ht hd t.f1.data.toList.length (by simp [lits, DataW.weights, Tryd.underlying23, DataW.weightsEach]))
    have h2 : t.f1.data.toList.length ≤ reachBytes := by simpa using this
    rw [Array.length_toList] at h2
    exact h2
/-- A slice of tags that came in. -/
theorem arg_sl23 {ts : List TypeId} {ds : List (DataW H)} {j : Nat} {a : Option Addr} {len cap : Nat} {d : DataW H} {p : List MemPlace} (hsz : (DataW.weightsEach Tryd.prog ts ds).all (· ≤ reachBytes) = true) (ht : ts[j]? = some 24) (hd : ds[j]? = some d)
    (h : DataW.Trod enc Tryd.prog W base spare held 24 (.slice a len cap) d p) : ∃ l : List S23, len = l.length ∧ Kd.C k23 W a l.length l ∧ l.length ≤ cap ∧ l.length * 32 ≤ 140737488351232 := by
  obtain ⟨fuel, hf⟩ := h
  rcases open_slice Tryd.underlying24 hf with ⟨hc, _⟩ | ⟨ad, len', cap', m, n, D, Pl, hc, hb, hl, hm, hmm, hx, he⟩
  · have hc' : [Value.slice a len cap] = [.slice none 0 0] := hc
    rw [List.cons.injEq] at hc'
    obtain ⟨rfl, rfl, rfl⟩ := Value.slice.inj hc'.1
    exact ⟨[], rfl, Kd.C_nil _ _, Nat.le_refl _, by decide⟩
  · have hc' : [Value.slice a len cap] = [.slice (some ad) len' cap'] := hc
    rw [List.cons.injEq] at hc'
    obtain ⟨rfl, rfl, rfl⟩ := Value.slice.inj hc'.1
    obtain ⟨hd', _⟩ := Prod.mk.inj hx
    subst hd'
    have hle : len ≤ m := by rw [hmm]; split <;> omega
    have hall : ∀ i, ∃ t : S23, i < len → ∀ q u, [Value.int .i64 t.f0, .string t.f1, .int .i64 t.f2][q]? = some u → W.cell? (ad.add (i * 3 + q)) = some u := by
      intro i
      by_cases hi : i < len
      · obtain ⟨cs', h1, h2⟩ := he i (by omega)
        obtain ⟨t, rfl, _⟩ := open_tag h2
        refine ⟨t, fun _ q u hq => ?_⟩
        obtain ⟨_, _, h4⟩ := World.cells?_some h1
        have hq3 : q < 3 := (List.getElem?_eq_some_iff.1 hq).1
        have h5 := h4 q hq3
        have e : (ad.add (i * Tryd.prog.cellsOf 23)).add q = ad.add (i * 3 + q) := by
          show Addr.add (Addr.add ad (i * 3)) q = _
          have h3 : i * 3 = 0 ↔ i = 0 := by omega
          by_cases hq0 : q = 0
          · subst hq0; simp [Addr.add]
          · by_cases hi0 : i = 0
            · subst hi0; simp [Addr.add]
            · have h4 : ¬ (i * 3 = 0) := by omega
              have h5 : ¬ (i * 3 + q = 0) := by omega
              simp [Addr.add, hq0, h4, h5, Nat.add_assoc, hi0]
        rw [e] at h5
        rw [h5]
        exact hq
      · exact ⟨z23, fun h => absurd h hi⟩
    obtain ⟨F, hF⟩ := Classical.axiomOfChoice hall
    refine ⟨(List.range len).map F, by simp, ⟨rfl, ?_, fun _ => ⟨ad, rfl, fun q t hq => ?_⟩⟩, by simpa using hl, ?_⟩
    · simp [maxLen] at *; omega
    · have hq' : q < len := by have := (List.getElem?_eq_some_iff.1 hq).1; simpa using this
      have ht' : t = F q := by
        rw [List.getElem?_map, List.getElem?_range hq'] at hq
        simpa using hq.symm
      subst ht'
      exact ⟨_, rfl, k23_mk W (F q), hF q hq'⟩
    · have z := sized_slice hsz ht hd Tryd.underlying24
      have hb32 : Tryd.prog.bytesOf 23 = 32 := by kernel_rfl
      rw [hb32] at z
      simp only [List.length_map, List.length_range] at z ⊢
      exact Nat.le_trans (Nat.mul_le_mul_right _ (Nat.le_add_right _ _)) z
end Go.Proofs.YtpmpmgoddgcnjaaDoor.RowTag
