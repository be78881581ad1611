/- What FreeLets says of free names, in plain Lean: names are put in once, in the order of their places; what binds a name takes it away. No program in sight. -/
import Derived.Test.YtmoeekidmkhkoaaDoorFreeL
import Derived.Test.YtmoeekidmkhkoaaDoorFreeC
import Derived.Test.YtmoeekidmkhkoaaDoorPFreeAx7
namespace Go.Proofs.YtmoeekidmkhkoaaDoor.FreeA
open Go.RowKit Go.Proofs.YtmoeekidmkhkoaaDoorW.PrintWords Go.Proofs.YtmoeekidmkhkoaaDoorW.PrintLast Go.Proofs.YtmoeekidmkhkoaaDoorW.PrintMore Go.Proofs.YtmoeekidmkhkoaaDoor.PFreeA
set_option linter.unusedVariables false
set_option linter.unusedSimpArgs false
theorem isIn_iff2 (l : List ByteArray) (s : ByteArray) : isIn l s = true ↔ s ∈ l := by
  unfold isIn
  rw [List.any_eq_true]
  constructor
  · rintro ⟨t, ht, h⟩
    obtain rfl := of_decide_eq_true h
    exact ht
  · exact fun h => ⟨s, h, decide_eq_true rfl⟩
theorem isIn_app (a b : List ByteArray) (s : ByteArray) : isIn (a ++ b) s = (isIn a s || isIn b s) := by unfold isIn; rw [List.any_append]
theorem putL_app (a b o : List ByteArray) : putL (a ++ b) o = putL b (putL a o) := by unfold putL; rw [List.foldl_append]
theorem putL_mem : ∀ (l o : List ByteArray) (s : ByteArray), s ∈ putL l o ↔ s ∈ o ∨ s ∈ l
  | [], o, s => by simp [putL]
  | t :: l, o, s => by
    have h := putL_mem l (add1 o t) s
    have h1 : putL (t :: l) o = putL l (add1 o t) := rfl
    rw [h1, h]
    unfold add1
    split
    · rename_i hi
      have := (isIn_iff2 o t).1 hi
      constructor
      · rintro (h | h)
        · exact .inl h
        · exact .inr (List.mem_cons_of_mem _ h)
      · rintro (h | h)
        · exact .inl h
        · rcases List.mem_cons.1 h with rfl | h
          · exact .inl this
          · exact .inr h
    · rw [List.mem_append, List.mem_singleton, List.mem_cons]
      constructor
      · rintro ((h | h) | h)
        · exact .inl h
        · exact .inr (.inl h)
        · exact .inr (.inr h)
      · rintro (h | h | h)
        · exact .inl (.inl h)
        · exact .inl (.inr h)
        · exact .inr h
theorem putL_once : ∀ (l p o : List ByteArray), putL (putL l p) o = putL l (putL p o)
  | [], p, o => rfl
  | t :: l, p, o => by
    have h1 : putL (t :: l) p = putL l (add1 p t) := rfl
    have h2 : putL (t :: l) (putL p o) = putL l (add1 (putL p o) t) := rfl
    rw [h1, h2, putL_once l (add1 p t) o]
    congr 1
    unfold add1
    by_cases h : isIn p t = true
    · rw [if_pos h, if_pos ((isIn_iff2 _ _).2 ((putL_mem p o t).2 (.inr ((isIn_iff2 p t).1 h))))]
    · rw [if_neg h, putL_app]
      rfl
theorem putL_self (l o : List ByteArray) : putL (putL l []) o = putL l o := putL_once l [] o
mutual
/-- The names of the variables that nothing binds, in the order of their places, again and again. -/
def vs : S33 → List ByteArray → List ByteArray
  | ⟨op, nm, _, ns, l, al⟩, B => (if op = 1 ∧ isIn B nm = false then [nm] else []) ++ (vsL l (ns ++ B) ++ vsA al B)
def vsL : List S33 → List ByteArray → List ByteArray
  | [], _ => []
  | e :: l, B => vs e B ++ vsL l B
def vsA : List S40 → List ByteArray → List ByteArray
  | [], _ => []
  | ⟨_, _, _, ns, e⟩ :: l, B => vs e (ns ++ B) ++ vsA l B
end
mutual
theorem fx_vs : ∀ (e : S33) (B o : List ByteArray), fx e B o = putL (vs e B) o
  | ⟨op, nm, _, ns, l, al⟩, B, o => by
    simp only [fx, vs, putL_app, fxL_vs l, fxA_vs al]
    congr 2
    by_cases h : op = 1 ∧ isIn B nm = false
    · rw [if_pos h]
      show _ = add1 o nm
      unfold add1
      by_cases hi : isIn o nm = true
      · rw [if_pos hi, if_neg (by rw [hi]; simp)]
      · rw [if_neg hi, if_pos ⟨h.1, h.2, by simpa using hi⟩]
    · rw [if_neg h, if_neg (fun h' => h ⟨h'.1, h'.2.1⟩)]
      rfl
theorem fxL_vs : ∀ (l : List S33) (B o : List ByteArray), fxL l B o = putL (vsL l B) o
  | [], B, o => rfl
  | e :: l, B, o => by simp only [fxL, vsL, putL_app, fx_vs e, fxL_vs l]
theorem fxA_vs : ∀ (l : List S40) (B o : List ByteArray), fxA l B o = putL (vsA l B) o
  | [], B, o => rfl
  | ⟨_, _, _, ns, e⟩ :: l, B, o => by simp only [fxA, vsA, putL_app, fx_vs e, fxA_vs l]
end
mutual
/-- One name more that is bound. -/
theorem vs_less (x : ByteArray) : ∀ (e : S33) (B C : List ByteArray), (∀ s, isIn C s = (decide (s = x) || isIn B s)) → vs e C = (vs e B).filter (fun s => !decide (s = x))
  | ⟨op, nm, _, ns, l, al⟩, B, C, h => by
    have h' : ∀ s, isIn (ns ++ C) s = (decide (s = x) || isIn (ns ++ B) s) := fun s => by rw [isIn_app, isIn_app, h, Bool.or_left_comm]
    simp only [vs, List.filter_append, vsL_less x l _ _ h', vsA_less x al _ _ h]
    congr 1
    rw [h nm]
    by_cases hx : nm = x
    · subst hx
      simp
    · rw [decide_eq_false hx, Bool.false_or]
      split
      · rw [List.filter_cons, decide_eq_false hx]; rfl
      · rfl
theorem vsL_less (x : ByteArray) : ∀ (l : List S33) (B C : List ByteArray), (∀ s, isIn C s = (decide (s = x) || isIn B s)) → vsL l C = (vsL l B).filter (fun s => !decide (s = x))
  | [], B, C, h => rfl
  | e :: l, B, C, h => by simp only [vsL, List.filter_append, vs_less x e _ _ h, vsL_less x l _ _ h]
theorem vsA_less (x : ByteArray) : ∀ (l : List S40) (B C : List ByteArray), (∀ s, isIn C s = (decide (s = x) || isIn B s)) → vsA l C = (vsA l B).filter (fun s => !decide (s = x))
  | [], B, C, h => rfl
  | ⟨_, _, _, ns, e⟩ :: l, B, C, h => by
    have h' : ∀ s, isIn (ns ++ C) s = (decide (s = x) || isIn (ns ++ B) s) := fun s => by rw [isIn_app, isIn_app, h, Bool.or_left_comm]
    simp only [vsA, List.filter_append, vs_less x e _ _ h', vsA_less x l _ _ h]
end
theorem vs_x (x : ByteArray) (e : S33) : vs e [x] = (vs e []).filter (fun s => !decide (s = x)) := vs_less x e [] [x] (fun s => by unfold isIn; simp [eq_comm])
def sX : ByteArray := ⟨#[120]⟩
def exP (a b : S33) : S33 := ⟨9, ⟨#[43]⟩, 0, [], [a, b], []⟩
def exLet (a b : S33) : S33 := ⟨7, ⟨#[]⟩, 0, [sX], [a, b], []⟩
def exAlt (a b : S33) : S33 := ⟨8, ⟨#[]⟩, 0, [], [a], [⟨1, ⟨#[67]⟩, 0, [sX], b⟩]⟩
theorem vs_P (a b : S33) : vs (exP a b) [] = vs a [] ++ vs b [] := by simp [exP, vs, vsL, vsA]
theorem vs_Let (a b : S33) : vs (exLet a b) [] = vs a [sX] ++ vs b [sX] := by simp [exLet, vs, vsL, vsA]
theorem vs_Alt (a b : S33) : vs (exAlt a b) [] = vs a [] ++ vs b [sX] := by simp [exAlt, vs, vsL, vsA]
def both (a b : S33) : List ByteArray := putL (fx a [] [] ++ fx b [] []) []
theorem names_P (a b : S33) : fx (exP a b) [] [] = both a b := by
  unfold both
  rw [fx_vs, fx_vs, fx_vs, vs_P, putL_app, putL_app, putL_self, putL_self]
theorem mem_fx (e : S33) (s : ByteArray) : s ∈ fx e [] [] ↔ s ∈ vs e [] := by rw [fx_vs, putL_mem]; simp
theorem mem_both (a b : S33) (s : ByteArray) : s ∈ both a b ↔ s ∈ vs a [] ∨ s ∈ vs b [] := by unfold both; rw [putL_mem, List.mem_append, mem_fx, mem_fx]; simp
theorem mem_vsx (e : S33) (s : ByteArray) : s ∈ vs e [sX] ↔ s ∈ vs e [] ∧ s ≠ sX := by rw [vs_x, List.mem_filter]; simp
theorem bool_iff {a b : Bool} (h : a = true ↔ b = true) : a = b := by cases a <;> cases b <;> simp_all
theorem has_let (a b : S33) (s : ByteArray) (hs : s ∈ both a b) : isIn (fx (exLet a b) [] []) s = !decide (s = sX) := by
  apply bool_iff
  rw [isIn_iff2, mem_fx, vs_Let, List.mem_append, mem_vsx, mem_vsx]
  rw [mem_both] at hs
  simp only [Bool.not_eq_true', decide_eq_false_iff_not]
  constructor
  · rintro (h | h)
    · exact h.2
    · exact h.2
  · exact fun h => hs.imp (fun q => ⟨q, h⟩) (fun q => ⟨q, h⟩)
theorem has_alt (a b : S33) (s : ByteArray) (hs : s ∈ both a b) : isIn (fx (exAlt a b) [] []) s = (!decide (s = sX) || isIn (fx a [] []) sX) := by
  apply bool_iff
  rw [isIn_iff2, mem_fx, vs_Alt, List.mem_append, mem_vsx, Bool.or_eq_true, isIn_iff2, mem_fx]
  rw [mem_both] at hs
  simp only [Bool.not_eq_true', decide_eq_false_iff_not]
  constructor
  · rintro (h | h)
    · by_cases hx : s = sX
      · subst hx; exact .inr h
      · exact .inl hx
    · exact .inl h.2
  · rintro (h | h)
    · exact hs.imp id (fun q => ⟨q, h⟩)
    · by_cases hx : s = sX
      · subst hx; exact .inl h
      · exact hs.imp id (fun q => ⟨q, hx⟩)
theorem has_letx (a b : S33) : isIn (fx (exLet a b) [] []) sX = false := by
  apply Bool.eq_false_iff.2
  rw [Ne, isIn_iff2, mem_fx, vs_Let, List.mem_append, mem_vsx, mem_vsx]
  rintro (h | h)
  · exact h.2 rfl
  · exact h.2 rfl
theorem rd_at (l : List ByteArray) (i : Nat) (h : i < l.length) : rdOf ByteArray.empty l (i : Int) = l[i] := by unfold rdOf; rw [Int.toNat_natCast, List.getD_eq_getElem?_getD, List.getElem?_eq_getElem h]; rfl
theorem toList_eq {a b : ByteArray} : a.toList = b.toList ↔ a = b := by
  constructor
  · intro h
    have h1 : a.data.toList = b.data.toList := by
      have ha : a.toList = a.data.toList := by first | rfl | rw [ByteArray.toList_eq] | simp
      have hb : b.toList = b.data.toList := by first | rfl | rw [ByteArray.toList_eq] | simp
      rw [← ha, ← hb, h]
    exact ByteArray.ext (Array.toList_inj.1 h1)
  · exact fun h => h ▸ rfl
theorem place_eq (l : List ByteArray) (s : ByteArray) (hl : l.length ≤ 1000000000000) : ∀ (k i : Nat), 0 < k → l.length < k + i → i ≤ l.length → ∃ r, gristmillref_Place.l0 k l s (i : Int) = some r ∧ (0 ≤ r ↔ s ∈ l.drop i)
  | 0, i, h0, h, _ => by omega
  | k + 1, i, h0, h, hi => by
    unfold gristmillref_Place.l0
    by_cases hlt : i < l.length
    · rw [if_pos (by omega), if_pos (by omega), rd_at l i hlt, List.drop_eq_getElem_cons hlt, List.mem_cons]
      by_cases he : l[i].toList = s.toList
      · rw [if_pos he]
        exact ⟨_, rfl, fun _ => .inl (toList_eq.1 he).symm, fun _ => by omega⟩
      · rw [if_neg he, wr1 i (by omega)]
        obtain ⟨r, hr, hm⟩ := place_eq l s hl k (i + 1) (by omega) (by omega) (by omega)
        refine ⟨r, hr, fun h => .inr (hm.1 h), fun h => ?_⟩
        rcases h with rfl | h
        · exact absurd rfl he
        · exact hm.2 h
    · rw [if_neg (by omega), List.drop_of_length_le (by omega)]
      exact ⟨_, rfl, by simp⟩
theorem has_eq (l : List ByteArray) (s : ByteArray) (hl : l.length ≤ 1000000000000) (k : Nat) (hk : l.length < k) : gristmillref_Has.f k l s = some (isIn l s) := by
  obtain ⟨r, hr, hm⟩ := place_eq l s hl k 0 (by omega) (by omega) (by omega)
  unfold gristmillref_Has.f gristmillref_Place.f
  rw [show (0 : Int) = ((0 : Nat) : Int) from rfl, hr]
  rw [List.drop_zero] at hm
  simp only [Option.bind_some, Option.some.injEq]
  apply bool_iff
  rw [isIn_iff2, ← hm]
  simp
theorem once_l0 (l : List ByteArray) (hl : l.length ≤ 1000000000) : ∀ (k i : Nat) (o : List ByteArray), i ≤ l.length → o.length ≤ i → 2 * l.length + 2 ≤ k + i → gristmillref_Once.l0 k l o (i : Int) = some (putL (l.drop i) o)
  | 0, i, o, hi, ho, hk => by omega
  | k + 1, i, o, hi, ho, hk => by
    rw [gristmillref_Once.l0]
    by_cases hlt : i < l.length
    · rw [if_pos (by omega), if_pos (by omega), rd_at l i hlt, has_eq o _ (by omega) k (by omega), Option.bind_some, wr1 i (by omega), List.drop_eq_getElem_cons hlt]
      have h1 : putL (l[i] :: l.drop (i + 1)) o = putL (l.drop (i + 1)) (add1 o l[i]) := rfl
      rw [h1]
      unfold add1
      by_cases hin : isIn o l[i] = true
      · rw [if_pos hin, if_pos hin]
        exact once_l0 l hl k (i + 1) o (by omega) (by omega) (by omega)
      · rw [if_neg hin, if_neg hin, if_pos (by omega)]
        exact once_l0 l hl k (i + 1) _ (by omega) (by simp; omega) (by omega)
    · rw [if_neg (by omega), List.drop_of_length_le (by omega)]
      rfl
theorem once_eq (l : List ByteArray) (hl : l.length ≤ 1000000000) : gristmillref_Once.f (2 * l.length + 2) l = some (putL l []) := by
  unfold gristmillref_Once.f
  have := once_l0 l hl (2 * l.length + 2) 0 [] (by omega) (by simp) (by omega)
  rwa [List.drop_zero] at this
end Go.Proofs.YtmoeekidmkhkoaaDoor.FreeA

