/- What the printed comparison of two tags, and whether a tag is among others, come to. No condition. -/
import Derived.Test.YtpmpmgoddgcnjaaDoorTagSpec
namespace Go.Proofs.YtpmpmgoddgcnjaaDoor.TagSpec
open Go.RowKit Go.Proofs.YtpmpmgoddgcnjaaDoor.PTags Go.Proofs.YtpmpmgoddgcnjaaDoor.Ext Go.Proofs.YtpmpmgoddgcnjaaDoorW.PrintWords Go.Proofs.YtpmpmgoddgcnjaaDoorW.PrintLast
set_option linter.unusedVariables false
set_option linter.unusedSimpArgs false

def cmpI (a b : Int) : Int := if a < b then -1 else if b < a then 1 else 0
def cmpS (a b : ByteArray) : Int := if Op.bytesLess a.toList b.toList = true then -1 else if a.toList = b.toList then 0 else 1
theorem cmpI_eq (a b : Int) : cmp_Compare_int.f a b = some (cmpI a b) := by
  unfold cmp_Compare_int.f cmp_isNaN_int.f cmpI
  simp only [Option.bind_some, bne_self_eq_false, Bool.false_eq_true, if_false]
  by_cases h : a < b
  · rw [if_pos h, if_pos h]
  · rw [if_neg h, if_neg h]
    by_cases h' : b < a
    · rw [if_pos h', if_pos h']
    · rw [if_neg h', if_neg h']
theorem cmpS_eq (a b : ByteArray) : cmp_Compare_string.f a b = some (cmpS a b) := by
  unfold cmp_Compare_string.f cmpS
  repeat' split
  all_goals rfl
def or3 (x y z : Int) : Int := if x ≠ 0 then x else if y ≠ 0 then y else z
theorem or_eq (k : Nat) (x y z : Int) : cmp_Or_int.f (k + 4) [x, y, z] = some (or3 x y z) := by
  unfold cmp_Or_int.f or3
  simp only [cmp_Or_int.l0]
  have w0 : wrap64 (0 + 1) = 1 := by unfold wrap64; omega
  have w1 : wrap64 (1 + 1) = 2 := by unfold wrap64; omega
  have w2 : wrap64 (2 + 1) = 3 := by unfold wrap64; omega
  have r0 : rd [x, y, z] 0 = x := rfl
  have r1 : rd [x, y, z] 1 = y := rfl
  have r2 : rd [x, y, z] 2 = z := rfl
  have l3 : (([x, y, z].length : Nat) : Int) = 3 := rfl
  rw [l3, if_pos (by decide), if_pos (by decide), if_pos (by decide), r0, w0]
  by_cases hx : x = 0
  · rw [if_pos hx, if_pos (by decide), if_pos (by decide), if_pos (by decide), r1, w1]
    by_cases hy : y = 0
    · rw [if_pos hy, if_pos (by decide), if_pos (by decide), if_pos (by decide), r2, w2]
      by_cases hz : z = 0
      · rw [if_pos hz, if_neg (by decide)]
        simp [hx, hy, hz]
      · rw [if_neg hz]
        simp [hx, hy]
    · rw [if_neg hy]
      simp [hx, hy]
  · rw [if_neg hx]
    simp [hx]
def cmpT (a b : S23) : Int := or3 (cmpI a.f0 b.f0) (cmpS a.f1 b.f1) (cmpI a.f2 b.f2)
theorem compare_eq (k : Nat) (a b : S23) : tag_compare.f (k + 4) a.f0 a.f1 a.f2 b.f0 b.f1 b.f2 = some (cmpT a b) := by
  unfold tag_compare.f cmpT
  rw [cmpI_eq, Option.bind_some, cmpS_eq, Option.bind_some, cmpI_eq, Option.bind_some, or_eq]
  rfl
theorem less_eq (k : Nat) (a b : S23) : tag_Less.f (k + 4) a.f0 a.f1 a.f2 b.f0 b.f1 b.f2 = some (decide (cmpT a b < 0)) := by
  unfold tag_Less.f
  rw [compare_eq]
  rfl
theorem bytesLess_irrefl : ∀ l : List UInt8, Op.bytesLess l l = false
  | [] => rfl
  | a :: l => by simp [Op.bytesLess, bytesLess_irrefl l]
theorem cmpT_self (a : S23) : cmpT a a = 0 := by
  unfold cmpT cmpI cmpS or3
  simp [bytesLess_irrefl]

def sameT (a b : S23) : Bool := a.f0 == b.f0 && (a.f1.toList == b.f1.toList && a.f2 == b.f2)
theorem has_ev (l : List S23) (t : S23) (hl : l.length ≤ 140737488351232) (d : Nat) : ∀ j : Nat, j + d = l.length →
    ∃ r : Int, Ev (fun k => api_Tag_39.l0 k l (l.length : Int) (j : Int) t.f0 t.f1 t.f2) r ∧ decide (r ≥ 0) = (l.drop j).any (sameT t) := by
  induction d with
  | zero =>
    intro j hj
    refine ⟨-1, Ev.step (f := fun _ => some (-1)) (fun k => ?_) (Ev.now _), ?_⟩
    · simp only [api_Tag_39.l0]
      rw [if_neg (by omega)]
    · rw [List.drop_eq_nil_of_le (by omega)]; rfl
  | succ d ih =>
    intro j hj
    have hlt : j < l.length := by omega
    obtain ⟨r, hr, hr2⟩ := ih (j + 1) (by omega)
    have hd : l.drop j = l[j] :: l.drop (j + 1) := List.drop_eq_getElem_cons hlt
    have hg : rd_T23 l (j : Int) = l[j] := by simp [rd_T23, hlt]
    have hw : wrap64 ((j : Int) + 1) = ((j + 1 : Nat) : Int) := by unfold wrap64; omega
    rw [hd, List.any_cons]
    by_cases h : sameT t l[j] = true
    · refine ⟨(j : Int), Ev.step (f := fun _ => some (j : Int)) (fun k => ?_) (Ev.now _), ?_⟩
      · simp only [api_Tag_39.l0]
        rw [if_pos (by omega), if_pos (by omega), if_pos (by omega), hg, if_pos (by exact h)]
      · simp [h]
    · refine ⟨r, Ev.step (fun k => ?_) hr, ?_⟩
      · simp only [api_Tag_39.l0]
        rw [if_pos (by omega), if_pos (by omega), if_pos (by omega), hg, if_neg (by exact h), hw]
      · rw [hr2]; simp [h]
theorem Has_ev (l : List S23) (t : S23) (hl : l.length ≤ 140737488351232) : Ev (fun k => tag_Has.f k l t.f0 t.f1 t.f2) (l.any (sameT t)) := by
  obtain ⟨r, hr, hr2⟩ := has_ev l t hl l.length 0 (by omega)
  rw [List.drop_zero] at hr2
  rw [← hr2]
  unfold tag_Has.f api_Tag_31.f api_Tag_39.f
  exact Ev.bind (Ev.bind hr (Ev.now _)) (Ev.now _)
theorem sameT_self (t : S23) : sameT t t = true := by simp [sameT]
end Go.Proofs.YtpmpmgoddgcnjaaDoor.TagSpec
