/- gristmillref5.validExpr: it ends, and what it finds right is of a right shape. No other condition than that the texts are of a size that memory has room for. -/
import Derived.Test.YtmoeekidmkhkoaaDoorFreeL
import Derived.Test.YtmoeekidmkhkoaaDoorFreeK
import Derived.Test.YtmoeekidmkhkoaaDoorFreeI
import Derived.Test.YtmoeekidmkhkoaaDoorFreeJ
namespace Go.Proofs.YtmoeekidmkhkoaaDoor.FreeA
open Go.RowKit Go.Proofs.YtmoeekidmkhkoaaDoorW.PrintWords Go.Proofs.YtmoeekidmkhkoaaDoorW.PrintLast Go.Proofs.YtmoeekidmkhkoaaDoorW.PrintMore Go.Proofs.YtmoeekidmkhkoaaDoor.PFreeA
set_option linter.unusedVariables false
set_option linter.unusedSimpArgs false
def Loc (op : Int) (ns : List ByteArray) (l : List S33) : Prop := (op = 6 → l.length = 1) ∧ (op = 7 → l.length = ns.length + 1) ∧ (op = 8 → l.length = 1)
mutual
def Shp : S33 → Prop
  | ⟨op, _, _, ns, l, al⟩ => Loc op ns l ∧ ShpL l ∧ ShpA al
def ShpL : List S33 → Prop
  | [] => True
  | e :: l => Shp e ∧ ShpL l
def ShpA : List S40 → Prop
  | [] => True
  | ⟨_, _, _, _, e⟩ :: l => Shp e ∧ ShpA l
end
theorem shpL_iff : ∀ l : List S33, ShpL l ↔ ∀ x ∈ l, Shp x
  | [] => by simp [ShpL]
  | e :: l => by simp [ShpL, shpL_iff l]
theorem shpA_iff : ∀ l : List S40, ShpA l ↔ ∀ a ∈ l, Shp a.f4
  | [] => by simp [ShpA]
  | ⟨_, _, _, _, e⟩ :: l => by simp [ShpA, shpA_iff l]
theorem shp_iff (e : S33) : Shp e ↔ Loc e.f0 e.f3 e.f4 ∧ (∀ x ∈ e.f4, Shp x) ∧ ∀ a ∈ e.f5, Shp a.f4 := by
  obtain ⟨f0, f1, f2, f3, f4, f5⟩ := e
  simp only [Shp, shpL_iff, shpA_iff]
def B47 : Nat := 140737488351232
def Ok1 (nm : ByteArray) (n : Int) (ns : List ByteArray) : Prop := nm.size ≤ B47 ∧ -9223372036854775808 ≤ n ∧ n ≤ 9223372036854775807 ∧ small ns B47
mutual
def WF : S33 → Prop
  | ⟨op, nm, n, ns, l, al⟩ => (Ok1 nm n ns ∧ ns.length ≤ 100000000000 ∧ l.length ≤ 100000000000 ∧ al.length ≤ 100000000000) ∧ WFL l ∧ WFA al
def WFL : List S33 → Prop
  | [] => True
  | e :: l => WF e ∧ WFL l
def WFA : List S40 → Prop
  | [] => True
  | ⟨_, nm, n, ns, e⟩ :: l => (Ok1 nm n ns ∧ ns.length ≤ 100000000000 ∧ WF e) ∧ WFA l
end
theorem wfL_iff : ∀ l : List S33, WFL l ↔ ∀ x ∈ l, WF x
  | [] => by simp [WFL]
  | e :: l => by simp [WFL, wfL_iff l]
theorem wfA_iff : ∀ l : List S40, WFA l ↔ ∀ a ∈ l, Ok1 a.f1 a.f2 a.f3 ∧ a.f3.length ≤ 100000000000 ∧ WF a.f4
  | [] => by simp [WFA]
  | ⟨_, _, _, _, e⟩ :: l => by simp [WFA, wfA_iff l]
theorem wf_iff (e : S33) : WF e ↔ (Ok1 e.f1 e.f2 e.f3 ∧ e.f3.length ≤ 100000000000 ∧ e.f4.length ≤ 100000000000 ∧ e.f5.length ≤ 100000000000) ∧ (∀ x ∈ e.f4, WF x) ∧ ∀ a ∈ e.f5, Ok1 a.f1 a.f2 a.f3 ∧ a.f3.length ≤ 100000000000 ∧ WF a.f4 := by
  obtain ⟨f0, f1, f2, f3, f4, f5⟩ := e
  simp only [WF, wfL_iff, wfA_iff]
theorem cost_mem {e x : S33} (h : x ∈ e.f4) : cost x < cost e := by
  obtain ⟨i, hi, rfl⟩ := List.getElem_of_mem h
  have h1 := costL_le hi
  have h2 := cost_eq e
  omega
theorem cost_memA {e : S33} {a : S40} (h : a ∈ e.f5) : cost a.f4 < cost e := by
  obtain ⟨i, hi, rfl⟩ := List.getElem_of_mem h
  have h1 := costA_le hi
  have h2 := cost_eq e
  omega
theorem exprNode_all : ∀ (m : Nat) (e : S33), cost e ≤ m → WF e → Shp e → XN e
  | 0, e, hc, _, _ => by have := cost_eq e; omega
  | m + 1, e, hc, hw, hs => by
    obtain ⟨⟨⟨w1, w2, w3, w4⟩, n3, n4, n5⟩, wl, wa⟩ := (wf_iff e).1 hw
    obtain ⟨⟨l6, l7, l8⟩, sl, sa⟩ := (shp_iff e).1 hs
    have ih : ∀ x ∈ e.f4, XN x := fun x hx => exprNode_all m x (by have := cost_mem hx; omega) (wl x hx) (sl x hx)
    have iha : ∀ a ∈ e.f5, XN a.f4 := fun a ha => exprNode_all m a.f4 (by have := cost_memA ha; omega) (wa a ha).2.2 (sa a ha)
    intro w hg A3 A4 A5 c3 c4 c5 h3 h4 h5
    by_cases o1 : e.f0 = 1
    · rw [o1]; exact exprNode_var e.f1 e.f2 w hg
    by_cases o2 : e.f0 = 2
    · rw [o2]; exact exprNode_int e.f1 e.f2 w hg w2 w3
    by_cases o3 : e.f0 = 3
    · rw [o3]; exact exprNode_flo e.f1 e.f2 w hg
    by_cases o4 : e.f0 = 4
    · rw [o4]; exact exprNode_con e.f1 e.f2 w hg
    by_cases o6 : e.f0 = 6
    · have hl := l6 o6
      have hi : e.f4[0]? = some (e.f4[0]'(by omega)) := List.getElem?_eq_getElem (by omega)
      rw [o6]; exact exprNode_fn e.f1 e.f2 w hg e.f3 rfl n3 h3 e.f4 _ (ih _ (List.getElem_mem _)) hi h4
    by_cases o7 : e.f0 = 7
    · rw [o7]; exact exprNode_let e.f1 e.f2 w hg e.f3 rfl n3 h3 e.f4 ih (l7 o7) h4
    by_cases o8 : e.f0 = 8
    · have hl := l8 o8
      have hi : e.f4[0]? = some (e.f4[0]'(by omega)) := List.getElem?_eq_getElem (by omega)
      rw [o8]; exact exprNode_case e.f1 e.f2 w hg e.f4 _ (ih _ (List.getElem_mem _)) hi h4 e.f5 n5 (fun a ha => ⟨iha a ha, (wa a ha).1.2.1, (wa a ha).1.2.2.1, (wa a ha).2.1⟩) h5
    by_cases o10 : e.f0 = 10
    · rw [o10]; exact exprNode_fail e.f1 e.f2 w hg w2 w3
    exact exprNode_rest e.f0 e.f1 e.f2 w hg (fun k hk => by rcases hk with rfl | rfl | rfl | rfl | rfl | rfl | rfl | rfl <;> assumption) e.f4 ih n4 h4
end Go.Proofs.YtmoeekidmkhkoaaDoor.FreeA

