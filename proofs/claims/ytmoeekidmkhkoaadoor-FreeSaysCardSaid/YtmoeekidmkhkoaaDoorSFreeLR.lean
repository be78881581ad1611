/- Texts of the walks put together: FreeL, FreeM, FreeMA, FreeN, FreeO, FreeP, FreeQ, FreeR. Conditions: as each states. -/
import Derived.Test.YtmoeekidmkhkoaaDoorSPFreeAx3
import Derived.Test.YtmoeekidmkhkoaaDoorSPFreeAx5
import Derived.Test.YtmoeekidmkhkoaaDoorSFreeAD
import Derived.Test.YtmoeekidmkhkoaaDoorSFreeEK
import Derived.Test.YtmoeekidmkhkoaaDoorSPFreeAx7
import Derived.Test.YtmoeekidmkhkoaaDoorSPFreeAx2
import Derived.Test.YtmoeekidmkhkoaaDoorSExt
namespace Go.Proofs.YtmoeekidmkhkoaaDoor.FreeA
open Go.RowKit Go.Proofs.YtmoeekidmkhkoaaDoorW.PrintWords Go.Proofs.YtmoeekidmkhkoaaDoorW.PrintLast Go.Proofs.YtmoeekidmkhkoaaDoorW.PrintMore Go.Proofs.YtmoeekidmkhkoaaDoor.PFreeA
set_option linter.unusedVariables false
set_option linter.unusedSimpArgs false
theorem wr1 (i : Nat) (h : i ≤ 1000000000000000) : wrap64 ((i : Int) + 1) = ((i + 1 : Nat) : Int) := by unfold wrap64; omega
theorem tail_tot (s : ByteArray) (hs : s.size ≤ 140737488355328) : ∀ (k i : Nat), 0 < k → s.size < k + i → ∃ r, gristmillref1_tail.l0 k s (i : Int) = some r
 | 0, i, h0, h => by omega
 | k + 1, i, h0, h => by
  unfold gristmillref1_tail.l0
  by_cases hi : (i : Int) < (s.size : Int)
  ·obtain ⟨r, hr⟩ := tail_tot s hs k (i + 1) (by omega) (by omega)
   rw [wr1 i (by omega), if_pos hi, if_pos (by omega), hr]
   repeat' split
   all_goals exact ⟨_, rfl⟩
  ·rw [if_neg hi]
   exact ⟨_, rfl⟩
theorem tailf_tot (s : ByteArray) (hs : s.size ≤ 140737488355328) (k : Nat) (hk : s.size < k) : ∃ r, gristmillref1_tail.f k s = some r := tail_tot s hs k 1 (by omega) (by omega)
theorem place_tot (l : List ByteArray) (s : ByteArray) (hl : l.length ≤ 1000000000000) : ∀ (k i : Nat), 0 < k → l.length < k + i → ∃ r, gristmillref_Place.l0 k l s (i : Int) = some r
 | 0, i, h0, h => by omega
 | k + 1, i, h0, h => by
  unfold gristmillref_Place.l0
  by_cases hi : (i : Int) < (l.length : Int)
  ·obtain ⟨r, hr⟩ := place_tot l s hl k (i + 1) (by omega) (by omega)
   rw [wr1 i (by omega), if_pos hi, if_pos (by omega), hr]
   split
   all_goals exact ⟨_, rfl⟩
  ·rw [if_neg hi]
   exact ⟨_, rfl⟩
theorem has_tot (l : List ByteArray) (s : ByteArray) (hl : l.length ≤ 1000000000000) (k : Nat) (hk : l.length < k) : ∃ r, gristmillref_Has.f k l s = some r := by
 obtain ⟨r, hr⟩ := place_tot l s hl k 0 (by omega) (by omega)
 unfold gristmillref_Has.f gristmillref_Place.f
 rw [show (0 : Int) = ((0 : Nat) : Int) from rfl, hr]
 exact ⟨_, rfl⟩
theorem bind_ex {α β : Type} {o : Option α} {f : α → Option β} (h : ∃ q, o = some q) (hf : ∀ q, ∃ r, f q = some r) : ∃ r, o.bind f = some r := by
 obtain ⟨q, rfl⟩ := h
 exact hf q
theorem ite_ex {α : Type} {c : Prop} [Decidable c] {x y : Option α} (h1 : ∃ r, x = some r) (h2 : ∃ r, y = some r) : ∃ r, (if c then x else y) = some r := by
 split
 ·exact h1
 ·exact h2
theorem has_small (s : ByteArray) (k : Nat) (hk : 100 < k) (l : List ByteArray) (hl : l.length ≤ 100) : ∃ r, gristmillref_Has.f k l s = some r := has_tot l s (by omega) k (by omega)
theorem size_pos (s : ByteArray) (h0 : ¬ s.toList = ([] : List UInt8)) : 0 < (s.size : Int) := by
 have h1 : s.size ≠ 0 := fun e => h0 (by
  have h2 : s.data.toList = [] := List.eq_nil_of_length_eq_zero (by rw [Array.length_toList]; exact e)
  rw [ByteArray.toList_eq] <;> first | exact h2 | skip)
 omega
theorem name_tot (s : ByteArray) (hs : s.size ≤ 140737488355328) (k : Nat) (hk : s.size + 100 < k) : ∃ r, gristmillref1_Name.f k s = some r := by
 obtain ⟨r, hr⟩ := tailf_tot s hs k (by omega)
 unfold gristmillref1_Name.f
 by_cases h0 : s.toList = ([] : List UInt8)
 ·rw [if_pos h0]; exact ⟨_, rfl⟩
 ·have hp := size_pos s h0
  rw [if_neg h0, if_pos hp, hr]
  split
  ·split
   ·simp only [Option.bind_some]
    split
    ·exact bind_ex (has_small s k (by omega) _ (by decide)) (fun q => ⟨_, rfl⟩)
    ·exact ⟨_, rfl⟩
   ·exact ⟨_, rfl⟩
  ·exact ⟨_, rfl⟩
theorem upper_tot (s : ByteArray) (hs : s.size ≤ 140737488355328) (k : Nat) (hk : s.size + 100 < k) : ∃ r, gristmillref1_Upper.f k s = some r := by
 obtain ⟨r, hr⟩ := tailf_tot s hs k (by omega)
 unfold gristmillref1_Upper.f
 by_cases h0 : s.toList = ([] : List UInt8)
 ·rw [if_pos h0]; exact ⟨_, rfl⟩
 ·rw [if_neg h0, if_pos (size_pos s h0), hr]
  repeat' split
  all_goals exact ⟨_, rfl⟩
def small (l : List ByteArray) (m : Nat) : Prop := ∀ s ∈ l, s.size ≤ m
theorem names_tot (l : List ByteArray) (hl : l.length ≤ 1000000000000) (m : Nat) (hm : m ≤ 140737488355328) (hs : small l m) : ∀ (k i : Nat), 0 < k → l.length + m + 200 < k + i → ∃ r, gristmillref5_names.l0 k l (i : Int) = some r
 | 0, i, h0, h => by omega
 | k + 1, i, h0, h => by
  unfold gristmillref5_names.l0
  by_cases hi : (i : Int) < (l.length : Int)
  ·obtain ⟨r, hr⟩ := names_tot l hl m hm hs k (i + 1) (by omega) (by omega)
   rw [wr1 i (by omega), if_pos hi, if_pos (by omega), hr]
   refine bind_ex (name_tot _ ?_ k ?_) (fun q => ?_)
   ·have := hs (rdOf ByteArray.empty l (i : Int)) (by unfold rdOf; rw [Int.toNat_natCast, List.getD_eq_getElem?_getD, List.getElem?_eq_getElem (by omega)]; exact List.getElem_mem _)
    omega
   ·have := hs (rdOf ByteArray.empty l (i : Int)) (by unfold rdOf; rw [Int.toNat_natCast, List.getD_eq_getElem?_getD, List.getElem?_eq_getElem (by omega)]; exact List.getElem_mem _)
    omega
   ·split
    all_goals exact ⟨_, rfl⟩
  ·rw [if_neg hi]
   split
   all_goals exact ⟨_, rfl⟩
theorem namesf_tot (l : List ByteArray) (hl : l.length ≤ 1000000000000) (m : Nat) (hm : m ≤ 140737488355328) (hs : small l m) (k : Nat) (hk : l.length + m + 200 < k) : ∃ r, gristmillref5_names.f k l = some r := names_tot l hl m hm hs k 0 (by omega) (by omega)
theorem arity_tot (s : ByteArray) (k : Nat) (hk : 200 < k) : ∃ r, gristmillref1_Arity.f k s = some r := by
 obtain ⟨k, rfl⟩ : ∃ j, k = j + 1 := ⟨k - 1, by omega⟩
 have h : ∀ b, ∃ r, gristmillref1_Arity.j0 (k + 1) s b = some r := by
  intro b
  rw [gristmillref1_Arity.j0]
  split
  ·exact ⟨_, rfl⟩
  ·unfold gristmillref1_Prims.f
   rw [Option.bind_some]
   refine bind_ex (has_small s k (by omega) _ (by decide)) (fun q => ?_)
   split
   all_goals exact ⟨_, rfl⟩
 unfold gristmillref1_Arity.f
 split
 all_goals exact h _
theorem takes_tot (a : S40) : ∃ r, gristmillref5_takes.f a.f0 a.f1 a.f2 a.f3 a.f4.f0 a.f4.f1 a.f4.f2 a.f4.f3 a.f4.f4 a.f4.f5 = some r := by
 unfold gristmillref5_takes.f
 repeat' split
 all_goals exact ⟨_, rfl⟩
theorem canon_tot (a : Int) : ∃ r, gristmillref1_Canon.f a = some r := by
 unfold gristmillref1_Canon.f
 repeat' split
 all_goals exact ⟨_, rfl⟩
def Loc (op n : Int) (ns : List ByteArray) (l : List S33) (al : List S40) : Prop := (op = 6 → l.length = 1) ∧ (op = 7 → l.length = ns.length + 1) ∧ (op = 8 → l.length = 1) ∧ (op = 1 → n = 0 ∧ ns = [] ∧ l = [] ∧ al = []) ∧ (ns = [] ∨ al = [])
mutual
def Shp : S33 → Prop
 | ⟨op, _, n, ns, l, al⟩ => Loc op n ns l al ∧ ShpL l ∧ ShpA al
def ShpL : List S33 → Prop
 | [] => True
 | e :: l => Shp e ∧ ShpL l
def ShpA : List S40 → Prop
 | [] => True
 | ⟨_, _, _, _, e⟩ :: l => Shp e ∧ ShpA l
end
theorem shpL_iff : ∀ l : List S33, ShpL l ↔ ∀ x ∈ l, Shp x
 | [] => by simp [ShpL]
 | e :: l => by simp [ShpL, shpL_iff l]
theorem shpA_iff : ∀ l : List S40, ShpA l ↔ ∀ a ∈ l, Shp a.f4
 | [] => by simp [ShpA]
 | ⟨_, _, _, _, e⟩ :: l => by simp [ShpA, shpA_iff l]
theorem shp_iff (e : S33) : Shp e ↔ Loc e.f0 e.f2 e.f3 e.f4 e.f5 ∧ (∀ x ∈ e.f4, Shp x) ∧ ∀ a ∈ e.f5, Shp a.f4 := by
 obtain ⟨f0, f1, f2, f3, f4, f5⟩ := e
 simp only [Shp, shpL_iff, shpA_iff]
def B47 : Nat := 140737488351232
def Ok1 (nm : ByteArray) (n : Int) (ns : List ByteArray) : Prop := nm.size ≤ B47 ∧ -9223372036854775808 ≤ n ∧ n ≤ 9223372036854775807 ∧ small ns B47
mutual
def WF : S33 → Prop
 | ⟨op, nm, n, ns, l, al⟩ => (Ok1 nm n ns ∧ ns.length ≤ 100000000000 ∧ l.length ≤ 100000000000 ∧ al.length ≤ 100000000000) ∧ WFL l ∧ WFA al
def WFL : List S33 → Prop
 | [] => True
 | e :: l => WF e ∧ WFL l
def WFA : List S40 → Prop
 | [] => True
 | ⟨_, nm, n, ns, e⟩ :: l => (Ok1 nm n ns ∧ ns.length ≤ 100000000000 ∧ WF e) ∧ WFA l
end
theorem wfL_iff : ∀ l : List S33, WFL l ↔ ∀ x ∈ l, WF x
 | [] => by simp [WFL]
 | e :: l => by simp [WFL, wfL_iff l]
theorem wfA_iff : ∀ l : List S40, WFA l ↔ ∀ a ∈ l, Ok1 a.f1 a.f2 a.f3 ∧ a.f3.length ≤ 100000000000 ∧ WF a.f4
 | [] => by simp [WFA]
 | ⟨_, _, _, _, e⟩ :: l => by simp [WFA, wfA_iff l]
theorem wf_iff (e : S33) : WF e ↔ (Ok1 e.f1 e.f2 e.f3 ∧ e.f3.length ≤ 100000000000 ∧ e.f4.length ≤ 100000000000 ∧ e.f5.length ≤ 100000000000) ∧ (∀ x ∈ e.f4, WF x) ∧ ∀ a ∈ e.f5, Ok1 a.f1 a.f2 a.f3 ∧ a.f3.length ≤ 100000000000 ∧ WF a.f4 := by
 obtain ⟨f0, f1, f2, f3, f4, f5⟩ := e
 simp only [WF, wfL_iff, wfA_iff]
theorem cost_mem {e x : S33} (h : x ∈ e.f4) : cost x < cost e := by
 obtain ⟨i, hi, rfl⟩ := List.getElem_of_mem h
 have h1 := costL_le hi
 have h2 := cost_eq e
 omega
theorem cost_memA {e : S33} {a : S40} (h : a ∈ e.f5) : cost a.f4 < cost e := by
 obtain ⟨i, hi, rfl⟩ := List.getElem_of_mem h
 have h1 := costA_le hi
 have h2 := cost_eq e
 omega
theorem exprNode_all : ∀ (m : Nat) (e : S33), cost e ≤ m → WF e → Shp e → XN e
 | 0, e, hc, _, _ => by have := cost_eq e; omega
 | m + 1, e, hc, hw, hs => by
  obtain ⟨⟨⟨w1, w2, w3, w4⟩, n3, n4, n5⟩, wl, wa⟩ := (wf_iff e).1 hw
  obtain ⟨⟨l6, l7, l8, _⟩, sl, sa⟩ := (shp_iff e).1 hs
  have ih : ∀ x ∈ e.f4, XN x := fun x hx => exprNode_all m x (by have := cost_mem hx; omega) (wl x hx) (sl x hx)
  have iha : ∀ a ∈ e.f5, XN a.f4 := fun a ha => exprNode_all m a.f4 (by have := cost_memA ha; omega) (wa a ha).2.2 (sa a ha)
  intro w hg A3 A4 A5 c3 c4 c5 h3 h4 h5
  by_cases o1 : e.f0 = 1
  ·rw [o1]; exact exprNode_var e.f1 e.f2 w hg
  by_cases o2 : e.f0 = 2
  ·rw [o2]; exact exprNode_int e.f1 e.f2 w hg w2 w3
  by_cases o3 : e.f0 = 3
  ·rw [o3]; exact exprNode_flo e.f1 e.f2 w hg
  by_cases o4 : e.f0 = 4
  ·rw [o4]; exact exprNode_con e.f1 e.f2 w hg
  by_cases o6 : e.f0 = 6
  ·have hl := l6 o6
   have hi : e.f4[0]? = some (e.f4[0]'(by omega)) := List.getElem?_eq_getElem (by omega)
   rw [o6]; exact exprNode_fn e.f1 e.f2 w hg e.f3 rfl n3 h3 e.f4 _ (ih _ (List.getElem_mem _)) hi h4
  by_cases o7 : e.f0 = 7
  ·rw [o7]; exact exprNode_let e.f1 e.f2 w hg e.f3 rfl n3 h3 e.f4 ih (l7 o7) h4
  by_cases o8 : e.f0 = 8
  ·have hl := l8 o8
   have hi : e.f4[0]? = some (e.f4[0]'(by omega)) := List.getElem?_eq_getElem (by omega)
   rw [o8]; exact exprNode_case e.f1 e.f2 w hg e.f4 _ (ih _ (List.getElem_mem _)) hi h4 e.f5 n5 (fun a ha => ⟨iha a ha, (wa a ha).1.2.1, (wa a ha).1.2.2.1, (wa a ha).2.1⟩) h5
  by_cases o10 : e.f0 = 10
  ·rw [o10]; exact exprNode_fail e.f1 e.f2 w hg w2 w3
  exact exprNode_rest e.f0 e.f1 e.f2 w hg (fun k hk => by rcases hk with rfl | rfl | rfl | rfl | rfl | rfl | rfl | rfl <;> assumption) e.f4 ih n4 h4
theorem beqf {α : Type} [BEq α] [LawfulBEq α] {x y : α} (h : ¬ x = y) : (x == y) = false ∧ (x != y) = true := ⟨beq_eq_false_iff_ne.2 h, bne_iff_ne.2 h⟩
theorem beqt {α : Type} [BEq α] [LawfulBEq α] {x y : α} (h : x = y) : (x == y) = true ∧ (x != y) = false := ⟨beq_iff_eq.2 h, bne_eq_false_iff_eq.2 h⟩
theorem elem40d {W : World} {A : Option Addr} {n : Nat} {l : List S40} (hC : k40.C W A n l) (i : Nat) {x : S40} (hx : l[i]? = some x) : ∃ ad B3 d3 B7 d7 B8 d8 B9 d9, A = some ad ∧ AC W (ad.add (i * 10)) x B3 B7 B8 B9 d3 d7 d8 d9 ∧ Kd.string.C W B3 x.f3.length x.f3 ∧ Kd.string.C W B7 x.f4.f3.length x.f4.f3 ∧ k33.C W B8 x.f4.f4.length x.f4.f4 ∧ k40.C W B9 x.f4.f5.length x.f4.f5 ∧ x.f3.length ≤ d3 ∧ x.f4.f3.length ≤ d7 ∧ x.f4.f4.length ≤ d8 ∧ x.f4.f5.length ≤ d9 := by
 have hi := (List.getElem?_eq_some_iff.1 hx).1
 obtain ⟨ad, B3, d3, B7, d7, B8, d8, B9, d9, e, c0, c1, c2, c3, c4, c5, c6, c7, c8, c9, l3, g3, l7, g7, l8, g8, l9, g9⟩ := at_T40 hC (i : Int) (by omega) (by have := hC.1; omega)
 have hr : rd_T40 l (i : Int) = x := by
  unfold rd_T40
  rw [Int.toNat_natCast, List.getD_eq_getElem?_getD, hx]
  rfl
 rw [hr] at c0 c1 c2 c3 c4 c5 c6 c7 c8 c9 l3 g3 l7 g7 l8 g8 l9 g9
 rw [Int.toNat_natCast] at c0 c1 c2 c3 c4 c5 c6 c7 c8 c9
 exact ⟨ad, B3, d3, B7, d7, B8, d8, B9, d9, e, ⟨c0, c1, c2, c3, c4, c5, c6, c7, c8, c9⟩, g3, g7, g8, g9, l3, l7, l8, l9⟩
set_option maxHeartbeats 16000000 in
set_option maxRecDepth 100000 in
theorem form_c (e : S33) (hl3 : e.f3.length ≤ 1000000000000) (hl4 : e.f4.length ≤ 1000000000000) (hl5 : e.f5.length ≤ 1000000000000) (w : World) {A3 A4 A5 : Option Addr} {c3 c4 c5 : Nat} (h3 : Kd.C Kd.string w A3 e.f3.length e.f3) (h4 : Kd.C k33 w A4 e.f4.length e.f4) (h5 : Kd.C k40 w A5 e.f5.length e.f5) :
  Calls Tryd.prog 46 #[.agg #[.int .i64 e.f0, .string e.f1, .int .i64 e.f2, .slice A3 e.f3.length c3, .slice A4 e.f4.length c4, .slice A5 e.f5.length c5]] w fun r w' => ∃ b : Bool, r = .returned (.bool b) ∧ (b = true → Loc e.f0 e.f2 e.f3 e.f4 e.f5) ∧ Below w.heap.size w w' := by
 obtain ⟨W0, hW0⟩ : ∃ W0, w.alloc (.cells #[.int .i64 e.f0, .string e.f1, .int .i64 e.f2, .slice A3 e.f3.length c3, .slice A4 e.f4.length c4, .slice A5 e.f5.length c5] 33) = W0 := ⟨_, rfl⟩
 have hB0 : Aside0 (Below w.heap.size w W0) := ⟨by rw [← hW0]; exact below_alloc (Below.refl _ _) _⟩
 have hbx : Aside0 (W0.heap[w.heap.size]? = some (.cells #[.int .i64 e.f0, .string e.f1, .int .i64 e.f2, .slice A3 e.f3.length c3, .slice A4 e.f4.length c4, .slice A5 e.f5.length c5] 33 (0, 0))) := ⟨by rw [← hW0]; exact blk_new w _⟩
 obtain ⟨ar, har⟩ := arity_tot e.f1 201 (by decide)
 obtain ⟨cr, hcr⟩ := canon_tot (IntKind.u64.wrap e.f2)
 have CA : ∀ W : World, _ := fun W => gristmillref1_Arity.calls 201 e.f1 ar W har
 have CK : ∀ W : World, _ := fun W => gristmillref1_Canon.calls (IntKind.u64.wrap e.f2) cr W hcr
 have CA := Aside0.mk @CA
 have CK := Aside0.mk @CK
 obtain ⟨f0, f1, f2, l3, l4, l5⟩ := e
 dsimp only at *
 have h5 := Aside0.mk (Kd.C_below h5 hB0.out)
 have hl := Aside0.mk (And.intro hl3 (And.intro hl4 hl5))
 have hw3 : Aside0 (wrap64 ((wrap64 ((l3.length : Int) + (l4.length : Int))) + (l5.length : Int)) = (l3.length : Int) + (l4.length : Int) + (l5.length : Int)) := ⟨by unfold wrap64; omega⟩
 have hw2 : Aside0 (wrap64 ((l3.length : Int) + (l5.length : Int)) = (l3.length : Int) + (l5.length : Int)) := ⟨by unfold wrap64; omega⟩
 have hw1 : Aside0 (wrap64 ((l3.length : Int) + 1) = (l3.length : Int) + 1) := ⟨by unfold wrap64; omega⟩
 clear hl3 hl4 hl5 har hcr h3 h4
 have k0 := (blk_cell hbx.out 0).trans rfl
 have k1 := (blk_cell hbx.out 1).trans rfl
 have k2 := (blk_cell hbx.out 2).trans rfl
 have k3 := (blk_cell hbx.out 3).trans rfl
 have k4 := (blk_cell hbx.out 4).trans rfl
 have k5 := (blk_cell hbx.out 5).trans rfl
 by_cases o1 : f0 = 1
 ·subst o1
  by_cases q0 : wrap64 ((wrap64 ((l3.length : Int) + (l4.length : Int))) + (l5.length : Int)) = 0
  ·have q0t := beqt q0
   obtain ⟨q0a, q0b⟩ := q0t
   have q0 := Aside0.mk q0
   by_cases q1 : f2 = 0
   ·subst q1
    have hL : Aside0 (∀ x : Int, Loc 1 0 l3 l4 l5) := ⟨by have := hw3.out; have := q0.out; intro x; exact ⟨(fun h => absurd h (by decide)), (fun h => absurd h (by decide)), (fun h => absurd h (by decide)), (fun _ => ⟨rfl, List.eq_nil_of_length_eq_zero (by omega), List.eq_nil_of_length_eq_zero (by omega), List.eq_nil_of_length_eq_zero (by omega)⟩), by have hz : l3.length = 0 ∨ l5.length = 0 := (by omega); exact hz.imp List.eq_nil_of_length_eq_zero List.eq_nil_of_length_eq_zero⟩⟩
    go_enter Tryd.func46, Tryd.ntmps46
    go_wp2
    all_goals go_ret
    all_goals first | exact ⟨_, rfl, (fun _ => hL.out 0), (by first | exact hB0.out | exact below_alloc (Below.refl _ _) _)⟩ | exact ⟨rfl, hL.out 0, (by first | exact hB0.out | exact below_alloc (Below.refl _ _) _)⟩ | exact .inr ⟨rfl, hL.out 0, (by first | exact hB0.out | exact below_alloc (Below.refl _ _) _)⟩ | exact ⟨_, rfl, (fun h => Bool.noConfusion h), (by first | exact hB0.out | exact below_alloc (Below.refl _ _) _)⟩ | exact .inl ⟨rfl, (by first | exact hB0.out | exact below_alloc (Below.refl _ _) _)⟩
   ·obtain ⟨q1a, q1b⟩ := beqf q1
    go_enter Tryd.func46, Tryd.ntmps46
    go_wp2
    all_goals go_ret
    all_goals first | exact ⟨_, rfl, (fun h => Bool.noConfusion h), (by first | exact hB0.out | exact below_alloc (Below.refl _ _) _)⟩ | exact .inl ⟨rfl, (by first | exact hB0.out | exact below_alloc (Below.refl _ _) _)⟩
  ·obtain ⟨q0a, q0b⟩ := beqf q0
   go_enter Tryd.func46, Tryd.ntmps46
   go_wp2
   all_goals go_ret
   all_goals first | exact ⟨_, rfl, (fun h => Bool.noConfusion h), (by first | exact hB0.out | exact below_alloc (Below.refl _ _) _)⟩ | exact .inl ⟨rfl, (by first | exact hB0.out | exact below_alloc (Below.refl _ _) _)⟩
 ·by_cases o4 : f0 = 4
  ·subst o4
   by_cases q0 : wrap64 ((wrap64 ((l3.length : Int) + (l4.length : Int))) + (l5.length : Int)) = 0
   ·have q0t := beqt q0
    obtain ⟨q0a, q0b⟩ := q0t
    have q0 := Aside0.mk q0
    have hL : Aside0 (∀ x : Int, Loc 4 x l3 l4 l5) := ⟨by have := hw3.out; have := q0.out; intro x; exact ⟨(fun h => absurd h (by decide)), (fun h => absurd h (by decide)), (fun h => absurd h (by decide)), (fun h => absurd h (by decide)), by have hz : l3.length = 0 ∨ l5.length = 0 := (by omega); exact hz.imp List.eq_nil_of_length_eq_zero List.eq_nil_of_length_eq_zero⟩⟩
    go_enter Tryd.func46, Tryd.ntmps46
    go_wp2
    all_goals go_ret
    all_goals first | exact ⟨_, rfl, (fun _ => hL.out _), (by first | exact hB0.out | exact below_alloc (Below.refl _ _) _)⟩ | exact ⟨rfl, hL.out _, (by first | exact hB0.out | exact below_alloc (Below.refl _ _) _)⟩ | exact .inr ⟨rfl, hL.out _, (by first | exact hB0.out | exact below_alloc (Below.refl _ _) _)⟩ | exact ⟨_, rfl, (fun h => Bool.noConfusion h), (by first | exact hB0.out | exact below_alloc (Below.refl _ _) _)⟩ | exact .inl ⟨rfl, (by first | exact hB0.out | exact below_alloc (Below.refl _ _) _)⟩
   ·obtain ⟨q0a, q0b⟩ := beqf q0
    go_enter Tryd.func46, Tryd.ntmps46
    go_wp2
    all_goals go_ret
    all_goals first | exact ⟨_, rfl, (fun h => Bool.noConfusion h), (by first | exact hB0.out | exact below_alloc (Below.refl _ _) _)⟩ | exact .inl ⟨rfl, (by first | exact hB0.out | exact below_alloc (Below.refl _ _) _)⟩
  ·by_cases o2 : f0 = 2
   ·subst o2
    by_cases q0 : wrap64 ((wrap64 ((l3.length : Int) + (l4.length : Int))) + (l5.length : Int)) = 0
    ·have q0t := beqt q0
     obtain ⟨q0a, q0b⟩ := q0t
     have q0 := Aside0.mk q0
     have hL : Aside0 (∀ x : Int, Loc 2 x l3 l4 l5) := ⟨by have := hw3.out; have := q0.out; intro x; exact ⟨(fun h => absurd h (by decide)), (fun h => absurd h (by decide)), (fun h => absurd h (by decide)), (fun h => absurd h (by decide)), by have hz : l3.length = 0 ∨ l5.length = 0 := (by omega); exact hz.imp List.eq_nil_of_length_eq_zero List.eq_nil_of_length_eq_zero⟩⟩
     go_enter Tryd.func46, Tryd.ntmps46
     go_wp2
     all_goals go_ret
     all_goals first | exact ⟨_, rfl, (fun _ => hL.out _), (by first | exact hB0.out | exact below_alloc (Below.refl _ _) _)⟩ | exact ⟨rfl, hL.out _, (by first | exact hB0.out | exact below_alloc (Below.refl _ _) _)⟩ | exact .inr ⟨rfl, hL.out _, (by first | exact hB0.out | exact below_alloc (Below.refl _ _) _)⟩ | exact ⟨_, rfl, (fun h => Bool.noConfusion h), (by first | exact hB0.out | exact below_alloc (Below.refl _ _) _)⟩ | exact .inl ⟨rfl, (by first | exact hB0.out | exact below_alloc (Below.refl _ _) _)⟩
    ·obtain ⟨q0a, q0b⟩ := beqf q0
     go_enter Tryd.func46, Tryd.ntmps46
     go_wp2
     all_goals go_ret
     all_goals first | exact ⟨_, rfl, (fun h => Bool.noConfusion h), (by first | exact hB0.out | exact below_alloc (Below.refl _ _) _)⟩ | exact .inl ⟨rfl, (by first | exact hB0.out | exact below_alloc (Below.refl _ _) _)⟩
   ·by_cases o3 : f0 = 3
    ·subst o3
     by_cases q0 : wrap64 ((wrap64 ((l3.length : Int) + (l4.length : Int))) + (l5.length : Int)) = 0
     ·have q0t := beqt q0
      obtain ⟨q0a, q0b⟩ := q0t
      have q0 := Aside0.mk q0
      have hL : Aside0 (∀ x : Int, Loc 3 x l3 l4 l5) := ⟨by have := hw3.out; have := q0.out; intro x; exact ⟨(fun h => absurd h (by decide)), (fun h => absurd h (by decide)), (fun h => absurd h (by decide)), (fun h => absurd h (by decide)), by have hz : l3.length = 0 ∨ l5.length = 0 := (by omega); exact hz.imp List.eq_nil_of_length_eq_zero List.eq_nil_of_length_eq_zero⟩⟩
      have fz0 := blk_frozen hbx.out 0
      have fz1 := blk_frozen hbx.out 1
      have fz2 := blk_frozen hbx.out 2
      have fz3 := blk_frozen hbx.out 3
      have fz4 := blk_frozen hbx.out 4
      have fz5 := blk_frozen hbx.out 5
      by_cases n0 : f1.toList = ([] : List UInt8)
      ·obtain ⟨n0a, n0b⟩ := beqt n0
       go_enter Tryd.func46, Tryd.ntmps46
       go_wp2_with (first | (go_at_call 61; (with_reducible refine (CK.out _).mono ?_); rintro e w' ⟨rfl, ⟨nd, rfl⟩⟩; (try first | exact ⟨rfl, _, World.drewN_drewN _ _ _⟩ | exact ⟨rfl, _, Eq.trans (World.drewN_drewN _ _ _) (congrArg (World.drewN _) (Nat.add_assoc _ _ _))⟩)))
       repeat (go_quiet (first | (go_at_call 61; (with_reducible refine (CK.out _).mono ?_); rintro e w' ⟨rfl, ⟨nd, rfl⟩⟩; (try first | exact ⟨rfl, _, World.drewN_drewN _ _ _⟩ | exact ⟨rfl, _, Eq.trans (World.drewN_drewN _ _ _) (congrArg (World.drewN _) (Nat.add_assoc _ _ _))⟩))); try go_wp2_with (first | (go_at_call 61; (with_reducible refine (CK.out _).mono ?_); rintro e w' ⟨rfl, ⟨nd, rfl⟩⟩; (try first | exact ⟨rfl, _, World.drewN_drewN _ _ _⟩ | exact ⟨rfl, _, Eq.trans (World.drewN_drewN _ _ _) (congrArg (World.drewN _) (Nat.add_assoc _ _ _))⟩))))
       all_goals go_ret
       all_goals first | exact ⟨_, rfl, (fun _ => hL.out _), (by repeat (first | exact HB2.out | exact HB1.out | exact hB0.out | apply pw_below_drewN | apply below_drew1 | apply below_alloc | exact Below.refl _ _))⟩ | exact ⟨rfl, hL.out _, (by repeat (first | exact HB2.out | exact HB1.out | exact hB0.out | apply pw_below_drewN | apply below_drew1 | apply below_alloc | exact Below.refl _ _))⟩ | exact .inr ⟨rfl, hL.out _, (by repeat (first | exact HB2.out | exact HB1.out | exact hB0.out | apply pw_below_drewN | apply below_drew1 | apply below_alloc | exact Below.refl _ _))⟩ | exact ⟨_, rfl, (fun h => Bool.noConfusion h), (by repeat (first | exact HB2.out | exact HB1.out | exact hB0.out | apply pw_below_drewN | apply below_drew1 | apply below_alloc | exact Below.refl _ _))⟩ | exact .inl ⟨rfl, (by repeat (first | exact HB2.out | exact HB1.out | exact hB0.out | apply pw_below_drewN | apply below_drew1 | apply below_alloc | exact Below.refl _ _))⟩
      ·obtain ⟨n0a, n0b⟩ := beqf n0
       go_enter Tryd.func46, Tryd.ntmps46
       go_wp2
       repeat (go_quiet (fail); try go_wp2)
       all_goals go_ret
       all_goals first | exact ⟨_, rfl, (fun _ => hL.out _), (by repeat (first | exact HB2.out | exact HB1.out | exact hB0.out | apply pw_below_drewN | apply below_drew1 | apply below_alloc | exact Below.refl _ _))⟩ | exact ⟨rfl, hL.out _, (by repeat (first | exact HB2.out | exact HB1.out | exact hB0.out | apply pw_below_drewN | apply below_drew1 | apply below_alloc | exact Below.refl _ _))⟩ | exact .inr ⟨rfl, hL.out _, (by repeat (first | exact HB2.out | exact HB1.out | exact hB0.out | apply pw_below_drewN | apply below_drew1 | apply below_alloc | exact Below.refl _ _))⟩ | exact ⟨_, rfl, (fun h => Bool.noConfusion h), (by repeat (first | exact HB2.out | exact HB1.out | exact hB0.out | apply pw_below_drewN | apply below_drew1 | apply below_alloc | exact Below.refl _ _))⟩ | exact .inl ⟨rfl, (by repeat (first | exact HB2.out | exact HB1.out | exact hB0.out | apply pw_below_drewN | apply below_drew1 | apply below_alloc | exact Below.refl _ _))⟩
     ·obtain ⟨q0a, q0b⟩ := beqf q0
      go_enter Tryd.func46, Tryd.ntmps46
      go_wp2
      repeat (go_quiet (fail); try go_wp2)
      all_goals go_ret
      all_goals first | exact ⟨_, rfl, (fun h => Bool.noConfusion h), (by repeat (first | exact HB2.out | exact HB1.out | exact hB0.out | apply pw_below_drewN | apply below_drew1 | apply below_alloc | exact Below.refl _ _))⟩ | exact .inl ⟨rfl, (by repeat (first | exact HB2.out | exact HB1.out | exact hB0.out | apply pw_below_drewN | apply below_drew1 | apply below_alloc | exact Below.refl _ _))⟩
    ·by_cases o5 : f0 = 5
     ·subst o5
      by_cases q0 : wrap64 ((l3.length : Int) + (l5.length : Int)) = 0
      ·have q0t := beqt q0
       obtain ⟨q0a, q0b⟩ := q0t
       have q0 := Aside0.mk q0
       have hL : Aside0 (∀ x : Int, Loc 5 x l3 l4 l5) := ⟨by have := hw2.out; have := q0.out; intro x; exact ⟨(fun h => absurd h (by decide)), (fun h => absurd h (by decide)), (fun h => absurd h (by decide)), (fun h => absurd h (by decide)), by have hz : l3.length = 0 ∨ l5.length = 0 := (by omega); exact hz.imp List.eq_nil_of_length_eq_zero List.eq_nil_of_length_eq_zero⟩⟩
       go_enter Tryd.func46, Tryd.ntmps46
       go_wp2
       all_goals go_ret
       all_goals first | exact ⟨_, rfl, (fun _ => hL.out _), (by first | exact hB0.out | exact below_alloc (Below.refl _ _) _)⟩ | exact ⟨rfl, hL.out _, (by first | exact hB0.out | exact below_alloc (Below.refl _ _) _)⟩ | exact .inr ⟨rfl, hL.out _, (by first | exact hB0.out | exact below_alloc (Below.refl _ _) _)⟩ | exact ⟨_, rfl, (fun h => Bool.noConfusion h), (by first | exact hB0.out | exact below_alloc (Below.refl _ _) _)⟩ | exact .inl ⟨rfl, (by first | exact hB0.out | exact below_alloc (Below.refl _ _) _)⟩
      ·obtain ⟨q0a, q0b⟩ := beqf q0
       go_enter Tryd.func46, Tryd.ntmps46
       go_wp2
       all_goals go_ret
       all_goals first | exact ⟨_, rfl, (fun h => Bool.noConfusion h), (by first | exact hB0.out | exact below_alloc (Below.refl _ _) _)⟩ | exact .inl ⟨rfl, (by first | exact hB0.out | exact below_alloc (Below.refl _ _) _)⟩
     ·by_cases o6 : f0 = 6
      ·subst o6
       by_cases q0 : (l5.length : Int) = 0
       ·have q0t := beqt q0
        obtain ⟨q0a, q0b⟩ := q0t
        have q0 := Aside0.mk q0
        by_cases q1 : (l4.length : Int) = 1
        ·have q1t := beqt q1
         obtain ⟨q1a, q1b⟩ := q1t
         have q1 := Aside0.mk q1
         have hL : Aside0 (∀ x : Int, Loc 6 x l3 l4 l5) := ⟨by have := q0.out; have := q1.out; intro x; exact ⟨fun _ => by omega, (fun h => absurd h (by decide)), (fun h => absurd h (by decide)), (fun h => absurd h (by decide)), by have hz : l3.length = 0 ∨ l5.length = 0 := (by omega); exact hz.imp List.eq_nil_of_length_eq_zero List.eq_nil_of_length_eq_zero⟩⟩
         go_enter Tryd.func46, Tryd.ntmps46
         go_wp2
         all_goals go_ret
         all_goals first | exact ⟨_, rfl, (fun _ => hL.out _), (by first | exact hB0.out | exact below_alloc (Below.refl _ _) _)⟩ | exact ⟨rfl, hL.out _, (by first | exact hB0.out | exact below_alloc (Below.refl _ _) _)⟩ | exact .inr ⟨rfl, hL.out _, (by first | exact hB0.out | exact below_alloc (Below.refl _ _) _)⟩ | exact ⟨_, rfl, (fun h => Bool.noConfusion h), (by first | exact hB0.out | exact below_alloc (Below.refl _ _) _)⟩ | exact .inl ⟨rfl, (by first | exact hB0.out | exact below_alloc (Below.refl _ _) _)⟩
        ·obtain ⟨q1a, q1b⟩ := beqf q1
         go_enter Tryd.func46, Tryd.ntmps46
         go_wp2
         all_goals go_ret
         all_goals first | exact ⟨_, rfl, (fun h => Bool.noConfusion h), (by first | exact hB0.out | exact below_alloc (Below.refl _ _) _)⟩ | exact .inl ⟨rfl, (by first | exact hB0.out | exact below_alloc (Below.refl _ _) _)⟩
       ·obtain ⟨q0a, q0b⟩ := beqf q0
        go_enter Tryd.func46, Tryd.ntmps46
        go_wp2
        all_goals go_ret
        all_goals first | exact ⟨_, rfl, (fun h => Bool.noConfusion h), (by first | exact hB0.out | exact below_alloc (Below.refl _ _) _)⟩ | exact .inl ⟨rfl, (by first | exact hB0.out | exact below_alloc (Below.refl _ _) _)⟩
      ·by_cases o7 : f0 = 7
       ·subst o7
        by_cases q0 : (l5.length : Int) = 0
        ·have q0t := beqt q0
         obtain ⟨q0a, q0b⟩ := q0t
         have q0 := Aside0.mk q0
         by_cases q1 : (l4.length : Int) = wrap64 ((l3.length : Int) + 1)
         ·have q1t := beqt q1
          obtain ⟨q1a, q1b⟩ := q1t
          have q1 := Aside0.mk q1
          have hL : Aside0 (∀ x : Int, Loc 7 x l3 l4 l5) := ⟨by have := q0.out; have := q1.out; have := hw1.out; intro x; exact ⟨(fun h => absurd h (by decide)), fun _ => by omega, (fun h => absurd h (by decide)), (fun h => absurd h (by decide)), by have hz : l3.length = 0 ∨ l5.length = 0 := (by omega); exact hz.imp List.eq_nil_of_length_eq_zero List.eq_nil_of_length_eq_zero⟩⟩
          go_enter Tryd.func46, Tryd.ntmps46
          go_wp2
          all_goals go_ret
          all_goals first | exact ⟨_, rfl, (fun _ => hL.out _), (by first | exact hB0.out | exact below_alloc (Below.refl _ _) _)⟩ | exact ⟨rfl, hL.out _, (by first | exact hB0.out | exact below_alloc (Below.refl _ _) _)⟩ | exact .inr ⟨rfl, hL.out _, (by first | exact hB0.out | exact below_alloc (Below.refl _ _) _)⟩ | exact ⟨_, rfl, (fun h => Bool.noConfusion h), (by first | exact hB0.out | exact below_alloc (Below.refl _ _) _)⟩ | exact .inl ⟨rfl, (by first | exact hB0.out | exact below_alloc (Below.refl _ _) _)⟩
         ·obtain ⟨q1a, q1b⟩ := beqf q1
          go_enter Tryd.func46, Tryd.ntmps46
          go_wp2
          all_goals go_ret
          all_goals first | exact ⟨_, rfl, (fun h => Bool.noConfusion h), (by first | exact hB0.out | exact below_alloc (Below.refl _ _) _)⟩ | exact .inl ⟨rfl, (by first | exact hB0.out | exact below_alloc (Below.refl _ _) _)⟩
        ·obtain ⟨q0a, q0b⟩ := beqf q0
         go_enter Tryd.func46, Tryd.ntmps46
         go_wp2
         all_goals go_ret
         all_goals first | exact ⟨_, rfl, (fun h => Bool.noConfusion h), (by first | exact hB0.out | exact below_alloc (Below.refl _ _) _)⟩ | exact .inl ⟨rfl, (by first | exact hB0.out | exact below_alloc (Below.refl _ _) _)⟩
       ·by_cases o8 : f0 = 8
        ·subst o8
         by_cases z3 : l3.length = 0
         ·obtain rfl := List.eq_nil_of_length_eq_zero z3
          simp only [List.length_nil] at hW0 hbx hw1 hw2 hw3 k3
          by_cases n0 : f1.toList = ([] : List UInt8)
          ·obtain ⟨n0a, n0b⟩ := beqt n0
           by_cases v2 : f2 = 0
           ·subst v2
            by_cases v4 : (l4.length : Int) = 1
            ·obtain ⟨v4a, v4b⟩ := beqt v4
             by_cases v5 : (l5.length : Int) = 0
             ·obtain ⟨v5a, v5b⟩ := beqt v5
              go_enter Tryd.func46, Tryd.ntmps46
              go_wp2
              all_goals go_ret
              all_goals first | exact ⟨_, rfl, (fun h => Bool.noConfusion h), (by first | exact hB0.out | exact below_alloc (Below.refl _ _) _)⟩ | exact .inl ⟨rfl, (by first | exact hB0.out | exact below_alloc (Below.refl _ _) _)⟩
             ·obtain ⟨v5a, v5b⟩ := beqf v5
              have hL : Aside0 (∀ x : Int, Loc 8 x [] l4 l5) := ⟨by intro x; exact ⟨(fun h => absurd h (by decide)), (fun h => absurd h (by decide)), (fun _ => by omega), (fun h => absurd h (by decide)), .inl rfl⟩⟩
              go_enter Tryd.func46, Tryd.ntmps46
              go_wp2
              go_loopg [6] (l5.length + 1) (fun kq v6 w' => ∃ i : Nat, v6 = .int .i64 (i : Int) ∧ i + kq = l5.length + 1 ∧ 1 ≤ kq ∧ Aside0 (Below W0.heap.size W0 w'))
              case atStart => exact ⟨0, rfl, by omega, by omega, ⟨Below.refl _ _⟩⟩
              case round =>
               clear k0 k1 k2 k3 k4 k5
               obtain ⟨i, rfl, hi, hk, hBr⟩ := hrel
               have k5 := (blk_cell (blk_below hbx.out hBr.out) 5).trans rfl
               by_cases hlt : i < l5.length
               ·have hxi : l5[i]? = some l5[i] := List.getElem?_eq_getElem hlt
                generalize l5[i] = a at hxi
                obtain ⟨bt, hbt⟩ := takes_tot a
                obtain ⟨ad, B3, d3, B7, d7, B8, d8, B9, d9, rfl, ⟨e0, e1, e2, e3, e4, e5, e6, e7, e8, e9⟩, g3, g7, g8, g9, m3, m7, m8, m9⟩ := elem40d (Kd.C_below h5.out hBr.out) i hxi
                have CT := gristmillref5_takes.calls a.f0 a.f1 a.f2 B3 d3 a.f3 a.f4.f0 a.f4.f1 a.f4.f2 B7 d7 a.f4.f3 B8 d8 a.f4.f4 B9 d9 a.f4.f5 bt wr g3 m3 g7 m7 g8 m8 g9 m9 hbt
                have p0 : (0 : Int) ≤ (i : Int) := by omega
                have p1 : (i : Int) < (l5.length : Int) := by omega
                have q1 : decide ((i : Int) < (l5.length : Int)) = true := decide_eq_true p1
                have hjn : Value.int .i64 (wrap64 ((i : Int) + 1)) = .int .i64 ((i + 1 : Nat) : Int) := by rw [wr1 i (by have := hl.out; omega)]
                have hi7 : i + 1 + (gk - 1) = l5.length + 1 ∧ 1 ≤ gk - 1 ∧ gk - 1 < gk := by omega
                clear g3 g7 g8 g9 m3 m7 m8 m9 hbt hxi
                cases bt
                ·go_wp2_with (first | (go_at_call 62; go_loud (with_reducible refine CT.mono ?_); rintro e w2 ⟨rfl, hb2⟩; have HB2 := Aside0.mk (hB0.out.trans ((below_step hBr.out hb2).mono hB0.out.size)); clear hb2 CT))
                 go_ret
                 exact ⟨false, rfl, (fun h => by cases h), HB2.out⟩
                ·go_wp2_with (first | (go_at_call 62; go_loud (with_reducible refine CT.mono ?_); rintro e w2 ⟨rfl, hb2⟩; have HB2 := Aside0.mk (below_step hBr.out hb2); clear hb2 CT))
                 go_roundg (gk - 1)
                 case measure => exact hi7.2.2
                 case rel => exact ⟨i + 1, by first | exact hjn | rfl, hi7.1, hi7.2.1, HB2⟩
               ·have q1 : decide ((i : Int) < (l5.length : Int)) = false := decide_eq_false (by omega)
                go_wp2
                go_ret
                first | exact ⟨_, rfl, fun _ => hL.out _, hB0.out.trans (hBr.out.mono hB0.out.size)⟩ | exact ⟨rfl, hL.out _, hB0.out.trans (hBr.out.mono hB0.out.size)⟩
            ·obtain ⟨v4a, v4b⟩ := beqf v4
             go_enter Tryd.func46, Tryd.ntmps46
             go_wp2
             all_goals go_ret
             all_goals first | exact ⟨_, rfl, (fun h => Bool.noConfusion h), (by first | exact hB0.out | exact below_alloc (Below.refl _ _) _)⟩ | exact .inl ⟨rfl, (by first | exact hB0.out | exact below_alloc (Below.refl _ _) _)⟩
           ·obtain ⟨v2a, v2b⟩ := beqf v2
            go_enter Tryd.func46, Tryd.ntmps46
            go_wp2
            all_goals go_ret
            all_goals first | exact ⟨_, rfl, (fun h => Bool.noConfusion h), (by first | exact hB0.out | exact below_alloc (Below.refl _ _) _)⟩ | exact .inl ⟨rfl, (by first | exact hB0.out | exact below_alloc (Below.refl _ _) _)⟩
          ·obtain ⟨n0a, n0b⟩ := beqf n0
           go_enter Tryd.func46, Tryd.ntmps46
           go_wp2
           all_goals go_ret
           all_goals first | exact ⟨_, rfl, (fun h => Bool.noConfusion h), (by first | exact hB0.out | exact below_alloc (Below.refl _ _) _)⟩ | exact .inl ⟨rfl, (by first | exact hB0.out | exact below_alloc (Below.refl _ _) _)⟩
         ·have z3a : decide ((0 : Int) < (l3.length : Int)) = true := decide_eq_true (by omega)
          have z3b : 0 < l3.length := by omega
          go_enter Tryd.func46, Tryd.ntmps46
          go_wp2
          all_goals go_ret
          all_goals first | exact ⟨_, rfl, (fun h => Bool.noConfusion h), (by first | exact hB0.out | exact below_alloc (Below.refl _ _) _)⟩ | exact .inl ⟨rfl, (by first | exact hB0.out | exact below_alloc (Below.refl _ _) _)⟩
        ·by_cases o9 : f0 = 9
         ·subst o9
          by_cases q0 : wrap64 ((l3.length : Int) + (l5.length : Int)) = 0
          ·have q0t := beqt q0
           obtain ⟨q0a, q0b⟩ := q0t
           have q0 := Aside0.mk q0
           by_cases q1 : f2 = 0
           ·subst q1
            have hL : Aside0 (∀ x : Int, Loc 9 x l3 l4 l5) := ⟨by have := hw2.out; have := q0.out; intro x; exact ⟨(fun h => absurd h (by decide)), (fun h => absurd h (by decide)), (fun h => absurd h (by decide)), (fun h => absurd h (by decide)), by have hz : l3.length = 0 ∨ l5.length = 0 := (by omega); exact hz.imp List.eq_nil_of_length_eq_zero List.eq_nil_of_length_eq_zero⟩⟩
            go_enter Tryd.func46, Tryd.ntmps46
            have CA1 := CA.out W0
            have T1 : True := trivial
            go_wp2_with (first | (clear T1; go_at_call 63; (try rw [hW0]); go_loud (with_reducible refine CA1.mono ?_); rintro e w1 ⟨rfl, hb1⟩; have HB1 := Aside0.mk (hB0.out.trans (hb1.mono hB0.out.size)); have hb1 := Aside0.mk hb1; clear k0 k1 k2 k3 k4 k5; (have k0 := (blk_cell (blk_below hbx.out hb1.out) 0).trans rfl); (have k1 := (blk_cell (blk_below hbx.out hb1.out) 1).trans rfl); (have k2 := (blk_cell (blk_below hbx.out hb1.out) 2).trans rfl); (have k3 := (blk_cell (blk_below hbx.out hb1.out) 3).trans rfl); (have k4 := (blk_cell (blk_below hbx.out hb1.out) 4).trans rfl); (have k5 := (blk_cell (blk_below hbx.out hb1.out) 5).trans rfl); have CA2 := CA.out w1; clear CA1; have T2 : True := trivial) | (clear T2; go_at_call 63; go_loud (with_reducible refine CA2.mono ?_); rintro e w2 ⟨rfl, hb2⟩; have HB2 := Aside0.mk (hB0.out.trans ((below_step hb1.out hb2).mono hB0.out.size)); clear hb2 CA2; have T3 : True := trivial))
            all_goals go_ret
            all_goals first | exact ⟨_, rfl, (fun _ => hL.out _), (by repeat (first | exact HB2.out | exact HB1.out | exact hB0.out | apply pw_below_drewN | apply below_drew1 | apply below_alloc | exact Below.refl _ _))⟩ | exact ⟨rfl, hL.out _, (by repeat (first | exact HB2.out | exact HB1.out | exact hB0.out | apply pw_below_drewN | apply below_drew1 | apply below_alloc | exact Below.refl _ _))⟩ | exact .inr ⟨rfl, hL.out _, (by repeat (first | exact HB2.out | exact HB1.out | exact hB0.out | apply pw_below_drewN | apply below_drew1 | apply below_alloc | exact Below.refl _ _))⟩ | exact ⟨_, rfl, (fun h => Bool.noConfusion h), (by repeat (first | exact HB2.out | exact HB1.out | exact hB0.out | apply pw_below_drewN | apply below_drew1 | apply below_alloc | exact Below.refl _ _))⟩ | exact .inl ⟨rfl, (by repeat (first | exact HB2.out | exact HB1.out | exact hB0.out | apply pw_below_drewN | apply below_drew1 | apply below_alloc | exact Below.refl _ _))⟩
           ·obtain ⟨q1a, q1b⟩ := beqf q1
            go_enter Tryd.func46, Tryd.ntmps46
            have CA1 := CA.out W0
            have T1 : True := trivial
            go_wp2_with (first | (clear T1; go_at_call 63; (try rw [hW0]); go_loud (with_reducible refine CA1.mono ?_); rintro e w1 ⟨rfl, hb1⟩; have HB1 := Aside0.mk (hB0.out.trans (hb1.mono hB0.out.size)); have hb1 := Aside0.mk hb1; clear k0 k1 k2 k3 k4 k5; (have k0 := (blk_cell (blk_below hbx.out hb1.out) 0).trans rfl); (have k1 := (blk_cell (blk_below hbx.out hb1.out) 1).trans rfl); (have k2 := (blk_cell (blk_below hbx.out hb1.out) 2).trans rfl); (have k3 := (blk_cell (blk_below hbx.out hb1.out) 3).trans rfl); (have k4 := (blk_cell (blk_below hbx.out hb1.out) 4).trans rfl); (have k5 := (blk_cell (blk_below hbx.out hb1.out) 5).trans rfl); have CA2 := CA.out w1; clear CA1; have T2 : True := trivial) | (clear T2; go_at_call 63; go_loud (with_reducible refine CA2.mono ?_); rintro e w2 ⟨rfl, hb2⟩; have HB2 := Aside0.mk (hB0.out.trans ((below_step hb1.out hb2).mono hB0.out.size)); clear hb2 CA2; have T3 : True := trivial))
            all_goals go_ret
            all_goals first | exact ⟨_, rfl, (fun h => Bool.noConfusion h), (by repeat (first | exact HB2.out | exact HB1.out | exact hB0.out | apply pw_below_drewN | apply below_drew1 | apply below_alloc | exact Below.refl _ _))⟩ | exact .inl ⟨rfl, (by repeat (first | exact HB2.out | exact HB1.out | exact hB0.out | apply pw_below_drewN | apply below_drew1 | apply below_alloc | exact Below.refl _ _))⟩
          ·obtain ⟨q0a, q0b⟩ := beqf q0
           go_enter Tryd.func46, Tryd.ntmps46
           have CA1 := CA.out W0
           have T1 : True := trivial
           go_wp2_with (first | (clear T1; go_at_call 63; (try rw [hW0]); go_loud (with_reducible refine CA1.mono ?_); rintro e w1 ⟨rfl, hb1⟩; have HB1 := Aside0.mk (hB0.out.trans (hb1.mono hB0.out.size)); have hb1 := Aside0.mk hb1; clear k0 k1 k2 k3 k4 k5; (have k0 := (blk_cell (blk_below hbx.out hb1.out) 0).trans rfl); (have k1 := (blk_cell (blk_below hbx.out hb1.out) 1).trans rfl); (have k2 := (blk_cell (blk_below hbx.out hb1.out) 2).trans rfl); (have k3 := (blk_cell (blk_below hbx.out hb1.out) 3).trans rfl); (have k4 := (blk_cell (blk_below hbx.out hb1.out) 4).trans rfl); (have k5 := (blk_cell (blk_below hbx.out hb1.out) 5).trans rfl); have CA2 := CA.out w1; clear CA1; have T2 : True := trivial) | (clear T2; go_at_call 63; go_loud (with_reducible refine CA2.mono ?_); rintro e w2 ⟨rfl, hb2⟩; have HB2 := Aside0.mk (hB0.out.trans ((below_step hb1.out hb2).mono hB0.out.size)); clear hb2 CA2; have T3 : True := trivial))
           all_goals go_ret
           all_goals first | exact ⟨_, rfl, (fun h => Bool.noConfusion h), (by repeat (first | exact HB2.out | exact HB1.out | exact hB0.out | apply pw_below_drewN | apply below_drew1 | apply below_alloc | exact Below.refl _ _))⟩ | exact .inl ⟨rfl, (by repeat (first | exact HB2.out | exact HB1.out | exact hB0.out | apply pw_below_drewN | apply below_drew1 | apply below_alloc | exact Below.refl _ _))⟩
         ·by_cases o10 : f0 = 10
          ·subst o10
           by_cases q0 : wrap64 ((wrap64 ((l3.length : Int) + (l4.length : Int))) + (l5.length : Int)) = 0
           ·have q0t := beqt q0
            obtain ⟨q0a, q0b⟩ := q0t
            have q0 := Aside0.mk q0
            have hL : Aside0 (∀ x : Int, Loc 10 x l3 l4 l5) := ⟨by have := hw3.out; have := q0.out; intro x; exact ⟨(fun h => absurd h (by decide)), (fun h => absurd h (by decide)), (fun h => absurd h (by decide)), (fun h => absurd h (by decide)), by have hz : l3.length = 0 ∨ l5.length = 0 := (by omega); exact hz.imp List.eq_nil_of_length_eq_zero List.eq_nil_of_length_eq_zero⟩⟩
            go_enter Tryd.func46, Tryd.ntmps46
            go_wp2
            all_goals go_ret
            all_goals first | exact ⟨_, rfl, (fun _ => hL.out _), (by first | exact hB0.out | exact below_alloc (Below.refl _ _) _)⟩ | exact ⟨rfl, hL.out _, (by first | exact hB0.out | exact below_alloc (Below.refl _ _) _)⟩ | exact .inr ⟨rfl, hL.out _, (by first | exact hB0.out | exact below_alloc (Below.refl _ _) _)⟩ | exact ⟨_, rfl, (fun h => Bool.noConfusion h), (by first | exact hB0.out | exact below_alloc (Below.refl _ _) _)⟩ | exact .inl ⟨rfl, (by first | exact hB0.out | exact below_alloc (Below.refl _ _) _)⟩
           ·obtain ⟨q0a, q0b⟩ := beqf q0
            go_enter Tryd.func46, Tryd.ntmps46
            go_wp2
            all_goals go_ret
            all_goals first | exact ⟨_, rfl, (fun h => Bool.noConfusion h), (by first | exact hB0.out | exact below_alloc (Below.refl _ _) _)⟩ | exact .inl ⟨rfl, (by first | exact hB0.out | exact below_alloc (Below.refl _ _) _)⟩
          ·have oo : ∀ k : Int, True := fun _ => trivial
           obtain ⟨o1a, o1b⟩ := beqf o1
           obtain ⟨o2a, o2b⟩ := beqf o2
           obtain ⟨o3a, o3b⟩ := beqf o3
           obtain ⟨o4a, o4b⟩ := beqf o4
           obtain ⟨o5a, o5b⟩ := beqf o5
           obtain ⟨o6a, o6b⟩ := beqf o6
           obtain ⟨o7a, o7b⟩ := beqf o7
           obtain ⟨o8a, o8b⟩ := beqf o8
           obtain ⟨o9a, o9b⟩ := beqf o9
           obtain ⟨o10a, o10b⟩ := beqf o10
           go_enter Tryd.func46, Tryd.ntmps46
           go_wp2
           all_goals go_ret
           all_goals first | exact ⟨_, rfl, (fun h => Bool.noConfusion h), (by first | exact hB0.out | exact below_alloc (Below.refl _ _) _)⟩ | exact .inl ⟨rfl, (by first | exact hB0.out | exact below_alloc (Below.refl _ _) _)⟩
theorem elem40c {W : World} {A : Option Addr} {n : Nat} {l : List S40} (hC : k40.C W A n l) (i : Nat) {x : S40} (hx : l[i]? = some x) : ∃ ad B3 d3 B7 d7 B8 d8 B9 d9, A = some ad ∧ AC W (ad.add (i * 10)) x B3 B7 B8 B9 d3 d7 d8 d9 ∧ Kd.string.C W B3 x.f3.length x.f3 ∧ Kd.string.C W B7 x.f4.f3.length x.f4.f3 ∧ k33.C W B8 x.f4.f4.length x.f4.f4 ∧ k40.C W B9 x.f4.f5.length x.f4.f5 ∧ x.f3.length ≤ d3 ∧ x.f4.f3.length ≤ d7 ∧ x.f4.f4.length ≤ d8 ∧ x.f4.f5.length ≤ d9 := by
 have hi := (List.getElem?_eq_some_iff.1 hx).1
 obtain ⟨ad, B3, d3, B7, d7, B8, d8, B9, d9, e, c0, c1, c2, c3, c4, c5, c6, c7, c8, c9, l3, g3, l7, g7, l8, g8, l9, g9⟩ := at_T40 hC (i : Int) (by omega) (by have := hC.1; omega)
 have hr : rd_T40 l (i : Int) = x := by
  unfold rd_T40
  rw [Int.toNat_natCast, List.getD_eq_getElem?_getD, hx]
  rfl
 rw [hr] at c0 c1 c2 c3 c4 c5 c6 c7 c8 c9 l3 g3 l7 g7 l8 g8 l9 g9
 rw [Int.toNat_natCast] at c0 c1 c2 c3 c4 c5 c6 c7 c8 c9
 exact ⟨ad, B3, d3, B7, d7, B8, d8, B9, d9, e, ⟨c0, c1, c2, c3, c4, c5, c6, c7, c8, c9⟩, g3, g7, g8, g9, l3, l7, l8, l9⟩
theorem name_c (s : ByteArray) (hs : s.size ≤ B47) : ∃ b : Bool, ∀ w, Calls Tryd.prog 19 #[.string s] w fun e w' => e = .returned (.bool b) ∧ Below w.heap.size w w' := by
 obtain ⟨r, hr⟩ := name_tot s (by unfold B47 at hs; omega) (s.size + 101) (by omega)
 exact ⟨r, fun w => gristmillref1_Name.calls _ s r w hr⟩
theorem upper_c (s : ByteArray) (hs : s.size ≤ B47) : ∃ b : Bool, ∀ w, Calls Tryd.prog 47 #[.string s] w fun e w' => e = .returned (.bool b) ∧ Below w.heap.size w w' := by
 obtain ⟨r, hr⟩ := upper_tot s (by unfold B47 at hs; omega) (s.size + 101) (by omega)
 exact ⟨r, fun w => (gristmillref1_Upper.calls _ s r w hr).mono fun e w' h => ⟨h.1, h.2.below⟩⟩
theorem names_c (l : List ByteArray) (hs : small l B47) (hl : l.length ≤ 100000000000) : ∃ v : Int, ∀ (w : World) {A : Option Addr} {c : Nat} (hC : Kd.string.C w A l.length l) (hc : l.length ≤ c), Calls Tryd.prog 48 #[.slice A l.length c] w fun e w' => e = .returned (.int .i64 v) ∧ Below w.heap.size w w' := by
 obtain ⟨r, hr⟩ := namesf_tot l (by omega) B47 (by decide) hs (l.length + B47 + 201) (by omega)
 exact ⟨r, fun w A c hC hc => gristmillref5_names.calls _ A c l r w hC hc hr⟩
def XV (e : S33) : Prop := ∀ (w : World) {A3 A4 A5 : Option Addr} {c3 c4 c5 : Nat}, Kd.C Kd.string w A3 e.f3.length e.f3 → e.f3.length ≤ c3 → Kd.C k33 w A4 e.f4.length e.f4 → e.f4.length ≤ c4 → Kd.C k40 w A5 e.f5.length e.f5 → e.f5.length ≤ c5 →
 Calls Tryd.prog 35 #[.agg #[.int .i64 e.f0, .string e.f1, .int .i64 e.f2, .slice A3 e.f3.length c3, .slice A4 e.f4.length c4, .slice A5 e.f5.length c5]] w fun r w' => ∃ v : Int, r = .returned (.int .i64 v) ∧ (v = 0 → Shp e) ∧ Below w.heap.size w w'
theorem XV.at {e : S33} (h : XV e) (w : World) {A3 A4 A5 : Option Addr} {c3 c4 c5 : Nat} (h3 : Kd.C Kd.string w A3 e.f3.length e.f3) (l3 : e.f3.length ≤ c3) (h4 : Kd.C k33 w A4 e.f4.length e.f4) (l4 : e.f4.length ≤ c4) (h5 : Kd.C k40 w A5 e.f5.length e.f5) (l5 : e.f5.length ≤ c5) :
 Calls Tryd.prog 35 #[.agg #[.int .i64 e.f0, .string e.f1, .int .i64 e.f2, .slice A3 e.f3.length c3, .slice A4 e.f4.length c4, .slice A5 e.f5.length c5]] w fun r w' => ∃ v : Int, r = .returned (.int .i64 v) ∧ (v = 0 → Shp e) ∧ Below w.heap.size w w' := h w h3 l3 h4 l4 h5 l5
set_option maxHeartbeats 16000000 in
set_option maxRecDepth 100000 in
theorem validExpr_step (e : S33) (hwf : WF e) (ih : ∀ x ∈ e.f4, XV x) (iha : ∀ a ∈ e.f5, XV a.f4) : XV e := by
 intro w A3 A4 A5 c3 c4 c5 h3 m3 h4 m4 h5 m5
 obtain ⟨⟨⟨w1, w2, w3, w4⟩, n3, n4, n5⟩, wl, wa⟩ := (wf_iff e).1 hwf
 have hfin0 : Aside0 (Loc e.f0 e.f2 e.f3 e.f4 e.f5 → (∀ x ∈ e.f4, Shp x) → (∀ a ∈ e.f5, Shp a.f4) → Shp e) := ⟨fun hb h1 h2 => (shp_iff e).2 ⟨hb, h1, h2⟩⟩
 have CF : ∀ W, Below w.heap.size w W → _ := fun W hb => form_c e (by omega) (by omega) (by omega) W (c3 := c3) (c4 := c4) (c5 := c5) (Kd.C_below h3 hb) (Kd.C_below h4 hb) (Kd.C_below h5 hb)
 clear hwf
 obtain ⟨f0, f1, f2, l3, l4, l5⟩ := e
 dsimp only at *
 have hwn : Aside0 (small l3 B47 ∧ l3.length ≤ 100000000000 ∧ l4.length ≤ 100000000000 ∧ l5.length ≤ 100000000000) := ⟨w4, n3, n4, n5⟩
 have hC3 := Aside0.mk h3
 have hC4 := Aside0.mk h4
 have hC5 := Aside0.mk h5
 have hwl := Aside0.mk wl
 have hwa := Aside0.mk wa
 have hih := Aside0.mk ih
 have hiha := Aside0.mk iha
 have hw1 := Aside0.mk w1
 clear h3 m3 h4 m4 h5 m5 w1 w2 w3 w4 n3 n4 n5 wl wa ih iha
 have E : ∀ W : World, ∀ o : Obj, (W.alloc o).heap.size = W.heap.size + 1 := fun W o => Array.size_push _
 obtain ⟨W0, hW0⟩ : ∃ W0, w.alloc (.cells #[.int .i64 f0, .string f1, .int .i64 f2, .slice A3 l3.length c3, .slice A4 l4.length c4, .slice A5 l5.length c5] 33) = W0 := ⟨_, rfl⟩
 have hB0 : Aside0 (Below w.heap.size w W0) := ⟨by rw [← hW0]; exact below_alloc (Below.refl _ _) _⟩
 have hbx : Aside0 (W0.heap[w.heap.size]? = some (.cells #[.int .i64 f0, .string f1, .int .i64 f2, .slice A3 l3.length c3, .slice A4 l4.length c4, .slice A5 l5.length c5] 33 (0, 0))) := ⟨by rw [← hW0]; exact blk_new w _⟩
 have CF0 := CF W0 hB0.out
 have k0 := (blk_cell hbx.out 0).trans rfl
 have k1 := (blk_cell hbx.out 1).trans rfl
 have k2 := (blk_cell hbx.out 2).trans rfl
 have k3 := (blk_cell hbx.out 3).trans rfl
 have k4 := (blk_cell hbx.out 4).trans rfl
 have k5 := (blk_cell hbx.out 5).trans rfl
 clear CF
 obtain ⟨p1, hp1⟩ : ∃ b, (f0 == 1) = b := ⟨_, rfl⟩
 obtain ⟨p4, hp4⟩ : ∃ b, (f0 == 4) = b := ⟨_, rfl⟩
 go_enter Tryd.func35, Tryd.ntmps35
 go_upto_region 1 with (fail)
 go_cut [14] (fun v14 wc => ∃ bf : Bool, v14 = .bool (!bf) ∧ Aside0 (bf = true → Loc f0 f2 l3 l4 l5) ∧ Aside0 (Below W0.heap.size W0 wc))
 case first => as_aux_lemma =>
  go_wp2_with (first | (go_at_call 46; (try rw [hW0]); go_loud (with_reducible refine CF0.mono ?_); rintro r w2 ⟨bf, rfl, hbf, hb2⟩; have HB2 := Aside0.mk hb2; have hbf := Aside0.mk hbf; clear hb2 CF0))
  go_meet
  case rel => exact ⟨bf, rfl, hbf, HB2⟩
 case rest =>
 obtain ⟨bf, rfl, hbf, HB2⟩ := hcut
 rename World => w2
 clear CF0 hW0
 have HB2 := HB2
 cases bf
 ·go_wp2
  go_ret
  exact ⟨108, rfl, fun h => absurd h (by decide), hB0.out.trans (HB2.out.mono hB0.out.size)⟩
 ·have hfin := Aside0.mk (fun (_ : true = true) => hfin0.out (hbf.out rfl))
  clear hfin0 hbf
  go_upto_region 3 with (fail)
  go_cut [34] (fun v34 wc => ∃ b : Bool, v34 = .bool b ∧ Aside0 (Below W0.heap.size W0 wc))
  case first => as_aux_lemma =>
   obtain ⟨bn, CN⟩ := name_c f1 hw1.out
   obtain ⟨bu, CU⟩ := upper_c f1 hw1.out
   have CN := CN w2
   have CU := CU w2
   clear k0 k1 k2 k3 k4 k5
   have k0 := (blk_cell (blk_below hbx.out HB2.out) 0).trans rfl
   have k1 := (blk_cell (blk_below hbx.out HB2.out) 1).trans rfl
   have k2 := (blk_cell (blk_below hbx.out HB2.out) 2).trans rfl
   have k3 := (blk_cell (blk_below hbx.out HB2.out) 3).trans rfl
   have k4 := (blk_cell (blk_below hbx.out HB2.out) 4).trans rfl
   have k5 := (blk_cell (blk_below hbx.out HB2.out) 5).trans rfl
   cases p1
   ·cases p4
    ·go_wp2
     go_meet
     case rel => exact ⟨false, rfl, HB2⟩
    ·go_wp2_with (first | (go_at_call 47; go_loud (with_reducible refine CU.mono ?_); rintro r w3 ⟨rfl, hb3⟩; have HB3 := Aside0.mk (below_step HB2.out hb3); clear hb3 CU))
     go_meet
     case rel => exact ⟨!bu, rfl, HB3⟩
   ·cases p4
    ·cases bn
     ·go_wp2_with (first | (go_at_call 19; go_loud (with_reducible refine CN.mono ?_); rintro r w3 ⟨rfl, hb3⟩; have HB3 := Aside0.mk (below_step HB2.out hb3); clear hb3 CN))
      go_meet
      case rel => exact ⟨true, rfl, HB3⟩
     ·go_wp2_with (first | (go_at_call 19; go_loud (with_reducible refine CN.mono ?_); rintro r w3 ⟨rfl, hb3⟩; have HB3 := Aside0.mk (below_step HB2.out hb3); have j0 := (blk_cell (blk_below hbx.out HB3.out) 0).trans rfl; clear hb3 CN k0 k1 k2 k3 k4 k5))
      go_meet
      case rel => exact ⟨false, rfl, HB3⟩
    ·have h1 := beq_iff_eq.1 hp1
     have h2 := beq_iff_eq.1 hp4
     omega
  case rest =>
   obtain ⟨b34, rfl, HBc⟩ := hcut
   clear HB2 k0 k1 k2 k3 k4 k5 hp1 hp4
   rename World => w5
   cases b34
   ·go_upto_region 5 with (fail)
    go_cut [3] (fun v3 wc => ∃ b : Bool, v3 = .bool b ∧ Aside0 (Below W0.heap.size W0 wc))
    case first => as_aux_lemma =>
     have k0 := (blk_cell (blk_below hbx.out HBc.out) 0).trans rfl
     have k1 := (blk_cell (blk_below hbx.out HBc.out) 1).trans rfl
     have k2 := (blk_cell (blk_below hbx.out HBc.out) 2).trans rfl
     have k3 := (blk_cell (blk_below hbx.out HBc.out) 3).trans rfl
     have k4 := (blk_cell (blk_below hbx.out HBc.out) 4).trans rfl
     have k5 := (blk_cell (blk_below hbx.out HBc.out) 5).trans rfl
     obtain ⟨z1, hz1⟩ : ∃ b, decide (60 < (l3.length : Int)) = b := ⟨_, rfl⟩
     obtain ⟨z2, hz2⟩ : ∃ b, decide (60 < (l5.length : Int)) = b := ⟨_, rfl⟩
     cases z1 <;> cases z2
     all_goals (go_wp2; go_meet; case rel => exact ⟨_, rfl, HBc⟩)
    case rest =>
     obtain ⟨b3, rfl, HBd⟩ := hcut
     clear HBc
     go_wp2
     go_loopg [4] (l3.length + 1) (fun kq v4 w' => ∃ i : Nat, v4 = .int .i64 (i : Int) ∧ i + kq = l3.length + 1 ∧ 1 ≤ kq ∧ Aside0 (Below W0.heap.size W0 w'))
     case atStart => exact ⟨0, rfl, by omega, by omega, HBd⟩
     case round =>
      clear HBd
      obtain ⟨i, rfl, hi, hk, hBr⟩ := hrel
      have k0 := (blk_cell (blk_below hbx.out hBr.out) 0).trans rfl
      have k1 := (blk_cell (blk_below hbx.out hBr.out) 1).trans rfl
      have k2 := (blk_cell (blk_below hbx.out hBr.out) 2).trans rfl
      have k3 := (blk_cell (blk_below hbx.out hBr.out) 3).trans rfl
      have k4 := (blk_cell (blk_below hbx.out hBr.out) 4).trans rfl
      have k5 := (blk_cell (blk_below hbx.out hBr.out) 5).trans rfl
      by_cases hlt : i < l3.length
      ·obtain ⟨ad, rfl, hv⟩ := at_str (Kd.C_below (Kd.C_below hC3.out hB0.out) hBr.out) i hlt hlt
       obtain ⟨bn, CN⟩ := name_c l3[i] (hwn.out.1 _ (List.getElem_mem hlt))
       have CN := CN wr
       generalize l3[i] = s at *
       have p0 : (0 : Int) ≤ (i : Int) := by omega
       have p1 : (i : Int) < (l3.length : Int) := by omega
       have q1 : decide ((i : Int) < (l3.length : Int)) = true := decide_eq_true p1
       have hjn : Value.int .i64 (wrap64 ((i : Int) + 1)) = .int .i64 ((i + 1 : Nat) : Int) := by rw [wr1 i (by have := hwn.out; omega)]
       have hi7 : i + 1 + (gk - 1) = l3.length + 1 ∧ 1 ≤ gk - 1 ∧ gk - 1 < gk := by omega
       cases bn
       ·go_wp2_with (first | (go_at_call 19; go_loud (with_reducible refine CN.mono ?_); rintro r w3 ⟨rfl, hb3⟩; have HB3 := Aside0.mk (below_step hBr.out hb3); clear hb3 CN))
        go_ret
        exact ⟨109, rfl, fun h => absurd h (by decide), (hB0.out.trans (HB3.out.mono hB0.out.size))⟩
       ·go_wp2_with (first | (go_at_call 19; go_loud (with_reducible refine CN.mono ?_); rintro r w3 ⟨rfl, hb3⟩; have HB3 := Aside0.mk (below_step hBr.out hb3); clear hb3 CN))
        go_roundg (gk - 1)
        case measure => exact hi7.2.2
        case rel => exact ⟨i + 1, by first | exact hjn | rfl, hi7.1, hi7.2.1, HB3⟩
      ·have q1 : decide ((i : Int) < (l3.length : Int)) = false := decide_eq_false (by omega)
       clear hi hk
       have HBd := hBr
       clear hBr
       go_wp2
       go_loopg [3, 5] (l5.length + 1) (fun kq v3 v5 w' => ∃ (b : Bool) (i : Nat), v3 = .bool b ∧ v5 = .int .i64 (i : Int) ∧ i + kq = l5.length + 1 ∧ 1 ≤ kq ∧ Aside0 (Below W0.heap.size W0 w'))
       case atStart => exact ⟨b3, 0, rfl, rfl, by omega, by omega, HBd⟩
       case round =>
        clear HBd k0 k1 k2 k3 k4 k5 q1
        obtain ⟨bm, i, rfl, rfl, hi, hk, hBr⟩ := hrel
        have k0 := (blk_cell (blk_below hbx.out hBr.out) 0).trans rfl
        have k1 := (blk_cell (blk_below hbx.out hBr.out) 1).trans rfl
        have k2 := (blk_cell (blk_below hbx.out hBr.out) 2).trans rfl
        have k3 := (blk_cell (blk_below hbx.out hBr.out) 3).trans rfl
        have k4 := (blk_cell (blk_below hbx.out hBr.out) 4).trans rfl
        have k5 := (blk_cell (blk_below hbx.out hBr.out) 5).trans rfl
        by_cases hlt : i < l5.length
        ·have hxi : l5[i]? = some l5[i] := List.getElem?_eq_getElem hlt
         have ha := hwa.out _ (List.getElem_mem hlt)
         generalize l5[i] = a at hxi ha
         obtain ⟨ad, B3, d3, B7, d7, B8, d8, B9, d9, rfl, ⟨e0, e1, e2, e3, e4, e5, e6, e7, e8, e9⟩, g3, g7, g8, g9, m3, _, _, _⟩ := elem40c (Kd.C_below (Kd.C_below hC5.out hB0.out) hBr.out) i hxi
         obtain ⟨bu, CU⟩ := upper_c a.f1 ha.1.1
         obtain ⟨v, CV⟩ := names_c a.f3 ha.1.2.2.2 ha.2.1
         have hC := Aside0.mk g3
         have hm := Aside0.mk m3
         clear g3 g7 g8 g9 m3 ha
         obtain ⟨pa, hpa⟩ : ∃ b, (a.f0 == 1) = b := ⟨_, rfl⟩
         obtain ⟨y1, hy1⟩ : ∃ b, (v == 109) = b := ⟨_, rfl⟩
         obtain ⟨y2, hy2⟩ : ∃ b, (v != 0) = b := ⟨_, rfl⟩
         have hv9 : Aside0 (y1 = true → v ≠ 0) := ⟨fun h e => by rw [h, e] at hy1; exact absurd hy1 (by decide)⟩
         have p0 : (0 : Int) ≤ (i : Int) := by omega
         have p1 : (i : Int) < (l5.length : Int) := by omega
         have q1 : decide ((i : Int) < (l5.length : Int)) = true := decide_eq_true p1
         have hjn : Value.int .i64 (wrap64 ((i : Int) + 1)) = .int .i64 ((i + 1 : Nat) : Int) := by rw [wr1 i (by have := hwn.out; omega)]
         have hi7 : i + 1 + (gk - 1) = l5.length + 1 ∧ 1 ≤ gk - 1 ∧ gk - 1 < gk := by omega
         obtain ⟨Wa, hWa⟩ : ∃ Wa, wr.alloc (.cells #[.int .i64 a.f0, .string a.f1, .int .i64 a.f2, .slice B3 a.f3.length d3, .int .i64 a.f4.f0, .string a.f4.f1, .int .i64 a.f4.f2, .slice B7 a.f4.f3.length d7, .slice B8 a.f4.f4.length d8, .slice B9 a.f4.f5.length d9] 40) = Wa := ⟨_, rfl⟩
         have hBa : Aside0 (Below wr.heap.size wr Wa) := ⟨by rw [← hWa]; exact below_alloc (Below.refl _ _) _⟩
         have hab : Aside0 (Wa.heap[wr.heap.size]? = some (.cells #[.int .i64 a.f0, .string a.f1, .int .i64 a.f2, .slice B3 a.f3.length d3, .int .i64 a.f4.f0, .string a.f4.f1, .int .i64 a.f4.f2, .slice B7 a.f4.f3.length d7, .slice B8 a.f4.f4.length d8, .slice B9 a.f4.f5.length d9] 40 (0, 0))) := ⟨by rw [← hWa]; exact blk_new wr _⟩
         have u0 := (blk_cell hab.out 0).trans rfl
         have u1 := (blk_cell hab.out 1).trans rfl
         have u3 := (blk_cell hab.out 3).trans rfl
         cases pa
         ·cases y1 <;> cases y2 <;> cases bm
          all_goals go_wp2_with (first | (go_at_call 48; go_loud (with_reducible refine (CV Wa (Kd.C_below hC.out hBa.out) hm.out).mono ?_); rintro r w4 ⟨rfl, hb4⟩; have HB4 := Aside0.mk (below_step (below_step hBr.out hBa.out) hb4); clear hb4))
          all_goals (first | (go_ret; exact ⟨_, rfl, fun h => absurd h (hv9.out (by first | rfl | trivial)), (hB0.out.trans (HB4.out.mono hB0.out.size))⟩) | (go_roundg (gk - 1); (case measure => exact hi7.2.2); (case rel => exact ⟨_, i + 1, rfl, by first | exact hjn | rfl, hi7.1, hi7.2.1, HB4⟩)))
         ·cases bu
          ·go_wp2_with (first | (go_at_call 47; go_loud (with_reducible refine (CU Wa).mono ?_); rintro r w3 ⟨rfl, hb3⟩; have HB3 := Aside0.mk hb3; have u3 := (blk_cell (blk_below hab.out hb3) 3).trans rfl; clear hb3 u0 u1))
           go_ret
           exact ⟨109, rfl, fun h => absurd h (by decide), (hB0.out.trans ((below_step (below_step hBr.out hBa.out) HB3.out).mono hB0.out.size))⟩
          ·cases y1 <;> cases y2 <;> cases bm
           all_goals go_wp2_with (first | (go_at_call 47; go_loud (with_reducible refine (CU Wa).mono ?_); rintro r w3 ⟨rfl, hb3⟩; have HB3 := Aside0.mk hb3; have u3 := (blk_cell (blk_below hab.out hb3) 3).trans rfl; clear hb3 u0 u1) | (go_at_call 48; go_loud (with_reducible refine (CV w3 (Kd.C_below (Kd.C_below hC.out hBa.out) HB3.out) hm.out).mono ?_); rintro r w4 ⟨rfl, hb4⟩; have HB4 := Aside0.mk (below_step (below_step (below_step hBr.out hBa.out) HB3.out) hb4); clear hb4))
           all_goals (first | (go_ret; exact ⟨_, rfl, fun h => absurd h (hv9.out (by first | rfl | trivial)), (hB0.out.trans (HB4.out.mono hB0.out.size))⟩) | (go_roundg (gk - 1); (case measure => exact hi7.2.2); (case rel => exact ⟨_, i + 1, rfl, by first | exact hjn | rfl, hi7.1, hi7.2.1, HB4⟩)))
        ·have q1 : decide ((i : Int) < (l5.length : Int)) = false := decide_eq_false (by omega)
         clear hi hk
         have HBd := hBr
         clear hBr
         cases bm
         ·go_wp2
          go_loopg [8] (l4.length + 1) (fun kq v8 w' => ∃ (i : Nat), v8 = .int .i64 (i : Int) ∧ i + kq = l4.length + 1 ∧ 1 ≤ kq ∧ Aside0 (Below W0.heap.size W0 w') ∧ Aside0 (∀ (j : Nat) (x : S33), j < i → l4[j]? = some x → Shp x))
          case atStart => exact ⟨0, rfl, by omega, by omega, HBd, ⟨fun j x hj _ => by omega⟩⟩
          case round =>
           clear HBd k0 k1 k2 k3 k4 k5 q1
           obtain ⟨i, rfl, hi, hk, hBr, hsh⟩ := hrel
           have k0 := (blk_cell (blk_below hbx.out hBr.out) 0).trans rfl
           have k1 := (blk_cell (blk_below hbx.out hBr.out) 1).trans rfl
           have k2 := (blk_cell (blk_below hbx.out hBr.out) 2).trans rfl
           have k3 := (blk_cell (blk_below hbx.out hBr.out) 3).trans rfl
           have k4 := (blk_cell (blk_below hbx.out hBr.out) 4).trans rfl
           have k5 := (blk_cell (blk_below hbx.out hBr.out) 5).trans rfl
           by_cases hlt : i < l4.length
           ·have hxi : l4[i]? = some l4[i] := List.getElem?_eq_getElem hlt
            have hx := hih.out _ (List.getElem_mem hlt)
            generalize l4[i] = x at hxi hx
            obtain ⟨ad, B3, d3, B4, d4, B5, d5, rfl, ⟨e0, e1, e2, e3, e4, e5⟩, g3, g4, g5, m3, m4, m5⟩ := elem33 (Kd.C_below (Kd.C_below hC4.out hB0.out) hBr.out) i hxi
            have CX := hx.at wr g3 m3 g4 m4 g5 m5
            have hnx : Aside0 (Shp x → ∀ (j : Nat) (z : S33), j < i + 1 → l4[j]? = some z → Shp z) := ⟨fun hs j z hj hz => by by_cases hji : j < i; exact hsh.out j z hji hz; obtain rfl : j = i := (by omega); rw [hxi] at hz; obtain rfl := Option.some.inj hz; exact hs⟩
            clear g3 g4 g5 m3 m4 m5 hx hxi
            have p0 : (0 : Int) ≤ (i : Int) := by omega
            have p1 : (i : Int) < (l4.length : Int) := by omega
            have q1 : decide ((i : Int) < (l4.length : Int)) = true := decide_eq_true p1
            have hjn : Value.int .i64 (wrap64 ((i : Int) + 1)) = .int .i64 ((i + 1 : Nat) : Int) := by rw [wr1 i (by have := hwn.out; omega)]
            have hi7 : i + 1 + (gk - 1) = l4.length + 1 ∧ 1 ≤ gk - 1 ∧ gk - 1 < gk := by omega
            go_wp2_with (first | (go_at_call 35; go_loud (with_reducible refine CX.mono ?_); rintro r w3 ⟨v, rfl, hsv, hb3⟩; have HB3 := Aside0.mk (below_step hBr.out hb3); have hsv := Aside0.mk hsv; clear hb3 CX))
            all_goals first | (go_ret; exact ⟨_, rfl, fun h => absurd ‹(v != 0) = true› (by rw [h]; decide), (hB0.out.trans (HB3.out.mono hB0.out.size))⟩) | (go_roundg (gk - 1); (case measure => exact hi7.2.2); (case rel => exact ⟨i + 1, by first | exact hjn | rfl, hi7.1, hi7.2.1, HB3, ⟨hnx.out (hsv.out (bne_eq_false_iff_eq.1 ‹(v != 0) = false›))⟩⟩))
           ·have q1 : decide ((i : Int) < (l4.length : Int)) = false := decide_eq_false (by omega)
            have hsl : Aside0 (∀ x ∈ l4, Shp x) := ⟨fun x hx => by obtain ⟨j, hj, rfl⟩ := List.getElem_of_mem hx; exact hsh.out j _ (by omega) (List.getElem?_eq_getElem hj)⟩
            clear hi hk hsh
            have HBd := hBr
            clear hBr
            go_wp2
            go_loopg [10] (l5.length + 1) (fun kq v10 w' => ∃ (i : Nat), v10 = .int .i64 (i : Int) ∧ i + kq = l5.length + 1 ∧ 1 ≤ kq ∧ Aside0 (Below W0.heap.size W0 w') ∧ Aside0 (∀ (j : Nat) (x : S40), j < i → l5[j]? = some x → Shp x.f4))
            case atStart => exact ⟨0, rfl, by omega, by omega, HBd, ⟨fun j x hj _ => by omega⟩⟩
            case round =>
             clear HBd k0 k1 k2 k3 k4 k5 q1
             obtain ⟨i, rfl, hi, hk, hBr, hsh⟩ := hrel
             have k0 := (blk_cell (blk_below hbx.out hBr.out) 0).trans rfl
             have k1 := (blk_cell (blk_below hbx.out hBr.out) 1).trans rfl
             have k2 := (blk_cell (blk_below hbx.out hBr.out) 2).trans rfl
             have k3 := (blk_cell (blk_below hbx.out hBr.out) 3).trans rfl
             have k4 := (blk_cell (blk_below hbx.out hBr.out) 4).trans rfl
             have k5 := (blk_cell (blk_below hbx.out hBr.out) 5).trans rfl
             by_cases hlt : i < l5.length
             ·have hxi : l5[i]? = some l5[i] := List.getElem?_eq_getElem hlt
              have hx := hiha.out _ (List.getElem_mem hlt)
              generalize l5[i] = a at hxi hx
              obtain ⟨ad, B3, d3, B7, d7, B8, d8, B9, d9, rfl, ⟨e0, e1, e2, e3, e4, e5, e6, e7, e8, e9⟩, g3, g7, g8, g9, _, m7, m8, m9⟩ := elem40c (Kd.C_below (Kd.C_below hC5.out hB0.out) hBr.out) i hxi
              have CX := hx.at wr g7 m7 g8 m8 g9 m9
              have hnx : Aside0 (Shp a.f4 → ∀ (j : Nat) (z : S40), j < i + 1 → l5[j]? = some z → Shp z.f4) := ⟨fun hs j z hj hz => by by_cases hji : j < i; exact hsh.out j z hji hz; obtain rfl : j = i := (by omega); rw [hxi] at hz; obtain rfl := Option.some.inj hz; exact hs⟩
              clear g3 g7 g8 g9 m7 m8 m9 hx hxi
              have p0 : (0 : Int) ≤ (i : Int) := by omega
              have p1 : (i : Int) < (l5.length : Int) := by omega
              have q1 : decide ((i : Int) < (l5.length : Int)) = true := decide_eq_true p1
              have hjn : Value.int .i64 (wrap64 ((i : Int) + 1)) = .int .i64 ((i + 1 : Nat) : Int) := by rw [wr1 i (by have := hwn.out; omega)]
              have hi7 : i + 1 + (gk - 1) = l5.length + 1 ∧ 1 ≤ gk - 1 ∧ gk - 1 < gk := by omega
              go_wp2_with (first | (go_at_call 35; go_loud (with_reducible refine CX.mono ?_); rintro r w3 ⟨v, rfl, hsv, hb3⟩; have HB3 := Aside0.mk (below_step hBr.out hb3); have hsv := Aside0.mk hsv; clear hb3 CX))
              all_goals first | (go_ret; exact ⟨_, rfl, fun h => absurd ‹(v != 0) = true› (by rw [h]; decide), (hB0.out.trans (HB3.out.mono hB0.out.size))⟩) | (go_roundg (gk - 1); (case measure => exact hi7.2.2); (case rel => exact ⟨i + 1, by first | exact hjn | rfl, hi7.1, hi7.2.1, HB3, ⟨hnx.out (hsv.out (bne_eq_false_iff_eq.1 ‹(v != 0) = false›))⟩⟩))
             ·have q1 : decide ((i : Int) < (l5.length : Int)) = false := decide_eq_false (by omega)
              have hsa : Aside0 (∀ x ∈ l5, Shp x.f4) := ⟨fun x hx => by obtain ⟨j, hj, rfl⟩ := List.getElem_of_mem hx; exact hsh.out j _ (by omega) (List.getElem?_eq_getElem hj)⟩
              go_wp2
              go_ret
              exact ⟨0, rfl, fun _ => hfin.out (by first | rfl | trivial) hsl.out hsa.out, (hB0.out.trans (hBr.out.mono hB0.out.size))⟩
         ·go_wp2
          go_ret
          exact ⟨104, rfl, fun h => absurd h (by decide), (hB0.out.trans (HBd.out.mono hB0.out.size))⟩
   ·go_wp2
    go_ret
    exact ⟨109, rfl, fun h => absurd h (by decide), (hB0.out.trans (HBc.out.mono hB0.out.size))⟩
mutual
def sz56 : S56 → Nat
 | ⟨_, l, _⟩ => 1 + sz56L l
def sz56L : List S56 → Nat
 | [] => 0
 | e :: l => sz56 e + sz56L l
end
theorem sz56_eq (x : S56) : sz56 x = 1 + sz56L x.f1 := by cases x; simp only [sz56]
theorem sz56_drop {l : List S56} {i : Nat} (h : i < l.length) : sz56L (l.drop i) = sz56 l[i] + sz56L (l.drop (i + 1)) := by rw [List.drop_eq_getElem_cons h]; simp only [sz56L]
theorem sz56_mem : ∀ {l : List S56} {x : S56}, x ∈ l → sz56 x ≤ sz56L l
 | _ :: l, x, h => by
  simp only [sz56L]
  rcases List.mem_cons.1 h with rfl | h
  ·omega
  ·have := sz56_mem h; omega
def Bd56 : Nat → List S56 → Prop
 | 0, l => l = []
 | m + 1, l => l.length ≤ 9223372036854775807 ∧ ∀ x ∈ l, Bd56 m x.f1
theorem bd56_of : ∀ (m : Nat) (l : List S56), sz56L l < m → ∀ {W : World} {A : Option Addr} {n : Nat}, k56.C W A n l → Bd56 m l
 | 0, l, h, _, _, _, _ => by omega
 | m + 1, l, h, W, A, n, hC => by
  refine ⟨by have h1 := hC.1; have h2 := hC.2.1; omega, fun x hx => ?_⟩
  obtain ⟨i, hi, rfl⟩ := List.getElem_of_mem hx
  obtain ⟨ad, c, e, _, hK, _⟩ := Kd.C_get hC z56 (i : Int) (by omega) (by have := hC.1; omega)
  have hr : l.getD (i : Int).toNat z56 = l[i] := by rw [Int.toNat_natCast, List.getD_eq_getElem?_getD, List.getElem?_eq_getElem hi]; rfl
  rw [hr] at hK
  obtain ⟨A1, c1, _, _, hC1⟩ := k56_open hK
  exact bd56_of m _ (by have h1 := sz56_mem hx; rw [sz56_eq] at h1; omega) hC1
theorem deep_l0 : ∀ (k m : Nat) (l : List S56) (d : Int) (i : Nat), Bd56 (m + 1) l → i ≤ l.length → sz56L (l.drop i) * 2 + 2 ≤ k → ∃ r, gristmillref1_Deep.l0 k l d (i : Int) = some r
 | 0, m, l, d, i, hb, hi, hk => by omega
 | 1, m, l, d, i, hb, hi, hk => by omega
 | k + 2, m, l, d, i, hb, hi, hk => by
  rw [gristmillref1_Deep.l0]
  by_cases hlt : i < l.length
  ·have hd := sz56_drop hlt
   have hsz := sz56_eq l[i]
   have hr : rd_T56 l (i : Int) = l[i] := by unfold rd_T56; rw [Int.toNat_natCast, List.getD_eq_getElem?_getD, List.getElem?_eq_getElem hlt]; rfl
   have hw : wrap64 ((i : Int) + 1) = ((i + 1 : Nat) : Int) := by have := hb.1; unfold wrap64; omega
   have hrec : ∀ d', ∃ r, gristmillref1_Deep.l0 (k + 1) l d' ((i + 1 : Nat) : Int) = some r := fun d' => deep_l0 (k + 1) m l d' (i + 1) hb (by omega) (by omega)
   rw [if_pos (by omega), if_pos (by omega), hr, hw]
   refine ite_ex (bind_ex ?_ (fun q => hrec _)) (hrec _)
   rw [gristmillref1_Deep.f]
   have hbx := hb.2 _ (List.getElem_mem hlt)
   cases m with
   | zero =>
    have hbx : l[i].f1 = [] := hbx
    rw [hbx]
    cases k with
    | zero => omega
    | succ k => rw [gristmillref1_Deep.l0]; exact ⟨_, rfl⟩
   | succ m => exact deep_l0 k m _ 0 0 hbx (Nat.zero_le _) (by rw [List.drop_zero]; omega)
  ·rw [if_neg (by omega)]
   exact ⟨_, rfl⟩
theorem deep_c (l : List S56) {W : World} {A : Option Addr} {c : Nat} (hC : k56.C W A l.length l) (hc : l.length ≤ c) : Calls Tryd.prog 36 #[.slice A l.length c] W fun e w' => ∃ v : Int, e = .returned (.int .i64 v) ∧ Below W.heap.size W w' := by
 obtain ⟨r, hr⟩ : ∃ r, gristmillref1_Deep.f (sz56L l * 2 + 3) l = some r := by
  rw [gristmillref1_Deep.f]
  exact deep_l0 _ (sz56L l) l 0 0 (bd56_of _ l (Nat.lt_succ_self _) hC) (Nat.zero_le _) (by rw [List.drop_zero]; exact Nat.le_refl _)
 exact (gristmillref1_Deep.calls _ A c l r W hC hc hr).mono fun e w' h => ⟨r, h⟩
theorem deep_1 {W : World} {q n c : Nat} {s : ByteArray} {A : Option Addr} (hn : NL W q A n) (hc : n ≤ c) :
  Calls Tryd.prog 36 #[.slice (some ⟨W.heap.size, 0, none⟩) 1 1] (W.alloc (.cells #[.string s, .slice A n c, .int .i64 0] 56)) fun e w' => ∃ v : Int, e = .returned (.int .i64 v) ∧ Below (W.alloc (.cells #[.string s, .slice A n c, .int .i64 0] 56)).heap.size (W.alloc (.cells #[.string s, .slice A n c, .int .i64 0] 56)) w' := by
 obtain ⟨xs, hx⟩ := hn
 have hb := blk_new W (.cells #[.string s, .slice A n c, .int .i64 0] 56 (0, 0))
 have hK := nodeK (Kd.F_alloc hx (.cells #[.string s, .slice A n c, .int .i64 0] 56)) hc s
 exact deep_c [⟨s, xs, 0⟩] (C_cells hb (Reps.c3 (Kd.FK_now hK) (Reps.none _ _)) (by simp)) (Nat.le_refl _)
theorem validExpr_all : ∀ (m : Nat) (e : S33), cost e ≤ m → WF e → XV e
 | 0, e, hc, _ => by have := cost_eq e; omega
 | m + 1, e, hc, hw => by
  have h := (wf_iff e).1 hw
  exact validExpr_step e hw (fun x hx => validExpr_all m x (by have := cost_mem hx; omega) (h.2.1 x hx)) (fun a ha => validExpr_all m a.f4 (by have := cost_memA ha; omega) (h.2.2 a ha).2.2)
set_option maxHeartbeats 4000000 in
set_option maxRecDepth 100000 in
theorem valid_c (e : S33) (hwf : WF e) (w : World) (hg : GG w) {A3 A4 A5 : Option Addr} {c3 c4 c5 : Nat} (h3 : Kd.C Kd.string w A3 e.f3.length e.f3) (m3 : e.f3.length ≤ c3) (h4 : Kd.C k33 w A4 e.f4.length e.f4) (m4 : e.f4.length ≤ c4) (h5 : Kd.C k40 w A5 e.f5.length e.f5) (m5 : e.f5.length ≤ c5) :
  Calls Tryd.prog 14 #[.agg #[.int .i64 e.f0, .string e.f1, .int .i64 e.f2, .slice A3 e.f3.length c3, .slice A4 e.f4.length c4, .slice A5 e.f5.length c5]] w fun r w' => ∃ b : Bool, r = .returned (.bool b) ∧ Below w.heap.size w w' := by
 obtain ⟨W0, hW0⟩ : ∃ W0, w.alloc (.cells #[.int .i64 e.f0, .string e.f1, .int .i64 e.f2, .slice A3 e.f3.length c3, .slice A4 e.f4.length c4, .slice A5 e.f5.length c5] 33) = W0 := ⟨_, rfl⟩
 have hB0 : Aside0 (Below w.heap.size w W0) := ⟨by rw [← hW0]; exact below_alloc (Below.refl _ _) _⟩
 have hbx : Aside0 (W0.heap[w.heap.size]? = some (.cells #[.int .i64 e.f0, .string e.f1, .int .i64 e.f2, .slice A3 e.f3.length c3, .slice A4 e.f4.length c4, .slice A5 e.f5.length c5] 33 (0, 0))) := ⟨by rw [← hW0]; exact blk_new w _⟩
 have CV := (validExpr_all (cost e) e (Nat.le_refl _) hwf).at W0 (Kd.C_below h3 hB0.out) m3 (Kd.C_below h4 hB0.out) m4 (Kd.C_below h5 hB0.out) m5
 have k0 := (blk_cell hbx.out 0).trans rfl
 have k1 := (blk_cell hbx.out 1).trans rfl
 have k2 := (blk_cell hbx.out 2).trans rfl
 have k3 := (blk_cell hbx.out 3).trans rfl
 have k4 := (blk_cell hbx.out 4).trans rfl
 have k5 := (blk_cell hbx.out 5).trans rfl
 by_cases hs : Shp e
 ·have XE := exprNode_all (cost e) e (Nat.le_refl _) hwf hs
  have CN : ∀ W, Below W0.heap.size W0 W → _ := fun W hb => XE.at W (GG.below hg (hB0.out.trans (hb.mono hB0.out.size))) (c3 := c3) (c4 := c4) (c5 := c5) (Kd.C_below (Kd.C_below h3 hB0.out) hb) (Kd.C_below (Kd.C_below h4 hB0.out) hb) (Kd.C_below (Kd.C_below h5 hB0.out) hb)
  obtain ⟨f0, f1, f2, f3, f4, f5⟩ := e
  dsimp only at *
  have T1 : True := trivial
  clear XE hs hwf h3 h4 h5 m3 m4 m5
  go_enter Tryd.func14, Tryd.ntmps14
  go_wp2_with (first | (go_at_call 35; (try rw [hW0]); go_loud (with_reducible refine CV.mono ?_); rintro r w2 ⟨v, rfl, _, hb2⟩; have HB2 := Aside0.mk hb2; have CN2 := CN w2 hb2; have j0 := (blk_cell (blk_below hbx.out hb2) 0).trans rfl; have j1 := (blk_cell (blk_below hbx.out hb2) 1).trans rfl; have j2 := (blk_cell (blk_below hbx.out hb2) 2).trans rfl; have j3 := (blk_cell (blk_below hbx.out hb2) 3).trans rfl; have j4 := (blk_cell (blk_below hbx.out hb2) 4).trans rfl; have j5 := (blk_cell (blk_below hbx.out hb2) 5).trans rfl; clear CV CN hb2 k0 k1 k2 k3 k4 k5) | (go_at_call 37; go_loud (with_reducible refine CN2.mono ?_); rintro r w3 ⟨s3, A3', n3', c3', rfl, hc3, hn3, hb3⟩; have HB3 := Aside0.mk (below_step HB2.out hb3); have CD := deep_1 (s := s3) hn3 hc3; have HN := Aside0.mk hn3; have HC := Aside0.mk hc3; clear hb3 CN2 hn3 hc3) | (go_at_call 36; go_loud (with_reducible refine CD.mono ?_); rintro r w4 ⟨v4, rfl, hb4⟩; have HB4 := Aside0.mk (below_step (below_alloc HB3.out _) hb4); clear hb4 CD))
  all_goals go_ret
  all_goals exact ⟨_, rfl, by first | exact hB0.out.trans (HB4.out.mono hB0.out.size) | exact hB0.out.trans (HB2.out.mono hB0.out.size)⟩
 ·obtain ⟨f0, f1, f2, f3, f4, f5⟩ := e
  dsimp only at *
  clear hwf h3 h4 h5 m3 m4 m5
  have hs := Aside0.mk hs
  go_enter Tryd.func14, Tryd.ntmps14
  go_wp2_with (first | (go_at_call 35; (try rw [hW0]); go_loud (with_reducible refine CV.mono ?_); rintro r w2 ⟨v, rfl, hv, hb2⟩; have HB2 := Aside0.mk hb2; have qv : (v == 0) = false := (beq_eq_false_iff_ne.2 (fun h => hs.out (hv h))); clear CV hb2 hv))
  go_ret
  exact ⟨_, rfl, hB0.out.trans (HB2.out.mono hB0.out.size)⟩
theorem isIn_iff2 (l : List ByteArray) (s : ByteArray) : isIn l s = true ↔ s ∈ l := by
 unfold isIn
 rw [List.any_eq_true]
 constructor
 ·rintro ⟨t, ht, h⟩
  obtain rfl := of_decide_eq_true h
  exact ht
 ·exact fun h => ⟨s, h, decide_eq_true rfl⟩
theorem isIn_app (a b : List ByteArray) (s : ByteArray) : isIn (a ++ b) s = (isIn a s || isIn b s) := by unfold isIn; rw [List.any_append]
theorem putL_app (a b o : List ByteArray) : putL (a ++ b) o = putL b (putL a o) := by unfold putL; rw [List.foldl_append]
mutual
/-- The names of the variables that nothing binds, in the order of their places, again and again. -/
def vs : S33 → List ByteArray → List ByteArray
 | ⟨op, nm, _, ns, l, al⟩, B => (if op = 1 ∧ isIn B nm = false then [nm] else []) ++ (vsL l (ns ++ B) ++ vsA al B)
def vsL : List S33 → List ByteArray → List ByteArray
 | [], _ => []
 | e :: l, B => vs e B ++ vsL l B
def vsA : List S40 → List ByteArray → List ByteArray
 | [], _ => []
 | ⟨_, _, _, ns, e⟩ :: l, B => vs e (ns ++ B) ++ vsA l B
end
mutual
theorem fx_vs : ∀ (e : S33) (B o : List ByteArray), fx e B o = putL (vs e B) o
 | ⟨op, nm, _, ns, l, al⟩, B, o => by
  simp only [fx, vs, putL_app, fxL_vs l, fxA_vs al]
  congr 2
  by_cases h : op = 1 ∧ isIn B nm = false
  ·rw [if_pos h]
   show _ = add1 o nm
   unfold add1
   by_cases hi : isIn o nm = true
   ·rw [if_pos hi, if_neg (by rw [hi]; simp)]
   ·rw [if_neg hi, if_pos ⟨h.1, h.2, by simpa using hi⟩]
  ·rw [if_neg h, if_neg (fun h' => h ⟨h'.1, h'.2.1⟩)]
   rfl
theorem fxL_vs : ∀ (l : List S33) (B o : List ByteArray), fxL l B o = putL (vsL l B) o
 | [], B, o => rfl
 | e :: l, B, o => by simp only [fxL, vsL, putL_app, fx_vs e, fxL_vs l]
theorem fxA_vs : ∀ (l : List S40) (B o : List ByteArray), fxA l B o = putL (vsA l B) o
 | [], B, o => rfl
 | ⟨_, _, _, ns, e⟩ :: l, B, o => by simp only [fxA, vsA, putL_app, fx_vs e, fxA_vs l]
end
theorem bool_iff {a b : Bool} (h : a = true ↔ b = true) : a = b := by cases a <;> cases b <;> simp_all
theorem rd_at (l : List ByteArray) (i : Nat) (h : i < l.length) : rdOf ByteArray.empty l (i : Int) = l[i] := by unfold rdOf; rw [Int.toNat_natCast, List.getD_eq_getElem?_getD, List.getElem?_eq_getElem h]; rfl
theorem toList_eq {a b : ByteArray} : a.toList = b.toList ↔ a = b := by
 constructor
 ·intro h
  have h1 : a.data.toList = b.data.toList := by
   have ha : a.toList = a.data.toList := by first | rfl | rw [ByteArray.toList_eq] | simp
   have hb : b.toList = b.data.toList := by first | rfl | rw [ByteArray.toList_eq] | simp
   rw [← ha, ← hb, h]
  exact ByteArray.ext (Array.toList_inj.1 h1)
 ·exact fun h => h ▸ rfl
theorem place_eq (l : List ByteArray) (s : ByteArray) (hl : l.length ≤ 1000000000000) : ∀ (k i : Nat), 0 < k → l.length < k + i → i ≤ l.length → ∃ r, gristmillref_Place.l0 k l s (i : Int) = some r ∧ (0 ≤ r ↔ s ∈ l.drop i)
 | 0, i, h0, h, _ => by omega
 | k + 1, i, h0, h, hi => by
  unfold gristmillref_Place.l0
  by_cases hlt : i < l.length
  ·rw [if_pos (by omega), if_pos (by omega), rd_at l i hlt, List.drop_eq_getElem_cons hlt, List.mem_cons]
   by_cases he : l[i].toList = s.toList
   ·rw [if_pos he]
    exact ⟨_, rfl, fun _ => .inl (toList_eq.1 he).symm, fun _ => by omega⟩
   ·rw [if_neg he, wr1 i (by omega)]
    obtain ⟨r, hr, hm⟩ := place_eq l s hl k (i + 1) (by omega) (by omega) (by omega)
    refine ⟨r, hr, fun h => .inr (hm.1 h), fun h => ?_⟩
    rcases h with rfl | h
    ·exact absurd rfl he
    ·exact hm.2 h
  ·rw [if_neg (by omega), List.drop_of_length_le (by omega)]
   exact ⟨_, rfl, by simp⟩
theorem has_eq (l : List ByteArray) (s : ByteArray) (hl : l.length ≤ 1000000000000) (k : Nat) (hk : l.length < k) : gristmillref_Has.f k l s = some (isIn l s) := by
 obtain ⟨r, hr, hm⟩ := place_eq l s hl k 0 (by omega) (by omega) (by omega)
 unfold gristmillref_Has.f gristmillref_Place.f
 rw [show (0 : Int) = ((0 : Nat) : Int) from rfl, hr]
 rw [List.drop_zero] at hm
 simp only [Option.bind_some, Option.some.injEq]
 apply bool_iff
 rw [isIn_iff2, ← hm]
 simp
theorem once_l0 (l : List ByteArray) (hl : l.length ≤ 1000000000) : ∀ (k i : Nat) (o : List ByteArray), i ≤ l.length → o.length ≤ i → 2 * l.length + 2 ≤ k + i → gristmillref_Once.l0 k l o (i : Int) = some (putL (l.drop i) o)
 | 0, i, o, hi, ho, hk => by omega
 | k + 1, i, o, hi, ho, hk => by
  rw [gristmillref_Once.l0]
  by_cases hlt : i < l.length
  ·rw [if_pos (by omega), if_pos (by omega), rd_at l i hlt, has_eq o _ (by omega) k (by omega), Option.bind_some, wr1 i (by omega), List.drop_eq_getElem_cons hlt]
   have h1 : putL (l[i] :: l.drop (i + 1)) o = putL (l.drop (i + 1)) (add1 o l[i]) := rfl
   rw [h1]
   unfold add1
   by_cases hin : isIn o l[i] = true
   ·rw [if_pos hin, if_pos hin]
    exact once_l0 l hl k (i + 1) o (by omega) (by omega) (by omega)
   ·rw [if_neg hin, if_neg hin, if_pos (by omega)]
    exact once_l0 l hl k (i + 1) _ (by omega) (by simp; omega) (by omega)
  ·rw [if_neg (by omega), List.drop_of_length_le (by omega)]
   rfl
def BL : Nat := 10000000000000
mutual
def RW : S33 → Prop
 | ⟨op, nm, n, ns, l, al⟩ => (Ok1 nm n ns ∧ ns.length ≤ BL ∧ l.length ≤ BL ∧ al.length ≤ BL) ∧ RWL l ∧ RWA al
def RWL : List S33 → Prop
 | [] => True
 | e :: l => RW e ∧ RWL l
def RWA : List S40 → Prop
 | [] => True
 | ⟨_, nm, n, ns, e⟩ :: l => (Ok1 nm n ns ∧ ns.length ≤ BL ∧ RW e) ∧ RWA l
end
theorem rwL_iff : ∀ l : List S33, RWL l ↔ ∀ x ∈ l, RW x
 | [] => by simp [RWL]
 | e :: l => by simp [RWL, rwL_iff l]
theorem rwA_iff : ∀ l : List S40, RWA l ↔ ∀ a ∈ l, Ok1 a.f1 a.f2 a.f3 ∧ a.f3.length ≤ BL ∧ RW a.f4
 | [] => by simp [RWA]
 | ⟨_, _, _, _, e⟩ :: l => by simp [RWA, rwA_iff l]
theorem rw_iff (e : S33) : RW e ↔ (Ok1 e.f1 e.f2 e.f3 ∧ e.f3.length ≤ BL ∧ e.f4.length ≤ BL ∧ e.f5.length ≤ BL) ∧ (∀ x ∈ e.f4, RW x) ∧ ∀ a ∈ e.f5, Ok1 a.f1 a.f2 a.f3 ∧ a.f3.length ≤ BL ∧ RW a.f4 := by
 obtain ⟨f0, f1, f2, f3, f4, f5⟩ := e
 simp only [RW, rwL_iff, rwA_iff]
mutual
/-- How many parts. -/
def cn : S33 → Nat
 | ⟨_, _, _, ns, l, al⟩ => 1 + ns.length + cnL l + cnA al
def cnL : List S33 → Nat
 | [] => 0
 | e :: l => cn e + cnL l
def cnA : List S40 → Nat
 | [] => 0
 | ⟨_, _, _, ns, e⟩ :: l => 1 + ns.length + cn e + cnA l
end
mutual
def fu : S33 → Nat
 | ⟨_, _, _, ns, l, al⟩ => 12 + ns.length + fuL l + fuA al
def fuL : List S33 → Nat
 | [] => 0
 | e :: l => fu e + 1 + fuL l
def fuA : List S40 → Nat
 | [] => 0
 | ⟨_, _, _, _, e⟩ :: l => fu e + 1 + fuA l
end
theorem cn_eq (e : S33) : cn e = 1 + e.f3.length + cnL e.f4 + cnA e.f5 := by cases e; simp only [cn]
theorem fu_eq (e : S33) : fu e = 12 + e.f3.length + fuL e.f4 + fuA e.f5 := by cases e; simp only [fu]
theorem cnA_cons (a : S40) (l : List S40) : cnA (a :: l) = 1 + a.f3.length + cn a.f4 + cnA l := by cases a; simp only [cnA]
theorem fuA_cons (a : S40) (l : List S40) : fuA (a :: l) = fu a.f4 + 1 + fuA l := by cases a; simp only [fuA]
theorem cnL_drop {l : List S33} {i : Nat} (h : i < l.length) : cnL (l.drop i) = cn l[i] + cnL (l.drop (i + 1)) := by rw [List.drop_eq_getElem_cons h]; simp only [cnL]
theorem fuL_drop {l : List S33} {i : Nat} (h : i < l.length) : fuL (l.drop i) = fu l[i] + 1 + fuL (l.drop (i + 1)) := by rw [List.drop_eq_getElem_cons h]; simp only [fuL]
theorem cnA_drop {l : List S40} {i : Nat} (h : i < l.length) : cnA (l.drop i) = 1 + l[i].f3.length + cn l[i].f4 + cnA (l.drop (i + 1)) := by rw [List.drop_eq_getElem_cons h, cnA_cons]
theorem fuA_drop {l : List S40} {i : Nat} (h : i < l.length) : fuA (l.drop i) = fu l[i].f4 + 1 + fuA (l.drop (i + 1)) := by rw [List.drop_eq_getElem_cons h, fuA_cons]
theorem rd33 (l : List S33) (i : Nat) (h : i < l.length) : rd_T33 l (i : Int) = l[i] := by unfold rd_T33; rw [Int.toNat_natCast, List.getD_eq_getElem?_getD, List.getElem?_eq_getElem h]; rfl
theorem rd40 (l : List S40) (i : Nat) (h : i < l.length) : rd_T40 l (i : Int) = l[i] := by unfold rd_T40; rw [Int.toNat_natCast, List.getD_eq_getElem?_getD, List.getElem?_eq_getElem h]; rfl
def EX (k : Nat) (e : S33) : Prop := ∀ (left deep : Int), -100000000000000 ≤ left → left ≤ 1000 → 0 ≤ deep → deep ≤ 31 → ∃ r, gristmillmake_expr.f k e.f0 e.f1 e.f2 e.f3 e.f4 e.f5 left deep = some r ∧ (0 ≤ r → r + cn e ≤ left) ∧ -200000000000000 ≤ r ∧ r ≤ 1000
theorem ex_l2 (e : S33) (hl : e.f5.length ≤ BL) (ha : ∀ a ∈ e.f5, a.f3.length ≤ BL) (ih : ∀ a ∈ e.f5, ∀ k, fu a.f4 ≤ k → EX k a.f4) (deep : Int) (hd0 : 0 ≤ deep) (hd : deep ≤ 30) : ∀ (k i : Nat) (x : Int), i ≤ e.f5.length → -200000000000000 ≤ x → x ≤ 1000 → fuA (e.f5.drop i) + 1 ≤ k →
  ∃ r, gristmillmake_expr.l2 k x deep (i : Int) e.f0 e.f1 e.f2 e.f3 e.f4 e.f5 = some r ∧ (0 ≤ r → r + cnA (e.f5.drop i) ≤ x) ∧ -200000000000000 ≤ r ∧ r ≤ 1000
 | 0, i, x, hi, h1, h2, hk => by omega
 | k + 1, i, x, hi, h1, h2, hk => by
  rw [gristmillmake_expr.l2]
  by_cases hlt : i < e.f5.length
  ·rw [if_pos (by omega)]
   by_cases hx : x ≥ 0
   ·rw [if_pos hx, if_pos (by omega), rd40 _ i hlt]
    have hf := fuA_drop hlt
    have hc := cnA_drop hlt
    have hal := ha _ (List.getElem_mem hlt)
    have hw1 : wrap64 ((wrap64 (x - 1)) - (e.f5[i].f3.length : Int)) = x - 1 - (e.f5[i].f3.length : Int) := by unfold BL at hal; unfold wrap64; omega
    have hw2 : wrap64 (deep + 1) = deep + 1 := by unfold wrap64; omega
    unfold BL at hal hl
    obtain ⟨r, hr, hc1, hl1, hu1⟩ := ih _ (List.getElem_mem hlt) k (by omega) (x - 1 - (e.f5[i].f3.length : Int)) (deep + 1) (by omega) (by omega) (by omega) (by omega)
    rw [hw1, hw2, hr, Option.bind_some, wr1 i (by omega)]
    obtain ⟨q, hq, hc2, hl2, hu2⟩ := ex_l2 e hl ha ih deep hd0 hd k (i + 1) r (by omega) (by omega) hu1 (by omega)
    refine ⟨q, hq, fun h => ?_, hl2, hu2⟩
    have h3 := hc2 h
    have h4 := hc1 (by omega)
    omega
   ·rw [if_neg hx]
    exact ⟨x, rfl, fun h => absurd h (by omega), h1, h2⟩
  ·rw [if_neg (by omega), List.drop_of_length_le (by omega)]
   exact ⟨x, rfl, fun h => by simp only [cnA]; omega, h1, h2⟩
theorem ex_l1 (e : S33) (hl4 : e.f4.length ≤ BL) (hl : e.f5.length ≤ BL) (ha : ∀ a ∈ e.f5, a.f3.length ≤ BL) (ihx : ∀ y ∈ e.f4, ∀ k, fu y ≤ k → EX k y) (ih : ∀ a ∈ e.f5, ∀ k, fu a.f4 ≤ k → EX k a.f4) (deep : Int) (hd0 : 0 ≤ deep) (hd : deep ≤ 30) : ∀ (k i : Nat) (x : Int), i ≤ e.f4.length → -200000000000000 ≤ x → x ≤ 1000 → fuL (e.f4.drop i) + fuA e.f5 + 4 ≤ k →
  ∃ r, gristmillmake_expr.l1 k x deep (i : Int) e.f0 e.f1 e.f2 e.f3 e.f4 e.f5 = some r ∧ (0 ≤ r → r + cnL (e.f4.drop i) + cnA e.f5 ≤ x) ∧ -200000000000000 ≤ r ∧ r ≤ 1000
 | 0, i, x, hi, h1, h2, hk => by omega
 | k + 1, i, x, hi, h1, h2, hk => by
  have hend : ∀ q, fuA e.f5 + 2 ≤ q → ∃ r, gristmillmake_expr.j3 q x deep e.f0 e.f1 e.f2 e.f3 e.f4 e.f5 = some r ∧ (0 ≤ r → r + cnA e.f5 ≤ x) ∧ -200000000000000 ≤ r ∧ r ≤ 1000 := by
   intro q hq
   obtain ⟨q, rfl⟩ : ∃ p, q = p + 1 := ⟨q - 1, by omega⟩
   rw [gristmillmake_expr.j3]
   have := ex_l2 e hl ha ih deep hd0 hd q 0 x (by omega) h1 h2 (by rw [List.drop_zero]; omega)
   rwa [List.drop_zero] at this
  rw [gristmillmake_expr.l1]
  by_cases hlt : i < e.f4.length
  ·rw [if_pos (by omega)]
   by_cases hx : x ≥ 0
   ·rw [if_pos hx, if_pos (by omega), rd33 _ i hlt]
    have hf := fuL_drop hlt
    have hc := cnL_drop hlt
    have hw2 : wrap64 (deep + 1) = deep + 1 := by unfold wrap64; omega
    unfold BL at hl4
    obtain ⟨r, hr, hc1, hl1, hu1⟩ := ihx _ (List.getElem_mem hlt) k (by omega) x (deep + 1) (by omega) (by omega) (by omega) (by omega)
    rw [hw2, hr, Option.bind_some, wr1 i (by omega)]
    obtain ⟨q, hq, hc2, hl2, hu2⟩ := ex_l1 e hl4 hl ha ihx ih deep hd0 hd k (i + 1) r (by omega) (by omega) hu1 (by omega)
    refine ⟨q, hq, fun h => ?_, hl2, hu2⟩
    have h3 := hc2 h
    have h4 := hc1 (by omega)
    omega
   ·rw [if_neg hx]
    obtain ⟨r, hr, hc, hlo, hhi⟩ := hend k (by omega)
    exact ⟨r, hr, fun h => by have := hc h; omega, hlo, hhi⟩
  ·rw [if_neg (by omega), List.drop_of_length_le (by omega)]
   obtain ⟨r, hr, hc, hlo, hhi⟩ := hend k (by omega)
   exact ⟨r, hr, fun h => by simp only [cnL]; have := hc h; omega, hlo, hhi⟩
theorem ex_l0 (e : S33) (hl3 : e.f3.length ≤ BL) (hl4 : e.f4.length ≤ BL) (hl : e.f5.length ≤ BL) (ha : ∀ a ∈ e.f5, a.f3.length ≤ BL) (ihx : ∀ y ∈ e.f4, ∀ k, fu y ≤ k → EX k y) (ih : ∀ a ∈ e.f5, ∀ k, fu a.f4 ≤ k → EX k a.f4) (deep : Int) (hd0 : 0 ≤ deep) (hd : deep ≤ 30) (x : Int) (h1 : -200000000000000 ≤ x) (h2 : x ≤ 1000) : ∀ (k i : Nat), i ≤ e.f3.length → (e.f3.length - i) + fuL e.f4 + fuA e.f5 + 6 ≤ k →
  ∃ r, gristmillmake_expr.l0 k x deep (i : Int) e.f0 e.f1 e.f2 e.f3 e.f4 e.f5 = some r ∧ (0 ≤ r → r + cnL e.f4 + cnA e.f5 ≤ x) ∧ -200000000000000 ≤ r ∧ r ≤ 1000
 | 0, i, hi, hk => by omega
 | k + 1, i, hi, hk => by
  rw [gristmillmake_expr.l0]
  by_cases hlt : i < e.f3.length
  ·rw [if_pos (by omega), if_pos (by omega)]
   split
   ·exact ⟨-1, rfl, fun h => absurd h (by decide), by decide, by decide⟩
   ·unfold BL at hl3
    rw [wr1 i (by omega)]
    exact ex_l0 e hl3 hl4 hl ha ihx ih deep hd0 hd x h1 h2 k (i + 1) (by omega) (by omega)
  ·rw [if_neg (by omega)]
   have := ex_l1 e hl4 hl ha ihx ih deep hd0 hd k 0 x (by omega) h1 h2 (by rw [List.drop_zero]; omega)
   rwa [List.drop_zero] at this
theorem ex_all : ∀ (m : Nat) (e : S33), cost e ≤ m → RW e → ∀ k, fu e ≤ k → EX k e
 | 0, e, hc, _, k, hk => by have := cost_eq e; omega
 | m + 1, e, hc, hw, k, hk => by
  obtain ⟨⟨_, n3, n4, n5⟩, wl, wa⟩ := (rw_iff e).1 hw
  have ihx : ∀ y ∈ e.f4, ∀ k, fu y ≤ k → EX k y := fun y hy => ex_all m y (by have := cost_mem hy; omega) (wl y hy)
  have ih : ∀ a ∈ e.f5, ∀ k, fu a.f4 ≤ k → EX k a.f4 := fun a ha => ex_all m a.f4 (by have := cost_memA ha; omega) (wa a ha).2.2
  intro left deep h1 h2 hd0 hd
  have hf := fu_eq e
  have hcn := cn_eq e
  obtain ⟨k, rfl⟩ : ∃ j, k = j + 2 := ⟨k - 2, by omega⟩
  have hw1 : wrap64 ((wrap64 (left - 1)) - (e.f3.length : Int)) = left - 1 - (e.f3.length : Int) := by unfold BL at n3; unfold wrap64; omega
  rw [gristmillmake_expr.f, hw1]
  have hj : ∀ x, ∃ r, gristmillmake_expr.j0 (k + 1) x deep true e.f0 e.f1 e.f2 e.f3 e.f4 e.f5 = some r ∧ (0 ≤ r → r + cn e ≤ left) ∧ -200000000000000 ≤ r ∧ r ≤ 1000 := by
   intro x
   rw [gristmillmake_expr.j0, if_pos rfl]
   exact ⟨-1, rfl, fun h => absurd h (by decide), by decide, by decide⟩
  by_cases hdd : deep > 30
  ·rw [if_pos hdd]; exact hj _
  ·rw [if_neg hdd]
   by_cases hx : left - 1 - (e.f3.length : Int) < 0
   ·rw [if_pos hx]; exact hj _
   ·rw [if_neg hx]
    cases hb : decide ((e.f1.size : Int) > 60) with
    | true => exact hj _
    | false =>
     rw [gristmillmake_expr.j0, if_neg (by decide)]
     obtain ⟨r, hr, hc1, hl1, hu1⟩ := ex_l0 e n3 n4 n5 (fun a ha => (wa a ha).2.1) ihx ih deep hd0 (by omega) (left - 1 - (e.f3.length : Int)) (by omega) (by omega) k 0 (by omega) (by omega)
     exact ⟨r, hr, fun h => by have := hc1 h; omega, hl1, hu1⟩
theorem len_cnL : ∀ l : List S33, l.length ≤ cnL l
 | [] => by simp
 | e :: l => by simp only [cnL, List.length_cons]; have := cn_eq e; have := len_cnL l; omega
theorem len_cnA : ∀ l : List S40, l.length ≤ cnA l
 | [] => by simp
 | a :: l => by rw [cnA_cons, List.length_cons]; have := len_cnA l; omega
theorem cn_mem : ∀ {l : List S33} {x : S33}, x ∈ l → cn x ≤ cnL l
 | _ :: l, x, h => by
  simp only [cnL]
  rcases List.mem_cons.1 h with rfl | h
  ·omega
  ·have := cn_mem h; omega
theorem cn_memA : ∀ {l : List S40} {a : S40}, a ∈ l → a.f3.length + cn a.f4 ≤ cnA l
 | b :: l, a, h => by
  rw [cnA_cons]
  rcases List.mem_cons.1 h with rfl | h
  ·omega
  ·have := cn_memA h; omega
theorem wf_of : ∀ (m : Nat) (e : S33), cost e ≤ m → RW e → cn e ≤ 100000000000 → WF e
 | 0, e, hc, _, _ => by have := cost_eq e; omega
 | m + 1, e, hc, hw, hn => by
  obtain ⟨⟨o1, n3, n4, n5⟩, wl, wa⟩ := (rw_iff e).1 hw
  have hcn := cn_eq e
  have h4 := len_cnL e.f4
  have h5 := len_cnA e.f5
  exact (wf_iff e).2 ⟨⟨o1, by omega, by omega, by omega⟩, fun x hx => wf_of m x (by have := cost_mem hx; omega) (wl x hx) (by have := cn_mem hx; omega), fun a ha => ⟨(wa a ha).1, by have := cn_memA ha; omega, wf_of m a.f4 (by have := cost_memA ha; omega) (wa a ha).2.2 (by have := cn_memA ha; omega)⟩⟩
mutual
theorem cost_cn : ∀ e : S33, cost e ≤ 2 * cn e
 | ⟨_, _, _, ns, l, al⟩ => by
  simp only [cost, cn]
  have h1 := costL_cn l
  have h2 := costA_cn al
  omega
theorem costL_cn : ∀ l : List S33, costL l ≤ 2 * cnL l
 | [] => by simp [costL]
 | e :: l => by
  simp only [costL, cnL]
  have h1 := cost_cn e
  have h2 := costL_cn l
  omega
theorem costA_cn : ∀ l : List S40, costA l ≤ 2 * cnA l
 | [] => by simp [costA]
 | ⟨_, _, _, ns, e⟩ :: l => by
  simp only [costA, cnA]
  have h1 := cost_cn e
  have h2 := costA_cn l
  omega
end
theorem nsz_of {ns : List ByteArray} (h : small ns B47) : nsz ns = true := by
 unfold nsz
 rw [List.all_eq_true]
 exact fun s hs => decide_eq_true (h s hs)
mutual
theorem okE_of : ∀ e : S33, RW e → okE e = true
 | ⟨op, nm, n, ns, l, al⟩, h => by
  simp only [RW] at h
  simp only [okE, Bool.and_eq_true, decide_eq_true_eq]
  exact ⟨⟨⟨h.1.1.1, nsz_of h.1.1.2.2.2⟩, okL_of l h.2.1⟩, okA_of al h.2.2⟩
theorem okL_of : ∀ l : List S33, RWL l → okL l = true
 | [], _ => by simp [okL]
 | e :: l, h => by
  simp only [RWL] at h
  simp only [okL, Bool.and_eq_true]
  exact ⟨okE_of e h.1, okL_of l h.2⟩
theorem okA_of : ∀ l : List S40, RWA l → okA l = true
 | [], _ => by simp [okA]
 | ⟨_, nm, n, ns, e⟩ :: l, h => by
  simp only [RWA] at h
  simp only [okA, Bool.and_eq_true]
  exact ⟨⟨nsz_of h.1.1.2.2.2, okE_of e h.1.2.2⟩, okA_of l h.2⟩
end
theorem small_tot (e : S33) (hw : RW e) (most : Int) (h0 : 0 ≤ most) (h1 : most ≤ 1000) : ∃ b, gristmillmake_Expr.f (fu e) e.f0 e.f1 e.f2 e.f3 e.f4 e.f5 most = some b ∧ (b = true → (cn e : Int) ≤ most) := by
 obtain ⟨r, hr, hc, _, _⟩ := ex_all (cost e) e (Nat.le_refl _) hw (fu e) (Nat.le_refl _) most 0 (by omega) h1 (Int.le_refl _) (by decide)
 unfold gristmillmake_Expr.f
 rw [hr]
 exact ⟨_, rfl, fun h => by have h2 : 0 ≤ r := (by simpa using h); have := hc h2; omega⟩
theorem names_g (e : S33) (hok : okE e = true) (hc : cost e ≤ 100000000000) {f0 f2 : Int} {f1 : ByteArray} {n3 n4 n5 m : Nat} {r : List ByteArray} (h0 : e.f0 = f0) (h1 : e.f1 = f1) (h2 : e.f2 = f2) (hn3 : e.f3.length = n3) (hn4 : e.f4.length = n4) (hn5 : e.f5.length = n5) (hr : fx e [] [] = r) (hm : r.length = m) (w : World) {A3 A4 A5 : Option Addr} {c3 c4 c5 : Nat} (h3 : Kd.C Kd.string w A3 n3 e.f3) (h4 : Kd.C k33 w A4 n4 e.f4) (h5 : Kd.C k40 w A5 n5 e.f5) :
  Calls Tryd.prog 15 #[.agg #[.int .i64 f0, .string f1, .int .i64 f2, .slice A3 n3 c3, .slice A4 n4 c4, .slice A5 n5 c5]] w fun x w' => ∃ A c, x = .returned (.slice A m c) ∧ m ≤ c ∧ Kd.C Kd.string w' A m r ∧ Below w.heap.size w w' := by
 subst h0 h1 h2 hn3 hn4 hn5 hr hm
 refine (names_calls e w hok hc h3 h4 h5).mono ?_
 rintro x w' ⟨v, rfl, hR, hb⟩
 obtain ⟨A, c, rfl⟩ := Kd.R_slice hR
 exact ⟨A, c, rfl, (Kd.R_reads' hR).2.1, (Kd.R_reads' hR).2.2, hb⟩
theorem has_g (l : List ByteArray) (hl : l.length ≤ 1000000000) {n : Nat} (hn : l.length = n) (s : ByteArray) {b : Bool} (hb : isIn l s = b) (w : World) {A : Option Addr} {c : Nat} (hC : Kd.C Kd.string w A n l) (hc : n ≤ c) :
  Calls Tryd.prog 12 #[.slice A n c, .string s] w fun x w' => x = .returned (.bool b) ∧ Below w.heap.size w w' := by
 subst hn hb
 exact (gristmillref_Has.calls (l.length + 1) A c l s _ w hC hc (has_eq l s (by omega) _ (Nat.lt_succ_self _))).mono fun x w' h => ⟨h.1, h.2.below⟩
theorem same_l0 (l : List ByteArray) (hl : l.length ≤ 1000000000) : ∀ (k i : Nat), i ≤ l.length → l.length < k + i → PFreeS.gristmillref_SameTexts.l0 k l l (i : Int) = some true
 | 0, i, hi, hk => by omega
 | k + 1, i, hi, hk => by
  rw [PFreeS.gristmillref_SameTexts.l0]
  by_cases hlt : i < l.length
  ·rw [if_pos (by omega), if_pos (by omega), if_pos (by omega), if_pos rfl, wr1 i (by omega)]
   exact same_l0 l hl k (i + 1) (by omega) (by omega)
  ·rw [if_neg (by omega)]
theorem same_g (l : List ByteArray) (hl : l.length ≤ 1000000000) {n : Nat} (hn : l.length = n) (w : World) {A B : Option Addr} {c d : Nat} (hA : Kd.C Kd.string w A n l) (hc : n ≤ c) (hB : Kd.C Kd.string w B n l) (hd : n ≤ d) :
  Calls Tryd.prog 17 #[.slice A n c, .slice B n d] w fun x w' => x = .returned (.bool true) ∧ Below w.heap.size w w' := by
 subst hn
 refine (PFreeS.gristmillref_SameTexts.calls (l.length + 1) A c l B d l true w hA hc hB hd ?_).mono fun x w' h => ⟨h.1, h.2.below⟩
 unfold PFreeS.gristmillref_SameTexts.f
 rw [if_pos rfl]
 exact same_l0 l hl _ 0 (by omega) (by omega)
theorem inf9' : (Tryd.prog.info? 9).map (fun i => (i.zero, i.size, i.bytes)) = some (some (.string ⟨#[]⟩), 1, 16) := by kernel_rfl
structure In (w : World) (e : S33) (A3 A4 A5 : Option Addr) (c3 c4 c5 : Nat) : Prop where
 h3 : Kd.C Kd.string w A3 e.f3.length e.f3
 m3 : e.f3.length ≤ c3
 h4 : Kd.C k33 w A4 e.f4.length e.f4
 m4 : e.f4.length ≤ c4
 h5 : Kd.C k40 w A5 e.f5.length e.f5
 m5 : e.f5.length ≤ c5
theorem In.below {w w1 : World} {e : S33} {A3 A4 A5 : Option Addr} {c3 c4 c5 : Nat} (h : In w e A3 A4 A5 c3 c4 c5) (hb : Below w.heap.size w w1) : In w1 e A3 A4 A5 c3 c4 c5 := ⟨Kd.C_below h.h3 hb, h.m3, Kd.C_below h.h4 hb, h.m4, Kd.C_below h.h5 hb, h.m5⟩
theorem In.K {w : World} {e : S33} {A3 A4 A5 : Option Addr} {c3 c4 c5 : Nat} (h : In w e A3 A4 A5 c3 c4 c5) : k33.K w e [.int .i64 e.f0, .string e.f1, .int .i64 e.f2, .slice A3 e.f3.length c3, .slice A4 e.f4.length c4, .slice A5 e.f5.length c5] := k33_mk w e h.m3 h.h3 h.m4 h.h4 h.m5 h.h5
end Go.Proofs.YtmoeekidmkhkoaaDoor.FreeA
