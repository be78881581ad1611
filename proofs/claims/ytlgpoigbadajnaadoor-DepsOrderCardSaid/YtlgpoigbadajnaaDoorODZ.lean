/- Texts of the walks put together: DepAE, DepAF, DepAG, DepAH, DepAI, DepAJ, DepAK, DepAL, DepAM. Conditions: as each states. -/
import Derived.Test.YtlgpoigbadajnaaDoorOPX
import Derived.Test.YtlgpoigbadajnaaDoorODY
import Derived.Test.YtlgpoigbadajnaaDoorODA
import Derived.Test.YtlgpoigbadajnaaDoorOPDepAx6
import Derived.Test.YtlgpoigbadajnaaDoorOPDepAx13
import Derived.Test.YtlgpoigbadajnaaDoorOPDepAx3
namespace Go.Proofs.YtlgpoigbadajnaaDoor.DepA.Z
open Go.RowKit Go.Proofs.YtlgpoigbadajnaaDoorW.PrintWords Go.Proofs.YtlgpoigbadajnaaDoorW.PrintLast Go.Proofs.YtlgpoigbadajnaaDoorW.PrintMore Go.Proofs.YtlgpoigbadajnaaDoor.PDepA
set_option linter.unusedVariables false
set_option linter.unusedSimpArgs false
theorem wr1 (i : Nat) (h : i ≤ 1000000000000000) : wrap64 ((i : Int) + 1) = ((i + 1 : Nat) : Int) := by unfold wrap64; omega
theorem tail_tot (s : ByteArray) (hs : s.size ≤ 140737488355328) : ∀ (k i : Nat), 0 < k → s.size < k + i → ∃ r, Qm.l0 k s (i : Int) = some r
 | 0, i, h0, h => by omega
 | k + 1, i, h0, h => by
  unfold Qm.l0
  by_cases hi : (i : Int) < (s.size : Int)
  ·obtain ⟨r, hr⟩ := tail_tot s hs k (i + 1) (by omega) (by omega)
   rw [wr1 i (by omega), if_pos hi, if_pos (by omega), hr]
   repeat' split
   all_goals exact ⟨_, rfl⟩
  ·rw [if_neg hi]
   exact ⟨_, rfl⟩
theorem tailf_tot (s : ByteArray) (hs : s.size ≤ 140737488355328) (k : Nat) (hk : s.size < k) : ∃ r, Qm.f k s = some r := tail_tot s hs k 1 (by omega) (by omega)
theorem place_tot (l : List ByteArray) (s : ByteArray) (hl : l.length ≤ 1000000000000) : ∀ (k i : Nat), 0 < k → l.length < k + i → ∃ r, Q8.l0 k l s (i : Int) = some r
 | 0, i, h0, h => by omega
 | k + 1, i, h0, h => by
  unfold Q8.l0
  by_cases hi : (i : Int) < (l.length : Int)
  ·obtain ⟨r, hr⟩ := place_tot l s hl k (i + 1) (by omega) (by omega)
   rw [wr1 i (by omega), if_pos hi, if_pos (by omega), hr]
   split
   all_goals exact ⟨_, rfl⟩
  ·rw [if_neg hi]
   exact ⟨_, rfl⟩
theorem has_tot (l : List ByteArray) (s : ByteArray) (hl : l.length ≤ 1000000000000) (k : Nat) (hk : l.length < k) : ∃ r, Q3.f k l s = some r := by
 obtain ⟨r, hr⟩ := place_tot l s hl k 0 (by omega) (by omega)
 unfold Q3.f Q8.f
 rw [show (0 : Int) = ((0 : Nat) : Int) from rfl, hr]
 exact ⟨_, rfl⟩
theorem bind_ex {α β : Type} {o : Option α} {f : α → Option β} (h : ∃ q, o = some q) (hf : ∀ q, ∃ r, f q = some r) : ∃ r, o.bind f = some r := by
 obtain ⟨q, rfl⟩ := h
 exact hf q
theorem ite_ex {α : Type} {c : Prop} [Decidable c] {x y : Option α} (h1 : ∃ r, x = some r) (h2 : ∃ r, y = some r) : ∃ r, (if c then x else y) = some r := by
 split
 ·exact h1
 ·exact h2
theorem has_small (s : ByteArray) (k : Nat) (hk : 100 < k) (l : List ByteArray) (hl : l.length ≤ 100) : ∃ r, Q3.f k l s = some r := has_tot l s (by omega) k (by omega)
theorem size_pos (s : ByteArray) (h0 : ¬ s.toList = ([] : List UInt8)) : 0 < (s.size : Int) := by
 have h1 : s.size ≠ 0 := fun e => h0 (by
  have h2 : s.data.toList = [] := List.eq_nil_of_length_eq_zero (by rw [Array.length_toList]; exact e)
  rw [ByteArray.toList_eq] <;> first | exact h2 | skip)
 omega
theorem name_tot (s : ByteArray) (hs : s.size ≤ 140737488355328) (k : Nat) (hk : s.size + 100 < k) : ∃ r, QD.f k s = some r := by
 obtain ⟨r, hr⟩ := tailf_tot s hs k (by omega)
 unfold QD.f
 by_cases h0 : s.toList = ([] : List UInt8)
 ·rw [if_pos h0]; exact ⟨_, rfl⟩
 ·have hp := size_pos s h0
  rw [if_neg h0, if_pos hp, hr]
  split
  ·split
   ·simp only [Option.bind_some]
    split
    ·exact bind_ex (has_small s k (by omega) _ (by decide)) (fun q => ⟨_, rfl⟩)
    ·exact ⟨_, rfl⟩
   ·exact ⟨_, rfl⟩
  ·exact ⟨_, rfl⟩
theorem upper_tot (s : ByteArray) (hs : s.size ≤ 140737488355328) (k : Nat) (hk : s.size + 100 < k) : ∃ r, QN.f k s = some r := by
 obtain ⟨r, hr⟩ := tailf_tot s hs k (by omega)
 unfold QN.f
 by_cases h0 : s.toList = ([] : List UInt8)
 ·rw [if_pos h0]; exact ⟨_, rfl⟩
 ·rw [if_neg h0, if_pos (size_pos s h0), hr]
  repeat' split
  all_goals exact ⟨_, rfl⟩
def small (l : List ByteArray) (m : Nat) : Prop := ∀ s ∈ l, s.size ≤ m
theorem names_tot (l : List ByteArray) (hl : l.length ≤ 1000000000000) (m : Nat) (hm : m ≤ 140737488355328) (hs : small l m) : ∀ (k i : Nat), 0 < k → l.length + m + 200 < k + i → ∃ r, Q9.l0 k l (i : Int) = some r
 | 0, i, h0, h => by omega
 | k + 1, i, h0, h => by
  unfold Q9.l0
  by_cases hi : (i : Int) < (l.length : Int)
  ·obtain ⟨r, hr⟩ := names_tot l hl m hm hs k (i + 1) (by omega) (by omega)
   rw [wr1 i (by omega), if_pos hi, if_pos (by omega), hr]
   refine bind_ex (name_tot _ ?_ k ?_) (fun q => ?_)
   ·have := hs (rdOf ByteArray.empty l (i : Int)) (by unfold rdOf; rw [Int.toNat_natCast, List.getD_eq_getElem?_getD, List.getElem?_eq_getElem (by omega)]; exact List.getElem_mem _)
    omega
   ·have := hs (rdOf ByteArray.empty l (i : Int)) (by unfold rdOf; rw [Int.toNat_natCast, List.getD_eq_getElem?_getD, List.getElem?_eq_getElem (by omega)]; exact List.getElem_mem _)
    omega
   ·split
    all_goals exact ⟨_, rfl⟩
  ·rw [if_neg hi]
   split
   all_goals exact ⟨_, rfl⟩
theorem namesf_tot (l : List ByteArray) (hl : l.length ≤ 1000000000000) (m : Nat) (hm : m ≤ 140737488355328) (hs : small l m) (k : Nat) (hk : l.length + m + 200 < k) : ∃ r, Q9.f k l = some r := names_tot l hl m hm hs k 0 (by omega) (by omega)
theorem arity_tot (s : ByteArray) (k : Nat) (hk : 200 < k) : ∃ r, QA.f k s = some r := by
 obtain ⟨k, rfl⟩ : ∃ j, k = j + 1 := ⟨k - 1, by omega⟩
 have h : ∀ b, ∃ r, QA.j0 (k + 1) s b = some r := by
  intro b
  rw [QA.j0]
  split
  ·exact ⟨_, rfl⟩
  ·unfold QX.f
   rw [Option.bind_some]
   refine bind_ex (has_small s k (by omega) _ (by decide)) (fun q => ?_)
   split
   all_goals exact ⟨_, rfl⟩
 unfold QA.f
 split
 all_goals exact h _
theorem takes_tot (a : S88) : ∃ r, Zr.f a.f0 a.f1 a.f2 a.f3 a.f4.f0 a.f4.f1 a.f4.f2 a.f4.f3 a.f4.f4 a.f4.f5 = some r := by
 unfold Zr.f
 repeat' split
 all_goals exact ⟨_, rfl⟩
theorem canon_tot (a : Int) : ∃ r, QO.f a = some r := by
 unfold QO.f
 repeat' split
 all_goals exact ⟨_, rfl⟩
def Loc (op n : Int) (ns : List ByteArray) (l : List S29) (al : List S88) : Prop := (op = 6 → l.length = 1) ∧ (op = 7 → l.length = ns.length + 1) ∧ (op = 8 → l.length = 1) ∧ (op = 1 → n = 0 ∧ ns = [] ∧ l = [] ∧ al = []) ∧ (ns = [] ∨ al = [])
mutual
def Shp : S29 → Prop
 | ⟨op, _, n, ns, l, al⟩ => Loc op n ns l al ∧ ShpL l ∧ ShpA al
def ShpL : List S29 → Prop
 | [] => True
 | e :: l => Shp e ∧ ShpL l
def ShpA : List S88 → Prop
 | [] => True
 | ⟨_, _, _, _, e⟩ :: l => Shp e ∧ ShpA l
end
theorem shpL_iff : ∀ l : List S29, ShpL l ↔ ∀ x ∈ l, Shp x
 | [] => by simp [ShpL]
 | e :: l => by simp [ShpL, shpL_iff l]
theorem shpA_iff : ∀ l : List S88, ShpA l ↔ ∀ a ∈ l, Shp a.f4
 | [] => by simp [ShpA]
 | ⟨_, _, _, _, e⟩ :: l => by simp [ShpA, shpA_iff l]
theorem shp_iff (e : S29) : Shp e ↔ Loc e.f0 e.f2 e.f3 e.f4 e.f5 ∧ (∀ x ∈ e.f4, Shp x) ∧ ∀ a ∈ e.f5, Shp a.f4 := by
 obtain ⟨f0, f1, f2, f3, f4, f5⟩ := e
 simp only [Shp, shpL_iff, shpA_iff]
def Ok1 (nm : ByteArray) (n : Int) (ns : List ByteArray) : Prop := nm.size ≤ B47 ∧ -9223372036854775808 ≤ n ∧ n ≤ 9223372036854775807 ∧ small ns B47
mutual
def WF : S29 → Prop
 | ⟨op, nm, n, ns, l, al⟩ => (Ok1 nm n ns ∧ ns.length ≤ 100000000000 ∧ l.length ≤ 100000000000 ∧ al.length ≤ 100000000000) ∧ WFL l ∧ WFA al
def WFL : List S29 → Prop
 | [] => True
 | e :: l => WF e ∧ WFL l
def WFA : List S88 → Prop
 | [] => True
 | ⟨_, nm, n, ns, e⟩ :: l => (Ok1 nm n ns ∧ ns.length ≤ 100000000000 ∧ WF e) ∧ WFA l
end
theorem wfL_iff : ∀ l : List S29, WFL l ↔ ∀ x ∈ l, WF x
 | [] => by simp [WFL]
 | e :: l => by simp [WFL, wfL_iff l]
theorem wfA_iff : ∀ l : List S88, WFA l ↔ ∀ a ∈ l, Ok1 a.f1 a.f2 a.f3 ∧ a.f3.length ≤ 100000000000 ∧ WF a.f4
 | [] => by simp [WFA]
 | ⟨_, _, _, _, e⟩ :: l => by simp [WFA, wfA_iff l]
theorem wf_iff (e : S29) : WF e ↔ (Ok1 e.f1 e.f2 e.f3 ∧ e.f3.length ≤ 100000000000 ∧ e.f4.length ≤ 100000000000 ∧ e.f5.length ≤ 100000000000) ∧ (∀ x ∈ e.f4, WF x) ∧ ∀ a ∈ e.f5, Ok1 a.f1 a.f2 a.f3 ∧ a.f3.length ≤ 100000000000 ∧ WF a.f4 := by
 obtain ⟨f0, f1, f2, f3, f4, f5⟩ := e
 simp only [WF, wfL_iff, wfA_iff]
theorem cost_mem {e x : S29} (h : x ∈ e.f4) : cost x < cost e := by
 obtain ⟨i, hi, rfl⟩ := List.getElem_of_mem h
 have h1 := costL_le hi
 have h2 := cost_eq e
 omega
theorem cost_memA {e : S29} {a : S88} (h : a ∈ e.f5) : cost a.f4 < cost e := by
 obtain ⟨i, hi, rfl⟩ := List.getElem_of_mem h
 have h1 := costA_le hi
 have h2 := cost_eq e
 omega
theorem eB_eq (e : S29) : eB e = e.f1.size + nmz e.f3 + 100 + eBL e.f4 + aBL e.f5 := by cases e; simp only [eB]
theorem eB_0 {l : List S29} {x : S29} (h : l[0]? = some x) : eB x + 10 ≤ eBL l := by
 have h1 := eBL_take h
 have h2 := eBL_le l 1
 have h3 : eBL (l.take 0) = 0 := by simp [eBL]
 rw [show 0 + 1 = 1 from rfl] at h1
 omega
theorem exprNode_all : ∀ (m : Nat) (e : S29), cost e ≤ m → WF e → Shp e → XN e
 | 0, e, hc, _, _ => by have := cost_eq e; omega
 | m + 1, e, hc, hw, hs => by
  obtain ⟨⟨⟨w1, w2, w3, w4⟩, n3, n4, n5⟩, wl, wa⟩ := (wf_iff e).1 hw
  obtain ⟨⟨l6, l7, l8, _⟩, sl, sa⟩ := (shp_iff e).1 hs
  have ih : ∀ x ∈ e.f4, XN x := fun x hx => exprNode_all m x (by have := cost_mem hx; omega) (wl x hx) (sl x hx)
  have iha : ∀ a ∈ e.f5, XN a.f4 := fun a ha => exprNode_all m a.f4 (by have := cost_memA ha; omega) (wa a ha).2.2 (sa a ha)
  intro w hg A3 A4 A5 c3 c4 c5 h3 h4 h5
  have hB := eB_eq e
  by_cases o1 : e.f0 = 1
  ·rw [o1]; exact (exprNode_var e.f1 e.f2 w hg).mono fun r w' h => h.mono (by omega)
  by_cases o2 : e.f0 = 2
  ·rw [o2]; exact (exprNode_int e.f1 e.f2 w hg w2 w3).mono fun r w' h => h.mono (by omega)
  by_cases o3 : e.f0 = 3
  ·rw [o3]; exact (exprNode_flo e.f1 e.f2 w hg).mono fun r w' h => h.mono (by omega)
  by_cases o4 : e.f0 = 4
  ·rw [o4]; exact (exprNode_con e.f1 e.f2 w hg).mono fun r w' h => h.mono (by omega)
  by_cases o6 : e.f0 = 6
  ·have hl := l6 o6
   have hi : e.f4[0]? = some (e.f4[0]'(by omega)) := List.getElem?_eq_getElem (by omega)
   rw [o6]; have hq := eB_0 hi; exact (exprNode_fn e.f1 e.f2 w hg e.f3 rfl n3 h3 e.f4 _ (ih _ (List.getElem_mem _)) hi h4).mono fun r w' h => h.mono (by omega)
  by_cases o7 : e.f0 = 7
  ·rw [o7]; exact (exprNode_let e.f1 e.f2 w hg e.f3 rfl n3 h3 e.f4 ih (l7 o7) h4).mono fun r w' h => h.mono (by omega)
  by_cases o8 : e.f0 = 8
  ·have hl := l8 o8
   have hi : e.f4[0]? = some (e.f4[0]'(by omega)) := List.getElem?_eq_getElem (by omega)
   rw [o8]; have hq := eB_0 hi; exact (exprNode_case e.f1 e.f2 w hg e.f4 _ (ih _ (List.getElem_mem _)) hi h4 e.f5 n5 (fun a ha => ⟨iha a ha, (wa a ha).1.2.1, (wa a ha).1.2.2.1, (wa a ha).2.1⟩) h5).mono fun r w' h => h.mono (by omega)
  by_cases o10 : e.f0 = 10
  ·rw [o10]; exact (exprNode_fail e.f1 e.f2 w hg w2 w3).mono fun r w' h => h.mono (by omega)
  exact (exprNode_rest e.f0 e.f1 e.f2 w hg (fun k hk => by rcases hk with rfl | rfl | rfl | rfl | rfl | rfl | rfl | rfl <;> assumption) e.f4 ih n4 h4).mono fun r w' h => h.mono (by omega)
theorem Vq {α : Type} [BEq α] [LawfulBEq α] {x y : α} (h : ¬ x = y) : (x == y) = false ∧ (x != y) = true := ⟨beq_eq_false_iff_ne.2 h, bne_iff_ne.2 h⟩
theorem beqt {α : Type} [BEq α] [LawfulBEq α] {x y : α} (h : x = y) : (x == y) = true ∧ (x != y) = false := ⟨beq_iff_eq.2 h, bne_eq_false_iff_eq.2 h⟩
theorem elem40d {W : World} {A : Option Addr} {n : Nat} {l : List S88} (hC : k88.C W A n l) (i : Nat) {x : S88} (hx : l[i]? = some x) : ∃ ad B3 d3 B7 d7 B8 d8 B9 d9, A = some ad ∧ AC W (ad.add (i * 10)) x B3 B7 B8 B9 d3 d7 d8 d9 ∧ Kd.string.C W B3 x.f3.length x.f3 ∧ Kd.string.C W B7 x.f4.f3.length x.f4.f3 ∧ k29.C W B8 x.f4.f4.length x.f4.f4 ∧ k88.C W B9 x.f4.f5.length x.f4.f5 ∧ x.f3.length ≤ d3 ∧ x.f4.f3.length ≤ d7 ∧ x.f4.f4.length ≤ d8 ∧ x.f4.f5.length ≤ d9 := by
 have hi := (List.getElem?_eq_some_iff.1 hx).1
 obtain ⟨ad, B3, d3, B7, d7, B8, d8, B9, d9, e, c0, c1, c2, c3, c4, c5, c6, c7, c8, c9, l3, g3, l7, g7, l8, g8, l9, g9⟩ := at_T88 hC (i : Int) (by omega) (by have := hC.1; omega)
 have hr : Zc l (i : Int) = x := by
  unfold Zc
  rw [Int.toNat_natCast, List.getD_eq_getElem?_getD, hx]
  rfl
 rw [hr] at c0 c1 c2 c3 c4 c5 c6 c7 c8 c9 l3 g3 l7 g7 l8 g8 l9 g9
 rw [Int.toNat_natCast] at c0 c1 c2 c3 c4 c5 c6 c7 c8 c9
 exact ⟨ad, B3, d3, B7, d7, B8, d8, B9, d9, e, ⟨c0, c1, c2, c3, c4, c5, c6, c7, c8, c9⟩, g3, g7, g8, g9, l3, l7, l8, l9⟩
set_option maxHeartbeats 16000000 in
set_option maxRecDepth 100000 in
theorem form_c (e : S29) (hl3 : e.f3.length ≤ 1000000000000) (hl4 : e.f4.length ≤ 1000000000000) (hl5 : e.f5.length ≤ 1000000000000) (w : World) {A3 A4 A5 : Option Addr} {c3 c4 c5 : Nat} (h3 : Kd.C Kd.string w A3 e.f3.length e.f3) (h4 : Kd.C k29 w A4 e.f4.length e.f4) (h5 : Kd.C k88 w A5 e.f5.length e.f5) :
  Calls Tryd.prog 85 #[.agg #[.int .i64 e.f0, .string e.f1, .int .i64 e.f2, .slice A3 e.f3.length c3, .slice A4 e.f4.length c4, .slice A5 e.f5.length c5]] w fun r w' => ∃ b : Bool, r = .returned (.bool b) ∧ (b = true → Loc e.f0 e.f2 e.f3 e.f4 e.f5) ∧ Below w.heap.size w w' := by
 obtain ⟨W0, hW0⟩ : ∃ W0, w.alloc (.cells #[.int .i64 e.f0, .string e.f1, .int .i64 e.f2, .slice A3 e.f3.length c3, .slice A4 e.f4.length c4, .slice A5 e.f5.length c5] 29) = W0 := ⟨_, rfl⟩
 have hB0 : Qb (Below w.heap.size w W0) := ⟨by rw [← hW0]; exact Qd (Below.refl _ _) _⟩
 have hbx : Qb (W0.heap[w.heap.size]? = some (.cells #[.int .i64 e.f0, .string e.f1, .int .i64 e.f2, .slice A3 e.f3.length c3, .slice A4 e.f4.length c4, .slice A5 e.f5.length c5] 29 (0, 0))) := ⟨by rw [← hW0]; exact Qv w _⟩
 obtain ⟨ar, har⟩ := arity_tot e.f1 201 (by decide)
 obtain ⟨cr, hcr⟩ := canon_tot (IntKind.u64.wrap e.f2)
 have CA : ∀ W : World, _ := fun W => QA.calls 201 e.f1 ar W har
 have CK : ∀ W : World, _ := fun W => QO.calls (IntKind.u64.wrap e.f2) cr W hcr
 have CA := Qb.mk @CA
 have CK := Qb.mk @CK
 obtain ⟨f0, f1, f2, l3, l4, l5⟩ := e
 dsimp only at *
 have h5 := Qb.mk (Kd.Qj h5 hB0.out)
 have hl := Qb.mk (And.intro hl3 (And.intro hl4 hl5))
 have hw3 : Qb (wrap64 ((wrap64 ((l3.length : Int) + (l4.length : Int))) + (l5.length : Int)) = (l3.length : Int) + (l4.length : Int) + (l5.length : Int)) := ⟨by unfold wrap64; omega⟩
 have hw2 : Qb (wrap64 ((l3.length : Int) + (l5.length : Int)) = (l3.length : Int) + (l5.length : Int)) := ⟨by unfold wrap64; omega⟩
 have hw1 : Qb (wrap64 ((l3.length : Int) + 1) = (l3.length : Int) + 1) := ⟨by unfold wrap64; omega⟩
 clear hl3 hl4 hl5 har hcr h3 h4
 have k0 := (Qa hbx.out 0).trans rfl
 have k1 := (Qa hbx.out 1).trans rfl
 have k2 := (Qa hbx.out 2).trans rfl
 have k3 := (Qa hbx.out 3).trans rfl
 have k4 := (Qa hbx.out 4).trans rfl
 have k5 := (Qa hbx.out 5).trans rfl
 by_cases o1 : f0 = 1
 ·subst o1
  by_cases q0 : wrap64 ((wrap64 ((l3.length : Int) + (l4.length : Int))) + (l5.length : Int)) = 0
  ·have q0t := beqt q0
   obtain ⟨q0a, q0b⟩ := q0t
   have q0 := Qb.mk q0
   by_cases q1 : f2 = 0
   ·subst q1
    have hL : Qb (∀ x : Int, Loc 1 0 l3 l4 l5) := ⟨by have := hw3.out; have := q0.out; intro x; exact ⟨(fun h => absurd h (by decide)), (fun h => absurd h (by decide)), (fun h => absurd h (by decide)), (fun _ => ⟨rfl, List.eq_nil_of_length_eq_zero (by omega), List.eq_nil_of_length_eq_zero (by omega), List.eq_nil_of_length_eq_zero (by omega)⟩), by have hz : l3.length = 0 ∨ l5.length = 0 := (by omega); exact hz.imp List.eq_nil_of_length_eq_zero List.eq_nil_of_length_eq_zero⟩⟩
    go_enter Tryd.func85, Tryd.ntmps85
    go_wp2
    all_goals go_ret
    all_goals first | exact ⟨_, rfl, (fun _ => hL.out 0), (by first | exact hB0.out | exact Qd (Below.refl _ _) _)⟩ | exact ⟨rfl, hL.out 0, (by first | exact hB0.out | exact Qd (Below.refl _ _) _)⟩ | exact .inr ⟨rfl, hL.out 0, (by first | exact hB0.out | exact Qd (Below.refl _ _) _)⟩ | exact ⟨_, rfl, (fun h => Bool.noConfusion h), (by first | exact hB0.out | exact Qd (Below.refl _ _) _)⟩ | exact .inl ⟨rfl, (by first | exact hB0.out | exact Qd (Below.refl _ _) _)⟩
   ·obtain ⟨q1a, q1b⟩ := Vq q1
    go_enter Tryd.func85, Tryd.ntmps85
    go_wp2
    all_goals go_ret
    all_goals first | exact ⟨_, rfl, (fun h => Bool.noConfusion h), (by first | exact hB0.out | exact Qd (Below.refl _ _) _)⟩ | exact .inl ⟨rfl, (by first | exact hB0.out | exact Qd (Below.refl _ _) _)⟩
  ·obtain ⟨q0a, q0b⟩ := Vq q0
   go_enter Tryd.func85, Tryd.ntmps85
   go_wp2
   all_goals go_ret
   all_goals first | exact ⟨_, rfl, (fun h => Bool.noConfusion h), (by first | exact hB0.out | exact Qd (Below.refl _ _) _)⟩ | exact .inl ⟨rfl, (by first | exact hB0.out | exact Qd (Below.refl _ _) _)⟩
 ·by_cases o4 : f0 = 4
  ·subst o4
   by_cases q0 : wrap64 ((wrap64 ((l3.length : Int) + (l4.length : Int))) + (l5.length : Int)) = 0
   ·have q0t := beqt q0
    obtain ⟨q0a, q0b⟩ := q0t
    have q0 := Qb.mk q0
    have hL : Qb (∀ x : Int, Loc 4 x l3 l4 l5) := ⟨by have := hw3.out; have := q0.out; intro x; exact ⟨(fun h => absurd h (by decide)), (fun h => absurd h (by decide)), (fun h => absurd h (by decide)), (fun h => absurd h (by decide)), by have hz : l3.length = 0 ∨ l5.length = 0 := (by omega); exact hz.imp List.eq_nil_of_length_eq_zero List.eq_nil_of_length_eq_zero⟩⟩
    go_enter Tryd.func85, Tryd.ntmps85
    go_wp2
    all_goals go_ret
    all_goals first | exact ⟨_, rfl, (fun _ => hL.out _), (by first | exact hB0.out | exact Qd (Below.refl _ _) _)⟩ | exact ⟨rfl, hL.out _, (by first | exact hB0.out | exact Qd (Below.refl _ _) _)⟩ | exact .inr ⟨rfl, hL.out _, (by first | exact hB0.out | exact Qd (Below.refl _ _) _)⟩ | exact ⟨_, rfl, (fun h => Bool.noConfusion h), (by first | exact hB0.out | exact Qd (Below.refl _ _) _)⟩ | exact .inl ⟨rfl, (by first | exact hB0.out | exact Qd (Below.refl _ _) _)⟩
   ·obtain ⟨q0a, q0b⟩ := Vq q0
    go_enter Tryd.func85, Tryd.ntmps85
    go_wp2
    all_goals go_ret
    all_goals first | exact ⟨_, rfl, (fun h => Bool.noConfusion h), (by first | exact hB0.out | exact Qd (Below.refl _ _) _)⟩ | exact .inl ⟨rfl, (by first | exact hB0.out | exact Qd (Below.refl _ _) _)⟩
  ·by_cases o2 : f0 = 2
   ·subst o2
    by_cases q0 : wrap64 ((wrap64 ((l3.length : Int) + (l4.length : Int))) + (l5.length : Int)) = 0
    ·have q0t := beqt q0
     obtain ⟨q0a, q0b⟩ := q0t
     have q0 := Qb.mk q0
     have hL : Qb (∀ x : Int, Loc 2 x l3 l4 l5) := ⟨by have := hw3.out; have := q0.out; intro x; exact ⟨(fun h => absurd h (by decide)), (fun h => absurd h (by decide)), (fun h => absurd h (by decide)), (fun h => absurd h (by decide)), by have hz : l3.length = 0 ∨ l5.length = 0 := (by omega); exact hz.imp List.eq_nil_of_length_eq_zero List.eq_nil_of_length_eq_zero⟩⟩
     go_enter Tryd.func85, Tryd.ntmps85
     go_wp2
     all_goals go_ret
     all_goals first | exact ⟨_, rfl, (fun _ => hL.out _), (by first | exact hB0.out | exact Qd (Below.refl _ _) _)⟩ | exact ⟨rfl, hL.out _, (by first | exact hB0.out | exact Qd (Below.refl _ _) _)⟩ | exact .inr ⟨rfl, hL.out _, (by first | exact hB0.out | exact Qd (Below.refl _ _) _)⟩ | exact ⟨_, rfl, (fun h => Bool.noConfusion h), (by first | exact hB0.out | exact Qd (Below.refl _ _) _)⟩ | exact .inl ⟨rfl, (by first | exact hB0.out | exact Qd (Below.refl _ _) _)⟩
    ·obtain ⟨q0a, q0b⟩ := Vq q0
     go_enter Tryd.func85, Tryd.ntmps85
     go_wp2
     all_goals go_ret
     all_goals first | exact ⟨_, rfl, (fun h => Bool.noConfusion h), (by first | exact hB0.out | exact Qd (Below.refl _ _) _)⟩ | exact .inl ⟨rfl, (by first | exact hB0.out | exact Qd (Below.refl _ _) _)⟩
   ·by_cases o3 : f0 = 3
    ·subst o3
     by_cases q0 : wrap64 ((wrap64 ((l3.length : Int) + (l4.length : Int))) + (l5.length : Int)) = 0
     ·have q0t := beqt q0
      obtain ⟨q0a, q0b⟩ := q0t
      have q0 := Qb.mk q0
      have hL : Qb (∀ x : Int, Loc 3 x l3 l4 l5) := ⟨by have := hw3.out; have := q0.out; intro x; exact ⟨(fun h => absurd h (by decide)), (fun h => absurd h (by decide)), (fun h => absurd h (by decide)), (fun h => absurd h (by decide)), by have hz : l3.length = 0 ∨ l5.length = 0 := (by omega); exact hz.imp List.eq_nil_of_length_eq_zero List.eq_nil_of_length_eq_zero⟩⟩
      have fz0 := Qg hbx.out 0
      have fz1 := Qg hbx.out 1
      have fz2 := Qg hbx.out 2
      have fz3 := Qg hbx.out 3
      have fz4 := Qg hbx.out 4
      have fz5 := Qg hbx.out 5
      by_cases n0 : f1.toList = ([] : List UInt8)
      ·obtain ⟨n0a, n0b⟩ := beqt n0
       go_enter Tryd.func85, Tryd.ntmps85
       go_wp2_with (first | (go_at_call 92; (with_reducible refine (CK.out _).mono ?_); rintro e w' ⟨rfl, ⟨nd, rfl⟩⟩; (try first | exact ⟨rfl, _, World.drewN_drewN _ _ _⟩ | exact ⟨rfl, _, Eq.trans (World.drewN_drewN _ _ _) (congrArg (World.drewN _) (Nat.add_assoc _ _ _))⟩)))
       repeat (go_quiet (first | (go_at_call 92; (with_reducible refine (CK.out _).mono ?_); rintro e w' ⟨rfl, ⟨nd, rfl⟩⟩; (try first | exact ⟨rfl, _, World.drewN_drewN _ _ _⟩ | exact ⟨rfl, _, Eq.trans (World.drewN_drewN _ _ _) (congrArg (World.drewN _) (Nat.add_assoc _ _ _))⟩))); try go_wp2_with (first | (go_at_call 92; (with_reducible refine (CK.out _).mono ?_); rintro e w' ⟨rfl, ⟨nd, rfl⟩⟩; (try first | exact ⟨rfl, _, World.drewN_drewN _ _ _⟩ | exact ⟨rfl, _, Eq.trans (World.drewN_drewN _ _ _) (congrArg (World.drewN _) (Nat.add_assoc _ _ _))⟩))))
       all_goals go_ret
       all_goals first | exact ⟨_, rfl, (fun _ => hL.out _), (by repeat (first | exact HB2.out | exact HB1.out | exact hB0.out | apply Qh | apply Qi | apply Qd | exact Below.refl _ _))⟩ | exact ⟨rfl, hL.out _, (by repeat (first | exact HB2.out | exact HB1.out | exact hB0.out | apply Qh | apply Qi | apply Qd | exact Below.refl _ _))⟩ | exact .inr ⟨rfl, hL.out _, (by repeat (first | exact HB2.out | exact HB1.out | exact hB0.out | apply Qh | apply Qi | apply Qd | exact Below.refl _ _))⟩ | exact ⟨_, rfl, (fun h => Bool.noConfusion h), (by repeat (first | exact HB2.out | exact HB1.out | exact hB0.out | apply Qh | apply Qi | apply Qd | exact Below.refl _ _))⟩ | exact .inl ⟨rfl, (by repeat (first | exact HB2.out | exact HB1.out | exact hB0.out | apply Qh | apply Qi | apply Qd | exact Below.refl _ _))⟩
      ·obtain ⟨n0a, n0b⟩ := Vq n0
       go_enter Tryd.func85, Tryd.ntmps85
       go_wp2
       repeat (go_quiet (fail); try go_wp2)
       all_goals go_ret
       all_goals first | exact ⟨_, rfl, (fun _ => hL.out _), (by repeat (first | exact HB2.out | exact HB1.out | exact hB0.out | apply Qh | apply Qi | apply Qd | exact Below.refl _ _))⟩ | exact ⟨rfl, hL.out _, (by repeat (first | exact HB2.out | exact HB1.out | exact hB0.out | apply Qh | apply Qi | apply Qd | exact Below.refl _ _))⟩ | exact .inr ⟨rfl, hL.out _, (by repeat (first | exact HB2.out | exact HB1.out | exact hB0.out | apply Qh | apply Qi | apply Qd | exact Below.refl _ _))⟩ | exact ⟨_, rfl, (fun h => Bool.noConfusion h), (by repeat (first | exact HB2.out | exact HB1.out | exact hB0.out | apply Qh | apply Qi | apply Qd | exact Below.refl _ _))⟩ | exact .inl ⟨rfl, (by repeat (first | exact HB2.out | exact HB1.out | exact hB0.out | apply Qh | apply Qi | apply Qd | exact Below.refl _ _))⟩
     ·obtain ⟨q0a, q0b⟩ := Vq q0
      go_enter Tryd.func85, Tryd.ntmps85
      go_wp2
      repeat (go_quiet (fail); try go_wp2)
      all_goals go_ret
      all_goals first | exact ⟨_, rfl, (fun h => Bool.noConfusion h), (by repeat (first | exact HB2.out | exact HB1.out | exact hB0.out | apply Qh | apply Qi | apply Qd | exact Below.refl _ _))⟩ | exact .inl ⟨rfl, (by repeat (first | exact HB2.out | exact HB1.out | exact hB0.out | apply Qh | apply Qi | apply Qd | exact Below.refl _ _))⟩
    ·by_cases o5 : f0 = 5
     ·subst o5
      by_cases q0 : wrap64 ((l3.length : Int) + (l5.length : Int)) = 0
      ·have q0t := beqt q0
       obtain ⟨q0a, q0b⟩ := q0t
       have q0 := Qb.mk q0
       have hL : Qb (∀ x : Int, Loc 5 x l3 l4 l5) := ⟨by have := hw2.out; have := q0.out; intro x; exact ⟨(fun h => absurd h (by decide)), (fun h => absurd h (by decide)), (fun h => absurd h (by decide)), (fun h => absurd h (by decide)), by have hz : l3.length = 0 ∨ l5.length = 0 := (by omega); exact hz.imp List.eq_nil_of_length_eq_zero List.eq_nil_of_length_eq_zero⟩⟩
       go_enter Tryd.func85, Tryd.ntmps85
       go_wp2
       all_goals go_ret
       all_goals first | exact ⟨_, rfl, (fun _ => hL.out _), (by first | exact hB0.out | exact Qd (Below.refl _ _) _)⟩ | exact ⟨rfl, hL.out _, (by first | exact hB0.out | exact Qd (Below.refl _ _) _)⟩ | exact .inr ⟨rfl, hL.out _, (by first | exact hB0.out | exact Qd (Below.refl _ _) _)⟩ | exact ⟨_, rfl, (fun h => Bool.noConfusion h), (by first | exact hB0.out | exact Qd (Below.refl _ _) _)⟩ | exact .inl ⟨rfl, (by first | exact hB0.out | exact Qd (Below.refl _ _) _)⟩
      ·obtain ⟨q0a, q0b⟩ := Vq q0
       go_enter Tryd.func85, Tryd.ntmps85
       go_wp2
       all_goals go_ret
       all_goals first | exact ⟨_, rfl, (fun h => Bool.noConfusion h), (by first | exact hB0.out | exact Qd (Below.refl _ _) _)⟩ | exact .inl ⟨rfl, (by first | exact hB0.out | exact Qd (Below.refl _ _) _)⟩
     ·by_cases o6 : f0 = 6
      ·subst o6
       by_cases q0 : (l5.length : Int) = 0
       ·have q0t := beqt q0
        obtain ⟨q0a, q0b⟩ := q0t
        have q0 := Qb.mk q0
        by_cases q1 : (l4.length : Int) = 1
        ·have q1t := beqt q1
         obtain ⟨q1a, q1b⟩ := q1t
         have q1 := Qb.mk q1
         have hL : Qb (∀ x : Int, Loc 6 x l3 l4 l5) := ⟨by have := q0.out; have := q1.out; intro x; exact ⟨fun _ => by omega, (fun h => absurd h (by decide)), (fun h => absurd h (by decide)), (fun h => absurd h (by decide)), by have hz : l3.length = 0 ∨ l5.length = 0 := (by omega); exact hz.imp List.eq_nil_of_length_eq_zero List.eq_nil_of_length_eq_zero⟩⟩
         go_enter Tryd.func85, Tryd.ntmps85
         go_wp2
         all_goals go_ret
         all_goals first | exact ⟨_, rfl, (fun _ => hL.out _), (by first | exact hB0.out | exact Qd (Below.refl _ _) _)⟩ | exact ⟨rfl, hL.out _, (by first | exact hB0.out | exact Qd (Below.refl _ _) _)⟩ | exact .inr ⟨rfl, hL.out _, (by first | exact hB0.out | exact Qd (Below.refl _ _) _)⟩ | exact ⟨_, rfl, (fun h => Bool.noConfusion h), (by first | exact hB0.out | exact Qd (Below.refl _ _) _)⟩ | exact .inl ⟨rfl, (by first | exact hB0.out | exact Qd (Below.refl _ _) _)⟩
        ·obtain ⟨q1a, q1b⟩ := Vq q1
         go_enter Tryd.func85, Tryd.ntmps85
         go_wp2
         all_goals go_ret
         all_goals first | exact ⟨_, rfl, (fun h => Bool.noConfusion h), (by first | exact hB0.out | exact Qd (Below.refl _ _) _)⟩ | exact .inl ⟨rfl, (by first | exact hB0.out | exact Qd (Below.refl _ _) _)⟩
       ·obtain ⟨q0a, q0b⟩ := Vq q0
        go_enter Tryd.func85, Tryd.ntmps85
        go_wp2
        all_goals go_ret
        all_goals first | exact ⟨_, rfl, (fun h => Bool.noConfusion h), (by first | exact hB0.out | exact Qd (Below.refl _ _) _)⟩ | exact .inl ⟨rfl, (by first | exact hB0.out | exact Qd (Below.refl _ _) _)⟩
      ·by_cases o7 : f0 = 7
       ·subst o7
        by_cases q0 : (l5.length : Int) = 0
        ·have q0t := beqt q0
         obtain ⟨q0a, q0b⟩ := q0t
         have q0 := Qb.mk q0
         by_cases q1 : (l4.length : Int) = wrap64 ((l3.length : Int) + 1)
         ·have q1t := beqt q1
          obtain ⟨q1a, q1b⟩ := q1t
          have q1 := Qb.mk q1
          have hL : Qb (∀ x : Int, Loc 7 x l3 l4 l5) := ⟨by have := q0.out; have := q1.out; have := hw1.out; intro x; exact ⟨(fun h => absurd h (by decide)), fun _ => by omega, (fun h => absurd h (by decide)), (fun h => absurd h (by decide)), by have hz : l3.length = 0 ∨ l5.length = 0 := (by omega); exact hz.imp List.eq_nil_of_length_eq_zero List.eq_nil_of_length_eq_zero⟩⟩
          go_enter Tryd.func85, Tryd.ntmps85
          go_wp2
          all_goals go_ret
          all_goals first | exact ⟨_, rfl, (fun _ => hL.out _), (by first | exact hB0.out | exact Qd (Below.refl _ _) _)⟩ | exact ⟨rfl, hL.out _, (by first | exact hB0.out | exact Qd (Below.refl _ _) _)⟩ | exact .inr ⟨rfl, hL.out _, (by first | exact hB0.out | exact Qd (Below.refl _ _) _)⟩ | exact ⟨_, rfl, (fun h => Bool.noConfusion h), (by first | exact hB0.out | exact Qd (Below.refl _ _) _)⟩ | exact .inl ⟨rfl, (by first | exact hB0.out | exact Qd (Below.refl _ _) _)⟩
         ·obtain ⟨q1a, q1b⟩ := Vq q1
          go_enter Tryd.func85, Tryd.ntmps85
          go_wp2
          all_goals go_ret
          all_goals first | exact ⟨_, rfl, (fun h => Bool.noConfusion h), (by first | exact hB0.out | exact Qd (Below.refl _ _) _)⟩ | exact .inl ⟨rfl, (by first | exact hB0.out | exact Qd (Below.refl _ _) _)⟩
        ·obtain ⟨q0a, q0b⟩ := Vq q0
         go_enter Tryd.func85, Tryd.ntmps85
         go_wp2
         all_goals go_ret
         all_goals first | exact ⟨_, rfl, (fun h => Bool.noConfusion h), (by first | exact hB0.out | exact Qd (Below.refl _ _) _)⟩ | exact .inl ⟨rfl, (by first | exact hB0.out | exact Qd (Below.refl _ _) _)⟩
       ·by_cases o8 : f0 = 8
        ·subst o8
         by_cases z3 : l3.length = 0
         ·obtain rfl := List.eq_nil_of_length_eq_zero z3
          simp only [List.length_nil] at hW0 hbx hw1 hw2 hw3 k3
          by_cases n0 : f1.toList = ([] : List UInt8)
          ·obtain ⟨n0a, n0b⟩ := beqt n0
           by_cases v2 : f2 = 0
           ·subst v2
            by_cases v4 : (l4.length : Int) = 1
            ·obtain ⟨v4a, v4b⟩ := beqt v4
             by_cases v5 : (l5.length : Int) = 0
             ·obtain ⟨v5a, v5b⟩ := beqt v5
              go_enter Tryd.func85, Tryd.ntmps85
              go_wp2
              all_goals go_ret
              all_goals first | exact ⟨_, rfl, (fun h => Bool.noConfusion h), (by first | exact hB0.out | exact Qd (Below.refl _ _) _)⟩ | exact .inl ⟨rfl, (by first | exact hB0.out | exact Qd (Below.refl _ _) _)⟩
             ·obtain ⟨v5a, v5b⟩ := Vq v5
              have hL : Qb (∀ x : Int, Loc 8 x [] l4 l5) := ⟨by intro x; exact ⟨(fun h => absurd h (by decide)), (fun h => absurd h (by decide)), (fun _ => by omega), (fun h => absurd h (by decide)), .inl rfl⟩⟩
              go_enter Tryd.func85, Tryd.ntmps85
              go_wp2
              go_loopg [6] (l5.length + 1) (fun kq v6 w' => ∃ i : Nat, v6 = .int .i64 (i : Int) ∧ i + kq = l5.length + 1 ∧ 1 ≤ kq ∧ Qb (Below W0.heap.size W0 w'))
              case atStart => exact ⟨0, rfl, by omega, by omega, ⟨Below.refl _ _⟩⟩
              case round =>
               clear k0 k1 k2 k3 k4 k5
               obtain ⟨i, rfl, hi, hk, hBr⟩ := hrel
               have k5 := (Qa (Qc hbx.out hBr.out) 5).trans rfl
               by_cases hlt : i < l5.length
               ·have hxi : l5[i]? = some l5[i] := List.getElem?_eq_getElem hlt
                generalize l5[i] = a at hxi
                obtain ⟨bt, hbt⟩ := takes_tot a
                obtain ⟨ad, B3, d3, B7, d7, B8, d8, B9, d9, rfl, ⟨e0, e1, e2, e3, e4, e5, e6, e7, e8, e9⟩, g3, g7, g8, g9, m3, m7, m8, m9⟩ := elem40d (Kd.Qj h5.out hBr.out) i hxi
                have CT := Zr.calls a.f0 a.f1 a.f2 B3 d3 a.f3 a.f4.f0 a.f4.f1 a.f4.f2 B7 d7 a.f4.f3 B8 d8 a.f4.f4 B9 d9 a.f4.f5 bt wr g3 m3 g7 m7 g8 m8 g9 m9 hbt
                have p0 : (0 : Int) ≤ (i : Int) := by omega
                have p1 : (i : Int) < (l5.length : Int) := by omega
                have q1 : decide ((i : Int) < (l5.length : Int)) = true := decide_eq_true p1
                have hjn : Value.int .i64 (wrap64 ((i : Int) + 1)) = .int .i64 ((i + 1 : Nat) : Int) := by rw [wr1 i (by have := hl.out; omega)]
                have hi7 : i + 1 + (gk - 1) = l5.length + 1 ∧ 1 ≤ gk - 1 ∧ gk - 1 < gk := by omega
                clear g3 g7 g8 g9 m3 m7 m8 m9 hbt hxi
                cases bt
                ·go_wp2_with (first | (go_at_call 93; go_loud (with_reducible refine CT.mono ?_); rintro e w2 ⟨rfl, hb2⟩; have HB2 := Qb.mk (hB0.out.trans ((Qe hBr.out hb2).mono hB0.out.size)); clear hb2 CT))
                 go_ret
                 exact ⟨false, rfl, (fun h => by cases h), HB2.out⟩
                ·go_wp2_with (first | (go_at_call 93; go_loud (with_reducible refine CT.mono ?_); rintro e w2 ⟨rfl, hb2⟩; have HB2 := Qb.mk (Qe hBr.out hb2); clear hb2 CT))
                 go_roundg (gk - 1)
                 case measure => exact hi7.2.2
                 case rel => exact ⟨i + 1, by first | exact hjn | rfl, hi7.1, hi7.2.1, HB2⟩
               ·have q1 : decide ((i : Int) < (l5.length : Int)) = false := decide_eq_false (by omega)
                go_wp2
                go_ret
                first | exact ⟨_, rfl, fun _ => hL.out _, hB0.out.trans (hBr.out.mono hB0.out.size)⟩ | exact ⟨rfl, hL.out _, hB0.out.trans (hBr.out.mono hB0.out.size)⟩
            ·obtain ⟨v4a, v4b⟩ := Vq v4
             go_enter Tryd.func85, Tryd.ntmps85
             go_wp2
             all_goals go_ret
             all_goals first | exact ⟨_, rfl, (fun h => Bool.noConfusion h), (by first | exact hB0.out | exact Qd (Below.refl _ _) _)⟩ | exact .inl ⟨rfl, (by first | exact hB0.out | exact Qd (Below.refl _ _) _)⟩
           ·obtain ⟨v2a, v2b⟩ := Vq v2
            go_enter Tryd.func85, Tryd.ntmps85
            go_wp2
            all_goals go_ret
            all_goals first | exact ⟨_, rfl, (fun h => Bool.noConfusion h), (by first | exact hB0.out | exact Qd (Below.refl _ _) _)⟩ | exact .inl ⟨rfl, (by first | exact hB0.out | exact Qd (Below.refl _ _) _)⟩
          ·obtain ⟨n0a, n0b⟩ := Vq n0
           go_enter Tryd.func85, Tryd.ntmps85
           go_wp2
           all_goals go_ret
           all_goals first | exact ⟨_, rfl, (fun h => Bool.noConfusion h), (by first | exact hB0.out | exact Qd (Below.refl _ _) _)⟩ | exact .inl ⟨rfl, (by first | exact hB0.out | exact Qd (Below.refl _ _) _)⟩
         ·have z3a : decide ((0 : Int) < (l3.length : Int)) = true := decide_eq_true (by omega)
          have z3b : 0 < l3.length := by omega
          go_enter Tryd.func85, Tryd.ntmps85
          go_wp2
          all_goals go_ret
          all_goals first | exact ⟨_, rfl, (fun h => Bool.noConfusion h), (by first | exact hB0.out | exact Qd (Below.refl _ _) _)⟩ | exact .inl ⟨rfl, (by first | exact hB0.out | exact Qd (Below.refl _ _) _)⟩
        ·by_cases o9 : f0 = 9
         ·subst o9
          by_cases q0 : wrap64 ((l3.length : Int) + (l5.length : Int)) = 0
          ·have q0t := beqt q0
           obtain ⟨q0a, q0b⟩ := q0t
           have q0 := Qb.mk q0
           by_cases q1 : f2 = 0
           ·subst q1
            have hL : Qb (∀ x : Int, Loc 9 x l3 l4 l5) := ⟨by have := hw2.out; have := q0.out; intro x; exact ⟨(fun h => absurd h (by decide)), (fun h => absurd h (by decide)), (fun h => absurd h (by decide)), (fun h => absurd h (by decide)), by have hz : l3.length = 0 ∨ l5.length = 0 := (by omega); exact hz.imp List.eq_nil_of_length_eq_zero List.eq_nil_of_length_eq_zero⟩⟩
            go_enter Tryd.func85, Tryd.ntmps85
            have CA1 := CA.out W0
            have T1 : True := trivial
            go_wp2_with (first | (clear T1; go_at_call 94; (try rw [hW0]); go_loud (with_reducible refine CA1.mono ?_); rintro e w1 ⟨rfl, hb1⟩; have HB1 := Qb.mk (hB0.out.trans (hb1.mono hB0.out.size)); have hb1 := Qb.mk hb1; clear k0 k1 k2 k3 k4 k5; (have k0 := (Qa (Qc hbx.out hb1.out) 0).trans rfl); (have k1 := (Qa (Qc hbx.out hb1.out) 1).trans rfl); (have k2 := (Qa (Qc hbx.out hb1.out) 2).trans rfl); (have k3 := (Qa (Qc hbx.out hb1.out) 3).trans rfl); (have k4 := (Qa (Qc hbx.out hb1.out) 4).trans rfl); (have k5 := (Qa (Qc hbx.out hb1.out) 5).trans rfl); have CA2 := CA.out w1; clear CA1; have T2 : True := trivial) | (clear T2; go_at_call 94; go_loud (with_reducible refine CA2.mono ?_); rintro e w2 ⟨rfl, hb2⟩; have HB2 := Qb.mk (hB0.out.trans ((Qe hb1.out hb2).mono hB0.out.size)); clear hb2 CA2; have T3 : True := trivial))
            all_goals go_ret
            all_goals first | exact ⟨_, rfl, (fun _ => hL.out _), (by repeat (first | exact HB2.out | exact HB1.out | exact hB0.out | apply Qh | apply Qi | apply Qd | exact Below.refl _ _))⟩ | exact ⟨rfl, hL.out _, (by repeat (first | exact HB2.out | exact HB1.out | exact hB0.out | apply Qh | apply Qi | apply Qd | exact Below.refl _ _))⟩ | exact .inr ⟨rfl, hL.out _, (by repeat (first | exact HB2.out | exact HB1.out | exact hB0.out | apply Qh | apply Qi | apply Qd | exact Below.refl _ _))⟩ | exact ⟨_, rfl, (fun h => Bool.noConfusion h), (by repeat (first | exact HB2.out | exact HB1.out | exact hB0.out | apply Qh | apply Qi | apply Qd | exact Below.refl _ _))⟩ | exact .inl ⟨rfl, (by repeat (first | exact HB2.out | exact HB1.out | exact hB0.out | apply Qh | apply Qi | apply Qd | exact Below.refl _ _))⟩
           ·obtain ⟨q1a, q1b⟩ := Vq q1
            go_enter Tryd.func85, Tryd.ntmps85
            have CA1 := CA.out W0
            have T1 : True := trivial
            go_wp2_with (first | (clear T1; go_at_call 94; (try rw [hW0]); go_loud (with_reducible refine CA1.mono ?_); rintro e w1 ⟨rfl, hb1⟩; have HB1 := Qb.mk (hB0.out.trans (hb1.mono hB0.out.size)); have hb1 := Qb.mk hb1; clear k0 k1 k2 k3 k4 k5; (have k0 := (Qa (Qc hbx.out hb1.out) 0).trans rfl); (have k1 := (Qa (Qc hbx.out hb1.out) 1).trans rfl); (have k2 := (Qa (Qc hbx.out hb1.out) 2).trans rfl); (have k3 := (Qa (Qc hbx.out hb1.out) 3).trans rfl); (have k4 := (Qa (Qc hbx.out hb1.out) 4).trans rfl); (have k5 := (Qa (Qc hbx.out hb1.out) 5).trans rfl); have CA2 := CA.out w1; clear CA1; have T2 : True := trivial) | (clear T2; go_at_call 94; go_loud (with_reducible refine CA2.mono ?_); rintro e w2 ⟨rfl, hb2⟩; have HB2 := Qb.mk (hB0.out.trans ((Qe hb1.out hb2).mono hB0.out.size)); clear hb2 CA2; have T3 : True := trivial))
            all_goals go_ret
            all_goals first | exact ⟨_, rfl, (fun h => Bool.noConfusion h), (by repeat (first | exact HB2.out | exact HB1.out | exact hB0.out | apply Qh | apply Qi | apply Qd | exact Below.refl _ _))⟩ | exact .inl ⟨rfl, (by repeat (first | exact HB2.out | exact HB1.out | exact hB0.out | apply Qh | apply Qi | apply Qd | exact Below.refl _ _))⟩
          ·obtain ⟨q0a, q0b⟩ := Vq q0
           go_enter Tryd.func85, Tryd.ntmps85
           have CA1 := CA.out W0
           have T1 : True := trivial
           go_wp2_with (first | (clear T1; go_at_call 94; (try rw [hW0]); go_loud (with_reducible refine CA1.mono ?_); rintro e w1 ⟨rfl, hb1⟩; have HB1 := Qb.mk (hB0.out.trans (hb1.mono hB0.out.size)); have hb1 := Qb.mk hb1; clear k0 k1 k2 k3 k4 k5; (have k0 := (Qa (Qc hbx.out hb1.out) 0).trans rfl); (have k1 := (Qa (Qc hbx.out hb1.out) 1).trans rfl); (have k2 := (Qa (Qc hbx.out hb1.out) 2).trans rfl); (have k3 := (Qa (Qc hbx.out hb1.out) 3).trans rfl); (have k4 := (Qa (Qc hbx.out hb1.out) 4).trans rfl); (have k5 := (Qa (Qc hbx.out hb1.out) 5).trans rfl); have CA2 := CA.out w1; clear CA1; have T2 : True := trivial) | (clear T2; go_at_call 94; go_loud (with_reducible refine CA2.mono ?_); rintro e w2 ⟨rfl, hb2⟩; have HB2 := Qb.mk (hB0.out.trans ((Qe hb1.out hb2).mono hB0.out.size)); clear hb2 CA2; have T3 : True := trivial))
           all_goals go_ret
           all_goals first | exact ⟨_, rfl, (fun h => Bool.noConfusion h), (by repeat (first | exact HB2.out | exact HB1.out | exact hB0.out | apply Qh | apply Qi | apply Qd | exact Below.refl _ _))⟩ | exact .inl ⟨rfl, (by repeat (first | exact HB2.out | exact HB1.out | exact hB0.out | apply Qh | apply Qi | apply Qd | exact Below.refl _ _))⟩
         ·by_cases o10 : f0 = 10
          ·subst o10
           by_cases q0 : wrap64 ((wrap64 ((l3.length : Int) + (l4.length : Int))) + (l5.length : Int)) = 0
           ·have q0t := beqt q0
            obtain ⟨q0a, q0b⟩ := q0t
            have q0 := Qb.mk q0
            have hL : Qb (∀ x : Int, Loc 10 x l3 l4 l5) := ⟨by have := hw3.out; have := q0.out; intro x; exact ⟨(fun h => absurd h (by decide)), (fun h => absurd h (by decide)), (fun h => absurd h (by decide)), (fun h => absurd h (by decide)), by have hz : l3.length = 0 ∨ l5.length = 0 := (by omega); exact hz.imp List.eq_nil_of_length_eq_zero List.eq_nil_of_length_eq_zero⟩⟩
            go_enter Tryd.func85, Tryd.ntmps85
            go_wp2
            all_goals go_ret
            all_goals first | exact ⟨_, rfl, (fun _ => hL.out _), (by first | exact hB0.out | exact Qd (Below.refl _ _) _)⟩ | exact ⟨rfl, hL.out _, (by first | exact hB0.out | exact Qd (Below.refl _ _) _)⟩ | exact .inr ⟨rfl, hL.out _, (by first | exact hB0.out | exact Qd (Below.refl _ _) _)⟩ | exact ⟨_, rfl, (fun h => Bool.noConfusion h), (by first | exact hB0.out | exact Qd (Below.refl _ _) _)⟩ | exact .inl ⟨rfl, (by first | exact hB0.out | exact Qd (Below.refl _ _) _)⟩
           ·obtain ⟨q0a, q0b⟩ := Vq q0
            go_enter Tryd.func85, Tryd.ntmps85
            go_wp2
            all_goals go_ret
            all_goals first | exact ⟨_, rfl, (fun h => Bool.noConfusion h), (by first | exact hB0.out | exact Qd (Below.refl _ _) _)⟩ | exact .inl ⟨rfl, (by first | exact hB0.out | exact Qd (Below.refl _ _) _)⟩
          ·have oo : ∀ k : Int, True := fun _ => trivial
           obtain ⟨o1a, o1b⟩ := Vq o1
           obtain ⟨o2a, o2b⟩ := Vq o2
           obtain ⟨o3a, o3b⟩ := Vq o3
           obtain ⟨o4a, o4b⟩ := Vq o4
           obtain ⟨o5a, o5b⟩ := Vq o5
           obtain ⟨o6a, o6b⟩ := Vq o6
           obtain ⟨o7a, o7b⟩ := Vq o7
           obtain ⟨o8a, o8b⟩ := Vq o8
           obtain ⟨o9a, o9b⟩ := Vq o9
           obtain ⟨o10a, o10b⟩ := Vq o10
           go_enter Tryd.func85, Tryd.ntmps85
           go_wp2
           all_goals go_ret
           all_goals first | exact ⟨_, rfl, (fun h => Bool.noConfusion h), (by first | exact hB0.out | exact Qd (Below.refl _ _) _)⟩ | exact .inl ⟨rfl, (by first | exact hB0.out | exact Qd (Below.refl _ _) _)⟩
theorem elem40c {W : World} {A : Option Addr} {n : Nat} {l : List S88} (hC : k88.C W A n l) (i : Nat) {x : S88} (hx : l[i]? = some x) : ∃ ad B3 d3 B7 d7 B8 d8 B9 d9, A = some ad ∧ AC W (ad.add (i * 10)) x B3 B7 B8 B9 d3 d7 d8 d9 ∧ Kd.string.C W B3 x.f3.length x.f3 ∧ Kd.string.C W B7 x.f4.f3.length x.f4.f3 ∧ k29.C W B8 x.f4.f4.length x.f4.f4 ∧ k88.C W B9 x.f4.f5.length x.f4.f5 ∧ x.f3.length ≤ d3 ∧ x.f4.f3.length ≤ d7 ∧ x.f4.f4.length ≤ d8 ∧ x.f4.f5.length ≤ d9 := by
 have hi := (List.getElem?_eq_some_iff.1 hx).1
 obtain ⟨ad, B3, d3, B7, d7, B8, d8, B9, d9, e, c0, c1, c2, c3, c4, c5, c6, c7, c8, c9, l3, g3, l7, g7, l8, g8, l9, g9⟩ := at_T88 hC (i : Int) (by omega) (by have := hC.1; omega)
 have hr : Zc l (i : Int) = x := by
  unfold Zc
  rw [Int.toNat_natCast, List.getD_eq_getElem?_getD, hx]
  rfl
 rw [hr] at c0 c1 c2 c3 c4 c5 c6 c7 c8 c9 l3 g3 l7 g7 l8 g8 l9 g9
 rw [Int.toNat_natCast] at c0 c1 c2 c3 c4 c5 c6 c7 c8 c9
 exact ⟨ad, B3, d3, B7, d7, B8, d8, B9, d9, e, ⟨c0, c1, c2, c3, c4, c5, c6, c7, c8, c9⟩, g3, g7, g8, g9, l3, l7, l8, l9⟩
theorem name_c (s : ByteArray) (hs : s.size ≤ B47) : ∃ b : Bool, ∀ w, Calls Tryd.prog 70 #[.string s] w fun e w' => e = .returned (.bool b) ∧ Below w.heap.size w w' := by
 obtain ⟨r, hr⟩ := name_tot s (by unfold B47 at hs; omega) (s.size + 101) (by omega)
 exact ⟨r, fun w => QD.calls _ s r w hr⟩
theorem upper_c (s : ByteArray) (hs : s.size ≤ B47) : ∃ b : Bool, ∀ w, Calls Tryd.prog 65 #[.string s] w fun e w' => e = .returned (.bool b) ∧ Below w.heap.size w w' := by
 obtain ⟨r, hr⟩ := upper_tot s (by unfold B47 at hs; omega) (s.size + 101) (by omega)
 exact ⟨r, fun w => (QN.calls _ s r w hr).mono fun e w' h => ⟨h.1, h.2.below⟩⟩
theorem names_c (l : List ByteArray) (hs : small l B47) (hl : l.length ≤ 100000000000) : ∃ v : Int, ∀ (w : World) {A : Option Addr} {c : Nat} (hC : Kd.string.C w A l.length l) (hc : l.length ≤ c), Calls Tryd.prog 66 #[.slice A l.length c] w fun e w' => e = .returned (.int .i64 v) ∧ Below w.heap.size w w' := by
 obtain ⟨r, hr⟩ := namesf_tot l (by omega) B47 (by decide) hs (l.length + B47 + 201) (by omega)
 exact ⟨r, fun w A c hC hc => Q9.calls _ A c l r w hC hc hr⟩
def XV (e : S29) : Prop := ∀ (w : World) {A3 A4 A5 : Option Addr} {c3 c4 c5 : Nat}, Kd.C Kd.string w A3 e.f3.length e.f3 → e.f3.length ≤ c3 → Kd.C k29 w A4 e.f4.length e.f4 → e.f4.length ≤ c4 → Kd.C k88 w A5 e.f5.length e.f5 → e.f5.length ≤ c5 →
 Calls Tryd.prog 71 #[.agg #[.int .i64 e.f0, .string e.f1, .int .i64 e.f2, .slice A3 e.f3.length c3, .slice A4 e.f4.length c4, .slice A5 e.f5.length c5]] w fun r w' => ∃ v : Int, r = .returned (.int .i64 v) ∧ (v = 0 → Shp e) ∧ Below w.heap.size w w'
theorem XV.at {e : S29} (h : XV e) (w : World) {A3 A4 A5 : Option Addr} {c3 c4 c5 : Nat} (h3 : Kd.C Kd.string w A3 e.f3.length e.f3) (l3 : e.f3.length ≤ c3) (h4 : Kd.C k29 w A4 e.f4.length e.f4) (l4 : e.f4.length ≤ c4) (h5 : Kd.C k88 w A5 e.f5.length e.f5) (l5 : e.f5.length ≤ c5) :
 Calls Tryd.prog 71 #[.agg #[.int .i64 e.f0, .string e.f1, .int .i64 e.f2, .slice A3 e.f3.length c3, .slice A4 e.f4.length c4, .slice A5 e.f5.length c5]] w fun r w' => ∃ v : Int, r = .returned (.int .i64 v) ∧ (v = 0 → Shp e) ∧ Below w.heap.size w w' := h w h3 l3 h4 l4 h5 l5
set_option maxHeartbeats 16000000 in
set_option maxRecDepth 100000 in
theorem validExpr_step (e : S29) (hwf : WF e) (ih : ∀ x ∈ e.f4, XV x) (iha : ∀ a ∈ e.f5, XV a.f4) : XV e := by
 intro w A3 A4 A5 c3 c4 c5 h3 m3 h4 m4 h5 m5
 obtain ⟨⟨⟨w1, w2, w3, w4⟩, n3, n4, n5⟩, wl, wa⟩ := (wf_iff e).1 hwf
 have hfin0 : Qb (Loc e.f0 e.f2 e.f3 e.f4 e.f5 → (∀ x ∈ e.f4, Shp x) → (∀ a ∈ e.f5, Shp a.f4) → Shp e) := ⟨fun hb h1 h2 => (shp_iff e).2 ⟨hb, h1, h2⟩⟩
 have CF : ∀ W, Below w.heap.size w W → _ := fun W hb => form_c e (by omega) (by omega) (by omega) W (c3 := c3) (c4 := c4) (c5 := c5) (Kd.Qj h3 hb) (Kd.Qj h4 hb) (Kd.Qj h5 hb)
 clear hwf
 obtain ⟨f0, f1, f2, l3, l4, l5⟩ := e
 dsimp only at *
 have hwn : Qb (small l3 B47 ∧ l3.length ≤ 100000000000 ∧ l4.length ≤ 100000000000 ∧ l5.length ≤ 100000000000) := ⟨w4, n3, n4, n5⟩
 have hC3 := Qb.mk h3
 have hC4 := Qb.mk h4
 have hC5 := Qb.mk h5
 have hwl := Qb.mk wl
 have hwa := Qb.mk wa
 have hih := Qb.mk ih
 have hiha := Qb.mk iha
 have hw1 := Qb.mk w1
 clear h3 m3 h4 m4 h5 m5 w1 w2 w3 w4 n3 n4 n5 wl wa ih iha
 have E : ∀ W : World, ∀ o : Obj, (W.alloc o).heap.size = W.heap.size + 1 := fun W o => Array.size_push _
 obtain ⟨W0, hW0⟩ : ∃ W0, w.alloc (.cells #[.int .i64 f0, .string f1, .int .i64 f2, .slice A3 l3.length c3, .slice A4 l4.length c4, .slice A5 l5.length c5] 29) = W0 := ⟨_, rfl⟩
 have hB0 : Qb (Below w.heap.size w W0) := ⟨by rw [← hW0]; exact Qd (Below.refl _ _) _⟩
 have hbx : Qb (W0.heap[w.heap.size]? = some (.cells #[.int .i64 f0, .string f1, .int .i64 f2, .slice A3 l3.length c3, .slice A4 l4.length c4, .slice A5 l5.length c5] 29 (0, 0))) := ⟨by rw [← hW0]; exact Qv w _⟩
 have CF0 := CF W0 hB0.out
 have k0 := (Qa hbx.out 0).trans rfl
 have k1 := (Qa hbx.out 1).trans rfl
 have k2 := (Qa hbx.out 2).trans rfl
 have k3 := (Qa hbx.out 3).trans rfl
 have k4 := (Qa hbx.out 4).trans rfl
 have k5 := (Qa hbx.out 5).trans rfl
 clear CF
 obtain ⟨p1, hp1⟩ : ∃ b, (f0 == 1) = b := ⟨_, rfl⟩
 obtain ⟨p4, hp4⟩ : ∃ b, (f0 == 4) = b := ⟨_, rfl⟩
 go_enter Tryd.func71, Tryd.ntmps71
 go_upto_region 1 with (fail)
 go_cut [14] (fun v14 wc => ∃ bf : Bool, v14 = .bool (!bf) ∧ Qb (bf = true → Loc f0 f2 l3 l4 l5) ∧ Qb (Below W0.heap.size W0 wc))
 case first => as_aux_lemma =>
  go_wp2_with (first | (go_at_call 85; (try rw [hW0]); go_loud (with_reducible refine CF0.mono ?_); rintro r w2 ⟨bf, rfl, hbf, hb2⟩; have HB2 := Qb.mk hb2; have hbf := Qb.mk hbf; clear hb2 CF0))
  go_meet
  case rel => exact ⟨bf, rfl, hbf, HB2⟩
 case rest =>
 obtain ⟨bf, rfl, hbf, HB2⟩ := hcut
 rename World => w2
 clear CF0 hW0
 have HB2 := HB2
 cases bf
 ·go_wp2
  go_ret
  exact ⟨108, rfl, fun h => absurd h (by decide), hB0.out.trans (HB2.out.mono hB0.out.size)⟩
 ·have hfin := Qb.mk (fun (_ : true = true) => hfin0.out (hbf.out rfl))
  clear hfin0 hbf
  go_upto_region 3 with (fail)
  go_cut [34] (fun v34 wc => ∃ b : Bool, v34 = .bool b ∧ Qb (Below W0.heap.size W0 wc))
  case first => as_aux_lemma =>
   obtain ⟨bn, CN⟩ := name_c f1 hw1.out
   obtain ⟨bu, CU⟩ := upper_c f1 hw1.out
   have CN := CN w2
   have CU := CU w2
   clear k0 k1 k2 k3 k4 k5
   have k0 := (Qa (Qc hbx.out HB2.out) 0).trans rfl
   have k1 := (Qa (Qc hbx.out HB2.out) 1).trans rfl
   have k2 := (Qa (Qc hbx.out HB2.out) 2).trans rfl
   have k3 := (Qa (Qc hbx.out HB2.out) 3).trans rfl
   have k4 := (Qa (Qc hbx.out HB2.out) 4).trans rfl
   have k5 := (Qa (Qc hbx.out HB2.out) 5).trans rfl
   cases p1
   ·cases p4
    ·go_wp2
     go_meet
     case rel => exact ⟨false, rfl, HB2⟩
    ·go_wp2_with (first | (go_at_call 65; go_loud (with_reducible refine CU.mono ?_); rintro r w3 ⟨rfl, hb3⟩; have HB3 := Qb.mk (Qe HB2.out hb3); clear hb3 CU))
     go_meet
     case rel => exact ⟨!bu, rfl, HB3⟩
   ·cases p4
    ·cases bn
     ·go_wp2_with (first | (go_at_call 70; go_loud (with_reducible refine CN.mono ?_); rintro r w3 ⟨rfl, hb3⟩; have HB3 := Qb.mk (Qe HB2.out hb3); clear hb3 CN))
      go_meet
      case rel => exact ⟨true, rfl, HB3⟩
     ·go_wp2_with (first | (go_at_call 70; go_loud (with_reducible refine CN.mono ?_); rintro r w3 ⟨rfl, hb3⟩; have HB3 := Qb.mk (Qe HB2.out hb3); have j0 := (Qa (Qc hbx.out HB3.out) 0).trans rfl; clear hb3 CN k0 k1 k2 k3 k4 k5))
      go_meet
      case rel => exact ⟨false, rfl, HB3⟩
    ·have h1 := beq_iff_eq.1 hp1
     have h2 := beq_iff_eq.1 hp4
     omega
  case rest =>
   obtain ⟨b34, rfl, HBc⟩ := hcut
   clear HB2 k0 k1 k2 k3 k4 k5 hp1 hp4
   rename World => w5
   cases b34
   ·go_upto_region 5 with (fail)
    go_cut [3] (fun v3 wc => ∃ b : Bool, v3 = .bool b ∧ Qb (Below W0.heap.size W0 wc))
    case first => as_aux_lemma =>
     have k0 := (Qa (Qc hbx.out HBc.out) 0).trans rfl
     have k1 := (Qa (Qc hbx.out HBc.out) 1).trans rfl
     have k2 := (Qa (Qc hbx.out HBc.out) 2).trans rfl
     have k3 := (Qa (Qc hbx.out HBc.out) 3).trans rfl
     have k4 := (Qa (Qc hbx.out HBc.out) 4).trans rfl
     have k5 := (Qa (Qc hbx.out HBc.out) 5).trans rfl
     obtain ⟨z1, hz1⟩ : ∃ b, decide (60 < (l3.length : Int)) = b := ⟨_, rfl⟩
     obtain ⟨z2, hz2⟩ : ∃ b, decide (60 < (l5.length : Int)) = b := ⟨_, rfl⟩
     cases z1 <;> cases z2
     all_goals (go_wp2; go_meet; case rel => exact ⟨_, rfl, HBc⟩)
    case rest =>
     obtain ⟨b3, rfl, HBd⟩ := hcut
     clear HBc
     go_wp2
     go_loopg [4] (l3.length + 1) (fun kq v4 w' => ∃ i : Nat, v4 = .int .i64 (i : Int) ∧ i + kq = l3.length + 1 ∧ 1 ≤ kq ∧ Qb (Below W0.heap.size W0 w'))
     case atStart => exact ⟨0, rfl, by omega, by omega, HBd⟩
     case round =>
      clear HBd
      obtain ⟨i, rfl, hi, hk, hBr⟩ := hrel
      have k0 := (Qa (Qc hbx.out hBr.out) 0).trans rfl
      have k1 := (Qa (Qc hbx.out hBr.out) 1).trans rfl
      have k2 := (Qa (Qc hbx.out hBr.out) 2).trans rfl
      have k3 := (Qa (Qc hbx.out hBr.out) 3).trans rfl
      have k4 := (Qa (Qc hbx.out hBr.out) 4).trans rfl
      have k5 := (Qa (Qc hbx.out hBr.out) 5).trans rfl
      by_cases hlt : i < l3.length
      ·obtain ⟨ad, rfl, hv⟩ := at_str (Kd.Qj (Kd.Qj hC3.out hB0.out) hBr.out) i hlt hlt
       obtain ⟨bn, CN⟩ := name_c l3[i] (hwn.out.1 _ (List.getElem_mem hlt))
       have CN := CN wr
       generalize l3[i] = s at *
       have p0 : (0 : Int) ≤ (i : Int) := by omega
       have p1 : (i : Int) < (l3.length : Int) := by omega
       have q1 : decide ((i : Int) < (l3.length : Int)) = true := decide_eq_true p1
       have hjn : Value.int .i64 (wrap64 ((i : Int) + 1)) = .int .i64 ((i + 1 : Nat) : Int) := by rw [wr1 i (by have := hwn.out; omega)]
       have hi7 : i + 1 + (gk - 1) = l3.length + 1 ∧ 1 ≤ gk - 1 ∧ gk - 1 < gk := by omega
       cases bn
       ·go_wp2_with (first | (go_at_call 70; go_loud (with_reducible refine CN.mono ?_); rintro r w3 ⟨rfl, hb3⟩; have HB3 := Qb.mk (Qe hBr.out hb3); clear hb3 CN))
        go_ret
        exact ⟨109, rfl, fun h => absurd h (by decide), (hB0.out.trans (HB3.out.mono hB0.out.size))⟩
       ·go_wp2_with (first | (go_at_call 70; go_loud (with_reducible refine CN.mono ?_); rintro r w3 ⟨rfl, hb3⟩; have HB3 := Qb.mk (Qe hBr.out hb3); clear hb3 CN))
        go_roundg (gk - 1)
        case measure => exact hi7.2.2
        case rel => exact ⟨i + 1, by first | exact hjn | rfl, hi7.1, hi7.2.1, HB3⟩
      ·have q1 : decide ((i : Int) < (l3.length : Int)) = false := decide_eq_false (by omega)
       clear hi hk
       have HBd := hBr
       clear hBr
       go_wp2
       go_loopg [3, 5] (l5.length + 1) (fun kq v3 v5 w' => ∃ (b : Bool) (i : Nat), v3 = .bool b ∧ v5 = .int .i64 (i : Int) ∧ i + kq = l5.length + 1 ∧ 1 ≤ kq ∧ Qb (Below W0.heap.size W0 w'))
       case atStart => exact ⟨b3, 0, rfl, rfl, by omega, by omega, HBd⟩
       case round =>
        clear HBd k0 k1 k2 k3 k4 k5 q1
        obtain ⟨bm, i, rfl, rfl, hi, hk, hBr⟩ := hrel
        have k0 := (Qa (Qc hbx.out hBr.out) 0).trans rfl
        have k1 := (Qa (Qc hbx.out hBr.out) 1).trans rfl
        have k2 := (Qa (Qc hbx.out hBr.out) 2).trans rfl
        have k3 := (Qa (Qc hbx.out hBr.out) 3).trans rfl
        have k4 := (Qa (Qc hbx.out hBr.out) 4).trans rfl
        have k5 := (Qa (Qc hbx.out hBr.out) 5).trans rfl
        by_cases hlt : i < l5.length
        ·have hxi : l5[i]? = some l5[i] := List.getElem?_eq_getElem hlt
         have ha := hwa.out _ (List.getElem_mem hlt)
         generalize l5[i] = a at hxi ha
         obtain ⟨ad, B3, d3, B7, d7, B8, d8, B9, d9, rfl, ⟨e0, e1, e2, e3, e4, e5, e6, e7, e8, e9⟩, g3, g7, g8, g9, m3, _, _, _⟩ := elem40c (Kd.Qj (Kd.Qj hC5.out hB0.out) hBr.out) i hxi
         obtain ⟨bu, CU⟩ := upper_c a.f1 ha.1.1
         obtain ⟨v, CV⟩ := names_c a.f3 ha.1.2.2.2 ha.2.1
         have hC := Qb.mk g3
         have hm := Qb.mk m3
         clear g3 g7 g8 g9 m3 ha
         obtain ⟨pa, hpa⟩ : ∃ b, (a.f0 == 1) = b := ⟨_, rfl⟩
         obtain ⟨y1, hy1⟩ : ∃ b, (v == 109) = b := ⟨_, rfl⟩
         obtain ⟨y2, hy2⟩ : ∃ b, (v != 0) = b := ⟨_, rfl⟩
         have hv9 : Qb (y1 = true → v ≠ 0) := ⟨fun h e => by rw [h, e] at hy1; exact absurd hy1 (by decide)⟩
         have p0 : (0 : Int) ≤ (i : Int) := by omega
         have p1 : (i : Int) < (l5.length : Int) := by omega
         have q1 : decide ((i : Int) < (l5.length : Int)) = true := decide_eq_true p1
         have hjn : Value.int .i64 (wrap64 ((i : Int) + 1)) = .int .i64 ((i + 1 : Nat) : Int) := by rw [wr1 i (by have := hwn.out; omega)]
         have hi7 : i + 1 + (gk - 1) = l5.length + 1 ∧ 1 ≤ gk - 1 ∧ gk - 1 < gk := by omega
         obtain ⟨Wa, hWa⟩ : ∃ Wa, wr.alloc (.cells #[.int .i64 a.f0, .string a.f1, .int .i64 a.f2, .slice B3 a.f3.length d3, .int .i64 a.f4.f0, .string a.f4.f1, .int .i64 a.f4.f2, .slice B7 a.f4.f3.length d7, .slice B8 a.f4.f4.length d8, .slice B9 a.f4.f5.length d9] 88) = Wa := ⟨_, rfl⟩
         have hBa : Qb (Below wr.heap.size wr Wa) := ⟨by rw [← hWa]; exact Qd (Below.refl _ _) _⟩
         have hab : Qb (Wa.heap[wr.heap.size]? = some (.cells #[.int .i64 a.f0, .string a.f1, .int .i64 a.f2, .slice B3 a.f3.length d3, .int .i64 a.f4.f0, .string a.f4.f1, .int .i64 a.f4.f2, .slice B7 a.f4.f3.length d7, .slice B8 a.f4.f4.length d8, .slice B9 a.f4.f5.length d9] 88 (0, 0))) := ⟨by rw [← hWa]; exact Qv wr _⟩
         have u0 := (Qa hab.out 0).trans rfl
         have u1 := (Qa hab.out 1).trans rfl
         have u3 := (Qa hab.out 3).trans rfl
         cases pa
         ·cases y1 <;> cases y2 <;> cases bm
          all_goals go_wp2_with (first | (go_at_call 66; go_loud (with_reducible refine (CV Wa (Kd.Qj hC.out hBa.out) hm.out).mono ?_); rintro r w4 ⟨rfl, hb4⟩; have HB4 := Qb.mk (Qe (Qe hBr.out hBa.out) hb4); clear hb4))
          all_goals (first | (go_ret; exact ⟨_, rfl, fun h => absurd h (hv9.out (by first | rfl | trivial)), (hB0.out.trans (HB4.out.mono hB0.out.size))⟩) | (go_roundg (gk - 1); (case measure => exact hi7.2.2); (case rel => exact ⟨_, i + 1, rfl, by first | exact hjn | rfl, hi7.1, hi7.2.1, HB4⟩)))
         ·cases bu
          ·go_wp2_with (first | (go_at_call 65; go_loud (with_reducible refine (CU Wa).mono ?_); rintro r w3 ⟨rfl, hb3⟩; have HB3 := Qb.mk hb3; have u3 := (Qa (Qc hab.out hb3) 3).trans rfl; clear hb3 u0 u1))
           go_ret
           exact ⟨109, rfl, fun h => absurd h (by decide), (hB0.out.trans ((Qe (Qe hBr.out hBa.out) HB3.out).mono hB0.out.size))⟩
          ·cases y1 <;> cases y2 <;> cases bm
           all_goals go_wp2_with (first | (go_at_call 65; go_loud (with_reducible refine (CU Wa).mono ?_); rintro r w3 ⟨rfl, hb3⟩; have HB3 := Qb.mk hb3; have u3 := (Qa (Qc hab.out hb3) 3).trans rfl; clear hb3 u0 u1) | (go_at_call 66; go_loud (with_reducible refine (CV w3 (Kd.Qj (Kd.Qj hC.out hBa.out) HB3.out) hm.out).mono ?_); rintro r w4 ⟨rfl, hb4⟩; have HB4 := Qb.mk (Qe (Qe (Qe hBr.out hBa.out) HB3.out) hb4); clear hb4))
           all_goals (first | (go_ret; exact ⟨_, rfl, fun h => absurd h (hv9.out (by first | rfl | trivial)), (hB0.out.trans (HB4.out.mono hB0.out.size))⟩) | (go_roundg (gk - 1); (case measure => exact hi7.2.2); (case rel => exact ⟨_, i + 1, rfl, by first | exact hjn | rfl, hi7.1, hi7.2.1, HB4⟩)))
        ·have q1 : decide ((i : Int) < (l5.length : Int)) = false := decide_eq_false (by omega)
         clear hi hk
         have HBd := hBr
         clear hBr
         cases bm
         ·go_wp2
          go_loopg [8] (l4.length + 1) (fun kq v8 w' => ∃ (i : Nat), v8 = .int .i64 (i : Int) ∧ i + kq = l4.length + 1 ∧ 1 ≤ kq ∧ Qb (Below W0.heap.size W0 w') ∧ Qb (∀ (j : Nat) (x : S29), j < i → l4[j]? = some x → Shp x))
          case atStart => exact ⟨0, rfl, by omega, by omega, HBd, ⟨fun j x hj _ => by omega⟩⟩
          case round =>
           clear HBd k0 k1 k2 k3 k4 k5 q1
           obtain ⟨i, rfl, hi, hk, hBr, hsh⟩ := hrel
           have k0 := (Qa (Qc hbx.out hBr.out) 0).trans rfl
           have k1 := (Qa (Qc hbx.out hBr.out) 1).trans rfl
           have k2 := (Qa (Qc hbx.out hBr.out) 2).trans rfl
           have k3 := (Qa (Qc hbx.out hBr.out) 3).trans rfl
           have k4 := (Qa (Qc hbx.out hBr.out) 4).trans rfl
           have k5 := (Qa (Qc hbx.out hBr.out) 5).trans rfl
           by_cases hlt : i < l4.length
           ·have hxi : l4[i]? = some l4[i] := List.getElem?_eq_getElem hlt
            have hx := hih.out _ (List.getElem_mem hlt)
            generalize l4[i] = x at hxi hx
            obtain ⟨ad, B3, d3, B4, d4, B5, d5, rfl, ⟨e0, e1, e2, e3, e4, e5⟩, g3, g4, g5, m3, m4, m5⟩ := elem33 (Kd.Qj (Kd.Qj hC4.out hB0.out) hBr.out) i hxi
            have CX := hx.at wr g3 m3 g4 m4 g5 m5
            have hnx : Qb (Shp x → ∀ (j : Nat) (z : S29), j < i + 1 → l4[j]? = some z → Shp z) := ⟨fun hs j z hj hz => by by_cases hji : j < i; exact hsh.out j z hji hz; obtain rfl : j = i := (by omega); rw [hxi] at hz; obtain rfl := Option.some.inj hz; exact hs⟩
            clear g3 g4 g5 m3 m4 m5 hx hxi
            have p0 : (0 : Int) ≤ (i : Int) := by omega
            have p1 : (i : Int) < (l4.length : Int) := by omega
            have q1 : decide ((i : Int) < (l4.length : Int)) = true := decide_eq_true p1
            have hjn : Value.int .i64 (wrap64 ((i : Int) + 1)) = .int .i64 ((i + 1 : Nat) : Int) := by rw [wr1 i (by have := hwn.out; omega)]
            have hi7 : i + 1 + (gk - 1) = l4.length + 1 ∧ 1 ≤ gk - 1 ∧ gk - 1 < gk := by omega
            go_wp2_with (first | (go_at_call 71; go_loud (with_reducible refine CX.mono ?_); rintro r w3 ⟨v, rfl, hsv, hb3⟩; have HB3 := Qb.mk (Qe hBr.out hb3); have hsv := Qb.mk hsv; clear hb3 CX))
            all_goals first | (go_ret; exact ⟨_, rfl, fun h => absurd ‹(v != 0) = true› (by rw [h]; decide), (hB0.out.trans (HB3.out.mono hB0.out.size))⟩) | (go_roundg (gk - 1); (case measure => exact hi7.2.2); (case rel => exact ⟨i + 1, by first | exact hjn | rfl, hi7.1, hi7.2.1, HB3, ⟨hnx.out (hsv.out (bne_eq_false_iff_eq.1 ‹(v != 0) = false›))⟩⟩))
           ·have q1 : decide ((i : Int) < (l4.length : Int)) = false := decide_eq_false (by omega)
            have hsl : Qb (∀ x ∈ l4, Shp x) := ⟨fun x hx => by obtain ⟨j, hj, rfl⟩ := List.getElem_of_mem hx; exact hsh.out j _ (by omega) (List.getElem?_eq_getElem hj)⟩
            clear hi hk hsh
            have HBd := hBr
            clear hBr
            go_wp2
            go_loopg [10] (l5.length + 1) (fun kq v10 w' => ∃ (i : Nat), v10 = .int .i64 (i : Int) ∧ i + kq = l5.length + 1 ∧ 1 ≤ kq ∧ Qb (Below W0.heap.size W0 w') ∧ Qb (∀ (j : Nat) (x : S88), j < i → l5[j]? = some x → Shp x.f4))
            case atStart => exact ⟨0, rfl, by omega, by omega, HBd, ⟨fun j x hj _ => by omega⟩⟩
            case round =>
             clear HBd k0 k1 k2 k3 k4 k5 q1
             obtain ⟨i, rfl, hi, hk, hBr, hsh⟩ := hrel
             have k0 := (Qa (Qc hbx.out hBr.out) 0).trans rfl
             have k1 := (Qa (Qc hbx.out hBr.out) 1).trans rfl
             have k2 := (Qa (Qc hbx.out hBr.out) 2).trans rfl
             have k3 := (Qa (Qc hbx.out hBr.out) 3).trans rfl
             have k4 := (Qa (Qc hbx.out hBr.out) 4).trans rfl
             have k5 := (Qa (Qc hbx.out hBr.out) 5).trans rfl
             by_cases hlt : i < l5.length
             ·have hxi : l5[i]? = some l5[i] := List.getElem?_eq_getElem hlt
              have hx := hiha.out _ (List.getElem_mem hlt)
              generalize l5[i] = a at hxi hx
              obtain ⟨ad, B3, d3, B7, d7, B8, d8, B9, d9, rfl, ⟨e0, e1, e2, e3, e4, e5, e6, e7, e8, e9⟩, g3, g7, g8, g9, _, m7, m8, m9⟩ := elem40c (Kd.Qj (Kd.Qj hC5.out hB0.out) hBr.out) i hxi
              have CX := hx.at wr g7 m7 g8 m8 g9 m9
              have hnx : Qb (Shp a.f4 → ∀ (j : Nat) (z : S88), j < i + 1 → l5[j]? = some z → Shp z.f4) := ⟨fun hs j z hj hz => by by_cases hji : j < i; exact hsh.out j z hji hz; obtain rfl : j = i := (by omega); rw [hxi] at hz; obtain rfl := Option.some.inj hz; exact hs⟩
              clear g3 g7 g8 g9 m7 m8 m9 hx hxi
              have p0 : (0 : Int) ≤ (i : Int) := by omega
              have p1 : (i : Int) < (l5.length : Int) := by omega
              have q1 : decide ((i : Int) < (l5.length : Int)) = true := decide_eq_true p1
              have hjn : Value.int .i64 (wrap64 ((i : Int) + 1)) = .int .i64 ((i + 1 : Nat) : Int) := by rw [wr1 i (by have := hwn.out; omega)]
              have hi7 : i + 1 + (gk - 1) = l5.length + 1 ∧ 1 ≤ gk - 1 ∧ gk - 1 < gk := by omega
              go_wp2_with (first | (go_at_call 71; go_loud (with_reducible refine CX.mono ?_); rintro r w3 ⟨v, rfl, hsv, hb3⟩; have HB3 := Qb.mk (Qe hBr.out hb3); have hsv := Qb.mk hsv; clear hb3 CX))
              all_goals first | (go_ret; exact ⟨_, rfl, fun h => absurd ‹(v != 0) = true› (by rw [h]; decide), (hB0.out.trans (HB3.out.mono hB0.out.size))⟩) | (go_roundg (gk - 1); (case measure => exact hi7.2.2); (case rel => exact ⟨i + 1, by first | exact hjn | rfl, hi7.1, hi7.2.1, HB3, ⟨hnx.out (hsv.out (bne_eq_false_iff_eq.1 ‹(v != 0) = false›))⟩⟩))
             ·have q1 : decide ((i : Int) < (l5.length : Int)) = false := decide_eq_false (by omega)
              have hsa : Qb (∀ x ∈ l5, Shp x.f4) := ⟨fun x hx => by obtain ⟨j, hj, rfl⟩ := List.getElem_of_mem hx; exact hsh.out j _ (by omega) (List.getElem?_eq_getElem hj)⟩
              go_wp2
              go_ret
              exact ⟨0, rfl, fun _ => hfin.out (by first | rfl | trivial) hsl.out hsa.out, (hB0.out.trans (hBr.out.mono hB0.out.size))⟩
         ·go_wp2
          go_ret
          exact ⟨104, rfl, fun h => absurd h (by decide), (hB0.out.trans (HBd.out.mono hB0.out.size))⟩
   ·go_wp2
    go_ret
    exact ⟨109, rfl, fun h => absurd h (by decide), (hB0.out.trans (HBc.out.mono hB0.out.size))⟩
mutual
def sz109 : Vm → Nat
 | ⟨_, l, _⟩ => 1 + sz56L l
def sz56L : List Vm → Nat
 | [] => 0
 | e :: l => sz109 e + sz56L l
end
theorem sz109_eq (x : Vm) : sz109 x = 1 + sz56L x.f1 := by cases x; simp only [sz109]
theorem sz109_drop {l : List Vm} {i : Nat} (h : i < l.length) : sz56L (l.drop i) = sz109 l[i] + sz56L (l.drop (i + 1)) := by rw [List.drop_eq_getElem_cons h]; simp only [sz56L]
theorem sz109_mem : ∀ {l : List Vm} {x : Vm}, x ∈ l → sz109 x ≤ sz56L l
 | _ :: l, x, h => by
  simp only [sz56L]
  rcases List.mem_cons.1 h with rfl | h
  ·omega
  ·have := sz109_mem h; omega
def Bd56 : Nat → List Vm → Prop
 | 0, l => l = []
 | m + 1, l => l.length ≤ 9223372036854775807 ∧ ∀ x ∈ l, Bd56 m x.f1
theorem bd56_of : ∀ (m : Nat) (l : List Vm), sz56L l < m → ∀ {W : World} {A : Option Addr} {n : Nat}, k109.C W A n l → Bd56 m l
 | 0, l, h, _, _, _, _ => by omega
 | m + 1, l, h, W, A, n, hC => by
  refine ⟨by have h1 := hC.1; have h2 := hC.2.1; omega, fun x hx => ?_⟩
  obtain ⟨i, hi, rfl⟩ := List.getElem_of_mem hx
  obtain ⟨ad, c, e, _, hK, _⟩ := Kd.C_get hC z109 (i : Int) (by omega) (by have := hC.1; omega)
  have hr : l.getD (i : Int).toNat z109 = l[i] := by rw [Int.toNat_natCast, List.getD_eq_getElem?_getD, List.getElem?_eq_getElem hi]; rfl
  rw [hr] at hK
  obtain ⟨A1, c1, _, _, hC1⟩ := k109_open hK
  exact bd56_of m _ (by have h1 := sz109_mem hx; rw [sz109_eq] at h1; omega) hC1
theorem deep_l0 : ∀ (k m : Nat) (l : List Vm) (d : Int) (i : Nat), Bd56 (m + 1) l → i ≤ l.length → sz56L (l.drop i) * 2 + 2 ≤ k → ∃ r, Qu.l0 k l d (i : Int) = some r
 | 0, m, l, d, i, hb, hi, hk => by omega
 | 1, m, l, d, i, hb, hi, hk => by omega
 | k + 2, m, l, d, i, hb, hi, hk => by
  rw [Qu.l0]
  by_cases hlt : i < l.length
  ·have hd := sz109_drop hlt
   have hsz := sz109_eq l[i]
   have hr : QG l (i : Int) = l[i] := by unfold QG; rw [Int.toNat_natCast, List.getD_eq_getElem?_getD, List.getElem?_eq_getElem hlt]; rfl
   have hw : wrap64 ((i : Int) + 1) = ((i + 1 : Nat) : Int) := by have := hb.1; unfold wrap64; omega
   have hrec : ∀ d', ∃ r, Qu.l0 (k + 1) l d' ((i + 1 : Nat) : Int) = some r := fun d' => deep_l0 (k + 1) m l d' (i + 1) hb (by omega) (by omega)
   rw [if_pos (by omega), if_pos (by omega), hr, hw]
   refine ite_ex (bind_ex ?_ (fun q => hrec _)) (hrec _)
   rw [Qu.f]
   have hbx := hb.2 _ (List.getElem_mem hlt)
   cases m with
   | zero =>
    have hbx : l[i].f1 = [] := hbx
    rw [hbx]
    cases k with
    | zero => omega
    | succ k => rw [Qu.l0]; exact ⟨_, rfl⟩
   | succ m => exact deep_l0 k m _ 0 0 hbx (Nat.zero_le _) (by rw [List.drop_zero]; omega)
  ·rw [if_neg (by omega)]
   exact ⟨_, rfl⟩
theorem deep_c (l : List Vm) {W : World} {A : Option Addr} {c : Nat} (hC : k109.C W A l.length l) (hc : l.length ≤ c) : Calls Tryd.prog 68 #[.slice A l.length c] W fun e w' => ∃ v : Int, e = .returned (.int .i64 v) ∧ Below W.heap.size W w' := by
 obtain ⟨r, hr⟩ : ∃ r, Qu.f (sz56L l * 2 + 3) l = some r := by
  rw [Qu.f]
  exact deep_l0 _ (sz56L l) l 0 0 (bd56_of _ l (Nat.lt_succ_self _) hC) (Nat.zero_le _) (by rw [List.drop_zero]; exact Nat.le_refl _)
 exact (Qu.calls _ A c l r W hC hc hr).mono fun e w' h => ⟨r, h⟩
theorem deep_1 {W : World} {q n c : Nat} {s : ByteArray} {A : Option Addr} {z : Nat} (hn : NL W q A n z) (hc : n ≤ c) :
  Calls Tryd.prog 68 #[.slice (some ⟨W.heap.size, 0, none⟩) 1 1] (W.alloc (.cells #[.string s, .slice A n c, .int .i64 0] 109)) fun e w' => ∃ v : Int, e = .returned (.int .i64 v) ∧ Below (W.alloc (.cells #[.string s, .slice A n c, .int .i64 0] 109)).heap.size (W.alloc (.cells #[.string s, .slice A n c, .int .i64 0] 109)) w' := by
 obtain ⟨xs, ⟨_, hx⟩, _⟩ := hn
 have hb := Qv W (.cells #[.string s, .slice A n c, .int .i64 0] 109 (0, 0))
 have hK := nodeK (Kd.F_alloc hx (.cells #[.string s, .slice A n c, .int .i64 0] 109)) hc s
 exact deep_c [⟨s, xs, 0⟩] (ZL hb (QB.c3 (Kd.FK_now hK) (QB.none _ _)) (by simp)) (Nat.le_refl _)
theorem validExpr_all : ∀ (m : Nat) (e : S29), cost e ≤ m → WF e → XV e
 | 0, e, hc, _ => by have := cost_eq e; omega
 | m + 1, e, hc, hw => by
  have h := (wf_iff e).1 hw
  exact validExpr_step e hw (fun x hx => validExpr_all m x (by have := cost_mem hx; omega) (h.2.1 x hx)) (fun a ha => validExpr_all m a.f4 (by have := cost_memA ha; omega) (h.2.2 a ha).2.2)
theorem NX.nil (W : World) (b : Nat) (x : Option Nat) : NX W b x none 0 0 := ⟨[], ⟨rfl, Kd.F_nil _ _ _⟩, rfl⟩
structure GN (W : World) (b xb : Nat) (s : ByteArray) (A : Option Addr) (n c z : Nat) : Prop where
 ho : W.heap[xb]? = some (.cells #[.string s, .slice A n c, .int .i64 0] 109 (0, 0))
 hr : NR W b (some xb) A n c z
 hx : b ≤ xb
section
variable {W W1 : World} {b xb n c m c6 z z6 : Nat} {s : ByteArray} {A A6 : Option Addr}
theorem GN.lt (h : GN W b xb s A n c z) : xb < W.heap.size := (Array.getElem?_eq_some_iff.1 h.ho).1
theorem GN.below (h : GN W b xb s A n c z) (hb : Below W.heap.size W W1) : GN W1 b xb s A n c z := ⟨Qc h.ho hb, NR.below h.hr hb, h.hx⟩
theorem GN.at (h : GN W b xb s A n c z) (hg : W.grownBy W1 (Value.slice A n c).ownBlock) : W1.heap[xb]? = some (.cells #[.string s, .slice A n c, .int .i64 0] 109 (0, 0)) := (NR.keep h.hr hg h.lt).trans h.ho
theorem GN.app (h : GN W b xb s A n c z) (hg : W.grownBy W1 (Value.slice A n c).ownBlock) (h6 : NR W1 b (some xb) A6 m c6 z6) : GN (W1.setCell ⟨xb, 1, none⟩ (.slice A6 m c6)) b xb s A6 m c6 z6 := ⟨QP (h.at hg) 1 _ rfl, NR.far h6 (.inr rfl) _, h.hx⟩
end
theorem NL.far3 {W : World} {b n z : Nat} {A : Option Addr} (h : NL W b A n z) {q : Nat} (hq : q < b) (v0 v1 v2 : Value) : NL (((W.setCell ⟨q, 0, none⟩ v0).setCell ⟨q, 1, none⟩ v1).setCell ⟨q, 2, none⟩ v2) b A n z := ((h.far (p := ⟨q, 0, none⟩) hq _).far (p := ⟨q, 1, none⟩) hq _).far (p := ⟨q, 2, none⟩) hq _
theorem app_list {ops : Array Oper} {rest : List Oper} {o : Oper} {a : Act} {Q : Exit → Act → World → Prop} {W w0 : World} {A A1 : Option Addr} {n c z n1 c1 z1 : Nat} {s1 : ByteArray} (b : Nat) (hgd : o.guard = none) (s x : Operand) (ho : o.op = .call { callee := .builtin .append, args := #[s, x], argTypes := #[107, 107] }) {x0 : Option Nat} {q : Nat}
  (hs : a.eval s = .slice A n c) (hx : a.eval x = .slice (some ⟨W.heap.size, 0, none⟩) 1 1) (HO : NR W b x0 A n c z) (h1 : NL W q A1 n1 z1) (hc1 : n1 ≤ c1) (hq : ∀ k, (Value.slice A n c).ownBlock = some k → k < q) (hbq : b ≤ q) (hxq : ∀ y, x0 = some y → y < q ∧ y < W.heap.size) (HB : Below b w0 W) (hbase : b ≤ W.heap.size) (hl : n ≤ 2000000000000)
  (h : ∀ A3 c3 w3, NR w3 b x0 A3 (n + 1) c3 (z + (s1.size + 3 + z1)) → Below b w0 w3 → W.grownBy w3 (Value.slice A n c).ownBlock → wpList Tryd.prog ops Q rest (a.put o.dst (.slice A3 (n + 1) c3)) w3) :
  wpList Tryd.prog ops Q (o :: rest) a (W.alloc (.cells #[.string s1, .slice A1 n1 c1, .int .i64 0] 109)) := by
 obtain ⟨xs, HO, rfl⟩ := HO
 obtain ⟨x1, h1, rfl⟩ := h1
 refine DepA.app_list (w0 := w0) b hgd s x ho hs hx HO h1 hc1 hq hbq hxq HB hbase hl ?_
 intro A3 c3 w3 h3 hb hg
 exact h A3 c3 w3 ⟨_, h3, by rw [Vj, tszL_one]⟩ hb hg
theorem typeNode_c (t : S67) (hb : Zo t ≤ 100000000000) (w : World) {A : Option Addr} {c : Nat} (hC : k67.C w A t.f1.length t.f1) : Calls Tryd.prog 84 #[.agg #[.string t.f0, .slice A t.f1.length c]] w (ND (tsz (tN t)) w) :=
 (typeNode_all _ t (Nat.le_refl _) hb w hC).mono fun r w' ⟨A1, n, c1, h1, h2, h3, h4⟩ => ⟨_, A1, n, c1, _, h1, by generalize tN t = z; obtain ⟨_, _, _⟩ := z; simp only [tsz]; exact Nat.le_refl _, h2, ⟨_, h3, rfl⟩, h4⟩
def cB (x : S65) : Nat := x.f0.size + 20 + Zf (x.f1.map tN)
def cBL (l : List S65) : Nat := (l.map cB).sum
theorem cBL_take {l : List S65} {i : Nat} {x : S65} (h : l[i]? = some x) : cBL (l.take (i + 1)) = cBL (l.take i) + cB x := by
 unfold cBL
 rw [← take_snoc h]
 simp
theorem cBL_le (l : List S65) (i : Nat) : cBL (l.take i) ≤ cBL l := by
 have h : cBL l = cBL (l.take i) + cBL (l.drop i) := by
  unfold cBL
  rw [← List.sum_append, ← List.map_append, List.take_append_drop]
 omega
theorem tszL_take {l : List NdT} {i : Nat} {x : NdT} (h : l[i]? = some x) : Zf (l.take (i + 1)) = Zf (l.take i) + tsz x := by
 rw [← take_snoc h, Vj]
 simp [Zf]
theorem tszL_le (l : List NdT) (i : Nat) : Zf (l.take i) ≤ Zf l := by
 have h : Zf l = Zf (l.take i) + Zf (l.drop i) := by rw [← Vj, List.take_append_drop]
 omega
theorem elemC {W : World} {A : Option Addr} {n : Nat} {l : List S65} (hC : k65.C W A n l) (i : Nat) {x : S65} (hx : l[i]? = some x) : ∃ ad A1 c1, A = some ad ∧ (W.cell? (ad.add (i * 2)) = some (.string x.f0) ∧ W.cell? ⟨(ad.add (i * 2)).block, (ad.add (i * 2)).off + 1, none⟩ = some (.slice A1 x.f1.length c1)) ∧ x.f1.length ≤ c1 ∧ k67.C W A1 x.f1.length x.f1 := by
 have hi := (List.getElem?_eq_some_iff.1 hx).1
 obtain ⟨ad, A1, c1, e, h0, h1, l1, g1⟩ := at_T65 hC (i : Int) (by omega) (by have := hC.1; omega)
 have hr : rd_T65 l (i : Int) = x := by
  unfold rd_T65
  rw [Int.toNat_natCast, List.getD_eq_getElem?_getD, hx]
  rfl
 rw [hr] at h0 h1 l1 g1
 rw [Int.toNat_natCast] at h0 h1
 exact ⟨ad, A1, c1, e, ⟨h0, h1⟩, l1, g1⟩
set_option maxHeartbeats 16000000 in
set_option maxRecDepth 100000 in
theorem dataNode_c (dn : ByteArray) (ps : List ByteArray) (cs : List S65) (h1 : ps.length ≤ 100000000000) (h2 : cs.length ≤ 100000000000) (hT : ∀ x ∈ cs, x.f1.length ≤ 100000000000 ∧ ∀ t ∈ x.f1, Zo t ≤ 100000000000) (w : World) {A1 A2 : Option Addr} {c1 c2 : Nat} (hC1 : Kd.string.C w A1 ps.length ps) (hC2 : k65.C w A2 cs.length cs) :
  Calls Tryd.prog 69 #[.agg #[.string dn, .slice A1 ps.length c1, .slice A2 cs.length c2]] w (ND (dn.size + nmz ps + cBL cs + 100) w) := by
 have E : ∀ W : World, ∀ o : Obj, (W.alloc o).heap.size = W.heap.size + 1 := fun W o => Array.size_push _
 obtain ⟨W0, hW0⟩ : ∃ W0, (w.alloc (.cells #[.string dn, .slice A1 ps.length c1, .slice A2 cs.length c2] 56)).alloc (.cells #[.string ⟨#[]⟩, .slice none 0 0, .int .i64 0] 109) = W0 := ⟨_, rfl⟩
 have hB0 : Qb (Below w.heap.size w W0) := ⟨by rw [← hW0]; exact Qd (Qd (Below.refl _ _) _) _⟩
 have hbx : Qb (W0.heap[w.heap.size]? = some (.cells #[.string dn, .slice A1 ps.length c1, .slice A2 cs.length c2] 56 (0, 0))) := ⟨by rw [← hW0]; exact (Below.heap_alloc _ _ _ (by rw [E]; omega)).trans (Qv w _)⟩
 have hrx : Qb (W0.heap[w.heap.size + 1]? = some (.cells #[.string ⟨#[]⟩, .slice none 0 0, .int .i64 0] 109 (0, 0))) := ⟨by rw [← hW0]; rw [← E w]; exact Qv _ _⟩
 have hsz : Qb (W0.heap.size = w.heap.size + 1 + 1) := ⟨by rw [← hW0, E, E]⟩
 have k0 := (Qa hbx.out 0).trans rfl
 have k1 := (Qa hbx.out 1).trans rfl
 have k2 := (Qa hbx.out 2).trans rfl
 have hD1 := Qb.mk (Kd.Qj hC1 hB0.out)
 have hD2 := Qb.mk (Kd.Qj hC2 hB0.out)
 have hl9 := Qb.mk (And.intro h1 h2)
 have hT9 := Qb.mk hT
 clear hC1 hC2 h1 h2 hT
 go_enter Tryd.func69, Tryd.ntmps69
 go_wp2
 (try rw [hW0])
 clear hW0 k0 k1 k2
 have HB_ : Below W0.heap.size W0 W0.drew := Qi (Below.refl _ _)
 refine QZ (n := 8) (S := fun w' => w'.cell? ⟨w.heap.size, 0, none⟩ = some (.string dn)) (ds := [7]) (bm 8 0) (by kernel_rfl) rfl rfl ((Qa (Qc hbx.out HB_) 0).trans rfl) (fun hHeld => ?_)
 generalize W0.drew = W9 at *
 refine Q4 (i := 1) (N := some 9) (v := ?_) (a' := ?_) (bm 8 2) rfl rfl (by kernel_rfl) (fun _ _ _ h => h) (Or.inl ⟨by rfl, ?_⟩) ?_ ?_
 rotate_left
 ·intro w'
  go_simp
  with_reducible rfl
 rotate_left
 ·simp only [Act.put, sA, sB, sC, Qk, Ql]
  rfl
 refine QE (i := 2) (N := some 10) (v := ?_) (a' := ?_) (bm 8 6) rfl rfl (by kernel_rfl) (fun _ _ _ h => h) (Or.inl ⟨by rfl, ?_⟩) hHeld ?_ ?_
 rotate_left
 ·intro w' s0
  go_simp
  with_reducible rfl
 rotate_left
 ·simp only [Act.put, sA, sB, sC, Qk, Ql]
  rfl
 refine Ze (σ := Nat × Nat) 1 (bm 8 127) (fun s_ => [(8, .agg #[.string ⟨#[100, 97, 116, 97]⟩, .slice none 0 0, .int .i64 0]), (11, .agg #[.string dn, .slice none 0 0, .int .i64 0]), (12, .slice (some ⟨s_.1, 0, none⟩) 2 2), (13, .agg #[.string ⟨#[]⟩, .slice (some ⟨s_.1, 0, none⟩) 2 2, .int .i64 0]), (3, .pointer (some ⟨s_.2, 0, none⟩))]) (fun s_ w' => (Below W0.heap.size W0 w') ∧ (NR w' W0.heap.size (some s_.2) (some ⟨s_.1, 0, Option.none⟩) 2 2 (4 + 3 + 0 + (dn.size + 3 + 0))) ∧ (w'.heap[s_.2]? = some (.cells #[.string ⟨#[]⟩, .slice none 0 0, .int .i64 0] 109 (0, 0)) ∧ W0.heap.size ≤ s_.2)) ?_ ?_
 rotate_left
 ·intro hJ0_3_4_5_6
  refine Ze (σ := Nat × Nat) 2 (bm 8 63) (fun s_ => [(8, .agg #[.string ⟨#[100, 97, 116, 97]⟩, .slice none 0 0, .int .i64 0]), (11, .agg #[.string dn, .slice none 0 0, .int .i64 0]), (12, .slice (some ⟨s_.1, 0, none⟩) 2 2), (13, .agg #[.string ⟨#[]⟩, .slice (some ⟨s_.1, 0, none⟩) 2 2, .int .i64 0])]) (fun s_ w' => (Below W0.heap.size W0 w') ∧ (NR w' W0.heap.size Option.none (some ⟨s_.1, 0, Option.none⟩) 2 2 (4 + 3 + 0 + (dn.size + 3 + 0)))) ?_ ?_
  rotate_left
  ·intro hJ0_3_4_5
   refine Ze (σ := Nat × Nat) 2 (bm 8 95) (fun s_ => [(8, .agg #[.string ⟨#[100, 97, 116, 97]⟩, .slice none 0 0, .int .i64 0]), (11, .agg #[.string dn, .slice none 0 0, .int .i64 0]), (12, .slice (some ⟨s_.1, 0, none⟩) 2 2), (3, .pointer (some ⟨s_.2, 0, none⟩))]) (fun s_ w' => (Below W0.heap.size W0 w') ∧ (NR w' W0.heap.size (some s_.2) (some ⟨s_.1, 0, Option.none⟩) 2 2 (4 + 3 + 0 + (dn.size + 3 + 0))) ∧ (w'.heap[s_.2]? = some (.cells #[.string ⟨#[]⟩, .slice none 0 0, .int .i64 0] 109 (0, 0)) ∧ W0.heap.size ≤ s_.2)) ?_ ?_
   rotate_left
   ·intro hJ0_3_4_6
    refine Ze (σ := Nat × Nat) 3 (bm 8 31) (fun s_ => [(8, .agg #[.string ⟨#[100, 97, 116, 97]⟩, .slice none 0 0, .int .i64 0]), (11, .agg #[.string dn, .slice none 0 0, .int .i64 0]), (12, .slice (some ⟨s_.1, 0, none⟩) 2 2)]) (fun s_ w' => (Below W0.heap.size W0 w') ∧ (NR w' W0.heap.size Option.none (some ⟨s_.1, 0, Option.none⟩) 2 2 (4 + 3 + 0 + (dn.size + 3 + 0)))) ?_ ?_
    rotate_left
    ·intro hJ0_3_4
     refine Ze (σ := Nat × Nat) 3 (bm 8 79) (fun s_ => [(8, .agg #[.string ⟨#[100, 97, 116, 97]⟩, .slice none 0 0, .int .i64 0]), (11, .agg #[.string dn, .slice none 0 0, .int .i64 0]), (3, .pointer (some ⟨s_.2, 0, none⟩))]) (fun s_ w' => (Below W0.heap.size W0 w') ∧ (w'.heap[s_.2]? = some (.cells #[.string ⟨#[]⟩, .slice none 0 0, .int .i64 0] 109 (0, 0)) ∧ W0.heap.size ≤ s_.2)) ?_ ?_
     rotate_left
     ·intro hJ0_3_6
      refine Ze (σ := Nat × Nat) 4 (bm 8 15) (fun s_ => [(8, .agg #[.string ⟨#[100, 97, 116, 97]⟩, .slice none 0 0, .int .i64 0]), (11, .agg #[.string dn, .slice none 0 0, .int .i64 0])]) (fun s_ w' => (Below W0.heap.size W0 w')) ?_ ?_
      rotate_left
      ·intro hJ0_3
       refine Ze (σ := Nat × Nat) 4 (bm 8 71) (fun s_ => [(8, .agg #[.string ⟨#[100, 97, 116, 97]⟩, .slice none 0 0, .int .i64 0]), (3, .pointer (some ⟨s_.2, 0, none⟩))]) (fun s_ w' => (Below W0.heap.size W0 w') ∧ (w'.heap[s_.2]? = some (.cells #[.string ⟨#[]⟩, .slice none 0 0, .int .i64 0] 109 (0, 0)) ∧ W0.heap.size ≤ s_.2)) ?_ ?_
       rotate_left
       ·intro hJ0_6
        refine Ze (σ := Nat × Nat) 5 (bm 8 7) (fun s_ => [(8, .agg #[.string ⟨#[100, 97, 116, 97]⟩, .slice none 0 0, .int .i64 0])]) (fun s_ w' => (Below W0.heap.size W0 w')) ?_ ?_
        rotate_left
        ·intro hJ0
         refine Ze (σ := Nat × Nat) 5 (bm 8 70) (fun s_ => [(3, .pointer (some ⟨s_.2, 0, none⟩))]) (fun s_ w' => (Below W0.heap.size W0 w') ∧ (w'.heap[s_.2]? = some (.cells #[.string ⟨#[]⟩, .slice none 0 0, .int .i64 0] 109 (0, 0)) ∧ W0.heap.size ≤ s_.2)) ?_ ?_
         rotate_left
         ·intro hJ6
          refine two_ (i := 0) (j := 6) (Ni := some 8) (Nj := some 3) (bm 8 7) (bm 8 70) rfl rfl rfl rfl (by kernel_rfl) (by decide) (by decide) (fun K hK => ?_) (fun K hK => ?_)
          ·skip
           refine QI Tryd.func82 (by kernel_rfl) rfl #[.string ⟨#[100, 97, 116, 97]⟩] (by rfl) rfl rfl (by simp only [List.map_toArray, List.map_cons, List.map_nil]; rfl) ?_
           (with_reducible refine (QV _ W9).mono ?_)
           rintro e w3 ⟨rfl, hbq⟩
           refine ⟨_, rfl, ?_⟩
           have HBn := Qe HB_ hbq
           refine hK.out _ _ ((Qa (Qc hbx.out HBn) 0).trans rfl) (fun hHeld => ?_)
           clear hK K
           refine Qq (a' := ?_) ?_ ?_
           rotate_left
           ·show Act.put _ (some 8) _ = _
            simp only [Act.put, sA, sB, sC, Qk, Ql]
            rfl
           exact Qq (by first | (simp only [Qs, Act.put, List.setIfInBounds_toArray, List.set_cons_zero, List.set_cons_succ]; done) | (simp only [Qs, Act.put, List.setIfInBounds_toArray, List.set_cons_zero, List.set_cons_succ]; rfl)) (hJ0 (0, 0) _ HBn)
          ·skip
           refine QM (w1 := ?_) (v := ?_) (by rfl) rfl ?_ ?_
           rotate_left 2
           ·go_simp
            constructor
            ·rfl
            ·rfl
           have hbq := Qd (Below.refl W9.heap.size W9) (.cells #[.string ⟨#[]⟩, .slice none 0 0, .int .i64 0] 109)
           have HBn := Qe HB_ hbq
           refine hK.out _ _ ((Qa (Qc hbx.out HBn) 0).trans rfl) (fun hHeld => ?_)
           clear hK K
           refine Qq (a' := ?_) ?_ ?_
           rotate_left
           ·show Act.put _ (some 3) _ = _
            simp only [Act.put, sA, sB, sC, Qk, Ql]
            rfl
           exact Qq (by first | (simp only [Qs, Act.put, List.setIfInBounds_toArray, List.set_cons_zero, List.set_cons_succ]; done) | (simp only [Qs, Act.put, List.setIfInBounds_toArray, List.set_cons_zero, List.set_cons_succ]; rfl)) (hJ6 (0, W9.heap.size) _ ⟨HBn, ⟨Qv W9 _, HB_.size⟩⟩)
         ·skip
          rintro ⟨b6, xb⟩ W9 ⟨HB_, hx8⟩
          skip
          have hHeld : W9.cell? ⟨w.heap.size, 0, none⟩ = some (.string dn) := (Qa (Qc hbx.out HB_) 0).trans rfl
          refine Qq (a' := ?_) ?_ ?_
          rotate_left
          ·simp only [Qs, Act.put, List.setIfInBounds_toArray, List.set_cons_zero, List.set_cons_succ]
           rfl
          refine QQ (i := 0) (N := some 8) (bm 8 71) rfl rfl (by kernel_rfl) (by decide) (fun K hK => ?_)
          refine QI Tryd.func82 (by kernel_rfl) rfl #[.string ⟨#[100, 97, 116, 97]⟩] (by rfl) rfl rfl (by simp only [List.map_toArray, List.map_cons, List.map_nil]; rfl) ?_
          (with_reducible refine (QV _ W9).mono ?_)
          rintro e w3 ⟨rfl, hbq⟩
          refine ⟨_, rfl, ?_⟩
          have HBn := Qe HB_ hbq
          refine hK.out _ _ ((Qa (Qc hbx.out HBn) 0).trans rfl) (fun hHeld => ?_)
          clear hK K
          refine Qq (a' := ?_) ?_ ?_
          rotate_left
          ·show Act.put _ (some 8) _ = _
           simp only [Act.put, sA, sB, sC, Qk, Ql]
           rfl
          exact Qq (by first | (simp only [Qs, Act.put, List.setIfInBounds_toArray, List.set_cons_zero, List.set_cons_succ]; done) | (simp only [Qs, Act.put, List.setIfInBounds_toArray, List.set_cons_zero, List.set_cons_succ]; rfl)) (hJ0_6 (b6, xb) _ ⟨HBn, ⟨Qc hx8.1 hbq, hx8.2⟩⟩)
        ·skip
         rintro ⟨b6, xb⟩ W9 HB_
         skip
         have hHeld : W9.cell? ⟨w.heap.size, 0, none⟩ = some (.string dn) := (Qa (Qc hbx.out HB_) 0).trans rfl
         refine Qq (a' := ?_) ?_ ?_
         rotate_left
         ·simp only [Qs, Act.put, List.setIfInBounds_toArray, List.set_cons_zero, List.set_cons_succ]
          rfl
         refine two_ (i := 3) (j := 6) (Ni := some 11) (Nj := some 3) (bm 8 15) (bm 8 71) rfl rfl rfl rfl (by kernel_rfl) (by decide) (by decide) (fun K hK => ?_) (fun K hK => ?_)
         ·skip
          refine QI Tryd.func82 (by kernel_rfl) rfl #[.string dn] (by rfl) rfl rfl (by simp only [List.map_toArray, List.map_cons, List.map_nil]; rfl) ?_
          (with_reducible refine (QV dn W9).mono ?_)
          rintro e w3 ⟨rfl, hbq⟩
          refine ⟨_, rfl, ?_⟩
          have HBn := Qe HB_ hbq
          refine hK.out _ _ ((Qa (Qc hbx.out HBn) 0).trans rfl) (fun hHeld => ?_)
          clear hK K
          refine Qq (a' := ?_) ?_ ?_
          rotate_left
          ·show Act.put _ (some 11) _ = _
           simp only [Act.put, sA, sB, sC, Qk, Ql]
           rfl
          exact Qq (by first | (simp only [Qs, Act.put, List.setIfInBounds_toArray, List.set_cons_zero, List.set_cons_succ]; done) | (simp only [Qs, Act.put, List.setIfInBounds_toArray, List.set_cons_zero, List.set_cons_succ]; rfl)) (hJ0_3 (b6, xb) _ HBn)
         ·skip
          refine QM (w1 := ?_) (v := ?_) (by rfl) rfl ?_ ?_
          rotate_left 2
          ·go_simp
           constructor
           ·rfl
           ·rfl
          have hbq := Qd (Below.refl W9.heap.size W9) (.cells #[.string ⟨#[]⟩, .slice none 0 0, .int .i64 0] 109)
          have HBn := Qe HB_ hbq
          refine hK.out _ _ ((Qa (Qc hbx.out HBn) 0).trans rfl) (fun hHeld => ?_)
          clear hK K
          refine Qq (a' := ?_) ?_ ?_
          rotate_left
          ·show Act.put _ (some 3) _ = _
           simp only [Act.put, sA, sB, sC, Qk, Ql]
           rfl
          exact Qq (by first | (simp only [Qs, Act.put, List.setIfInBounds_toArray, List.set_cons_zero, List.set_cons_succ]; done) | (simp only [Qs, Act.put, List.setIfInBounds_toArray, List.set_cons_zero, List.set_cons_succ]; rfl)) (hJ0_6 (b6, W9.heap.size) _ ⟨HBn, ⟨Qv W9 _, HB_.size⟩⟩)
       ·skip
        rintro ⟨b6, xb⟩ W9 ⟨HB_, hx8⟩
        skip
        have hHeld : W9.cell? ⟨w.heap.size, 0, none⟩ = some (.string dn) := (Qa (Qc hbx.out HB_) 0).trans rfl
        refine Qq (a' := ?_) ?_ ?_
        rotate_left
        ·simp only [Qs, Act.put, List.setIfInBounds_toArray, List.set_cons_zero, List.set_cons_succ]
         rfl
        refine QQ (i := 3) (N := some 11) (bm 8 79) rfl rfl (by kernel_rfl) (by decide) (fun K hK => ?_)
        refine QI Tryd.func82 (by kernel_rfl) rfl #[.string dn] (by rfl) rfl rfl (by simp only [List.map_toArray, List.map_cons, List.map_nil]; rfl) ?_
        (with_reducible refine (QV dn W9).mono ?_)
        rintro e w3 ⟨rfl, hbq⟩
        refine ⟨_, rfl, ?_⟩
        have HBn := Qe HB_ hbq
        refine hK.out _ _ ((Qa (Qc hbx.out HBn) 0).trans rfl) (fun hHeld => ?_)
        clear hK K
        refine Qq (a' := ?_) ?_ ?_
        rotate_left
        ·show Act.put _ (some 11) _ = _
         simp only [Act.put, sA, sB, sC, Qk, Ql]
         rfl
        exact Qq (by first | (simp only [Qs, Act.put, List.setIfInBounds_toArray, List.set_cons_zero, List.set_cons_succ]; done) | (simp only [Qs, Act.put, List.setIfInBounds_toArray, List.set_cons_zero, List.set_cons_succ]; rfl)) (hJ0_3_6 (b6, xb) _ ⟨HBn, ⟨Qc hx8.1 hbq, hx8.2⟩⟩)
      ·skip
       rintro ⟨b6, xb⟩ W9 HB_
       skip
       have hHeld : W9.cell? ⟨w.heap.size, 0, none⟩ = some (.string dn) := (Qa (Qc hbx.out HB_) 0).trans rfl
       refine Qq (a' := ?_) ?_ ?_
       rotate_left
       ·simp only [Qs, Act.put, List.setIfInBounds_toArray, List.set_cons_zero, List.set_cons_succ]
        rfl
       refine two_ (i := 4) (j := 6) (Ni := some 12) (Nj := some 3) (bm 8 31) (bm 8 79) rfl rfl rfl rfl (by kernel_rfl) (by decide) (by decide) (fun K hK => ?_) (fun K hK => ?_)
       ·skip
        refine QM (w1 := ?_) (v := ?_) (by rfl) rfl ?_ ?_
        rotate_left 2
        ·go_simp
         constructor
         ·rfl
         ·rfl
        have hbq := Qd (Below.refl W9.heap.size W9) (.cells #[.string ⟨#[100, 97, 116, 97]⟩, .slice none 0 0, .int .i64 0, .string dn, .slice none 0 0, .int .i64 0] 109)
        have HBn := Qe HB_ hbq
        refine hK.out _ _ ((Qa (Qc hbx.out HBn) 0).trans rfl) (fun hHeld => ?_)
        clear hK K
        refine Qq (a' := ?_) ?_ ?_
        rotate_left
        ·show Act.put _ (some 12) _ = _
         simp only [Act.put, sA, sB, sC, Qk, Ql]
         rfl
        exact Qq (by first | (simp only [Qs, Act.put, List.setIfInBounds_toArray, List.set_cons_zero, List.set_cons_succ]; done) | (simp only [Qs, Act.put, List.setIfInBounds_toArray, List.set_cons_zero, List.set_cons_succ]; rfl)) (hJ0_3_4 (W9.heap.size, xb) _ ⟨HBn, NR.litX (NX.nil _ _ _) (Nat.le_refl _) HB_.size (fun e => by cases e)⟩)
       ·skip
        refine QM (w1 := ?_) (v := ?_) (by rfl) rfl ?_ ?_
        rotate_left 2
        ·go_simp
         constructor
         ·rfl
         ·rfl
        have hbq := Qd (Below.refl W9.heap.size W9) (.cells #[.string ⟨#[]⟩, .slice none 0 0, .int .i64 0] 109)
        have HBn := Qe HB_ hbq
        refine hK.out _ _ ((Qa (Qc hbx.out HBn) 0).trans rfl) (fun hHeld => ?_)
        clear hK K
        refine Qq (a' := ?_) ?_ ?_
        rotate_left
        ·show Act.put _ (some 3) _ = _
         simp only [Act.put, sA, sB, sC, Qk, Ql]
         rfl
        exact Qq (by first | (simp only [Qs, Act.put, List.setIfInBounds_toArray, List.set_cons_zero, List.set_cons_succ]; done) | (simp only [Qs, Act.put, List.setIfInBounds_toArray, List.set_cons_zero, List.set_cons_succ]; rfl)) (hJ0_3_6 (b6, W9.heap.size) _ ⟨HBn, ⟨Qv W9 _, HB_.size⟩⟩)
     ·skip
      rintro ⟨b6, xb⟩ W9 ⟨HB_, hx8⟩
      skip
      have hHeld : W9.cell? ⟨w.heap.size, 0, none⟩ = some (.string dn) := (Qa (Qc hbx.out HB_) 0).trans rfl
      refine Qq (a' := ?_) ?_ ?_
      rotate_left
      ·simp only [Qs, Act.put, List.setIfInBounds_toArray, List.set_cons_zero, List.set_cons_succ]
       rfl
      refine QQ (i := 4) (N := some 12) (bm 8 95) rfl rfl (by kernel_rfl) (by decide) (fun K hK => ?_)
      refine QM (w1 := ?_) (v := ?_) (by rfl) rfl ?_ ?_
      rotate_left 2
      ·go_simp
       constructor
       ·rfl
       ·rfl
      have hbq := Qd (Below.refl W9.heap.size W9) (.cells #[.string ⟨#[100, 97, 116, 97]⟩, .slice none 0 0, .int .i64 0, .string dn, .slice none 0 0, .int .i64 0] 109)
      have HBn := Qe HB_ hbq
      refine hK.out _ _ ((Qa (Qc hbx.out HBn) 0).trans rfl) (fun hHeld => ?_)
      clear hK K
      refine Qq (a' := ?_) ?_ ?_
      rotate_left
      ·show Act.put _ (some 12) _ = _
       simp only [Act.put, sA, sB, sC, Qk, Ql]
       rfl
      exact Qq (by first | (simp only [Qs, Act.put, List.setIfInBounds_toArray, List.set_cons_zero, List.set_cons_succ]; done) | (simp only [Qs, Act.put, List.setIfInBounds_toArray, List.set_cons_zero, List.set_cons_succ]; rfl)) (hJ0_3_4_6 (W9.heap.size, xb) _ ⟨HBn, NR.litX (NX.nil _ _ _) (Nat.le_refl _) HB_.size (fun e => by have h1 := Option.some.inj e; have h2 := (Array.getElem?_eq_some_iff.1 hx8.1).1; dsimp only at h1 h2; omega), ⟨Qc hx8.1 hbq, hx8.2⟩⟩)
    ·skip
     rintro ⟨b6, xb⟩ W9 ⟨HB_, hr6⟩
     skip
     have hHeld : W9.cell? ⟨w.heap.size, 0, none⟩ = some (.string dn) := (Qa (Qc hbx.out HB_) 0).trans rfl
     refine Qq (a' := ?_) ?_ ?_
     rotate_left
     ·simp only [Qs, Act.put, List.setIfInBounds_toArray, List.set_cons_zero, List.set_cons_succ]
      rfl
     refine two_ (i := 5) (j := 6) (Ni := some 13) (Nj := some 3) (bm 8 63) (bm 8 95) rfl rfl rfl rfl (by kernel_rfl) (by decide) (by decide) (fun K hK => ?_) (fun K hK => ?_)
     ·skip
      refine QI Tryd.func81 (by kernel_rfl) rfl #[.slice (some ⟨b6, 0, none⟩) 2 2] (by rfl) rfl rfl (by simp only [List.map_toArray, List.map_cons, List.map_nil]; rfl) ?_
      (with_reducible refine (Z7 _ _ _ _).mono ?_)
      rintro e w3 ⟨rfl, hbq⟩
      refine ⟨_, rfl, ?_⟩
      have HBn := Qe HB_ hbq
      refine hK.out _ _ ((Qa (Qc hbx.out HBn) 0).trans rfl) (fun hHeld => ?_)
      clear hK K
      refine Qq (a' := ?_) ?_ ?_
      rotate_left
      ·show Act.put _ (some 13) _ = _
       simp only [Act.put, sA, sB, sC, Qk, Ql]
       rfl
      exact Qq (by first | (simp only [Qs, Act.put, List.setIfInBounds_toArray, List.set_cons_zero, List.set_cons_succ]; done) | (simp only [Qs, Act.put, List.setIfInBounds_toArray, List.set_cons_zero, List.set_cons_succ]; rfl)) (hJ0_3_4_5 (b6, xb) _ ⟨HBn, NR.below hr6 hbq⟩)
     ·skip
      refine QM (w1 := ?_) (v := ?_) (by rfl) rfl ?_ ?_
      rotate_left 2
      ·go_simp
       constructor
       ·rfl
       ·rfl
      have hbq := Qd (Below.refl W9.heap.size W9) (.cells #[.string ⟨#[]⟩, .slice none 0 0, .int .i64 0] 109)
      have HBn := Qe HB_ hbq
      refine hK.out _ _ ((Qa (Qc hbx.out HBn) 0).trans rfl) (fun hHeld => ?_)
      clear hK K
      refine Qq (a' := ?_) ?_ ?_
      rotate_left
      ·show Act.put _ (some 3) _ = _
       simp only [Act.put, sA, sB, sC, Qk, Ql]
       rfl
      exact Qq (by first | (simp only [Qs, Act.put, List.setIfInBounds_toArray, List.set_cons_zero, List.set_cons_succ]; done) | (simp only [Qs, Act.put, List.setIfInBounds_toArray, List.set_cons_zero, List.set_cons_succ]; rfl)) (hJ0_3_4_6 (b6, W9.heap.size) _ ⟨HBn, NR.newx hr6 _, ⟨Qv W9 _, HB_.size⟩⟩)
   ·skip
    rintro ⟨b6, xb⟩ W9 ⟨HB_, hr6, hx8⟩
    skip
    have hHeld : W9.cell? ⟨w.heap.size, 0, none⟩ = some (.string dn) := (Qa (Qc hbx.out HB_) 0).trans rfl
    refine Qq (a' := ?_) ?_ ?_
    rotate_left
    ·simp only [Qs, Act.put, List.setIfInBounds_toArray, List.set_cons_zero, List.set_cons_succ]
     rfl
    refine QQ (i := 5) (N := some 13) (bm 8 127) rfl rfl (by kernel_rfl) (by decide) (fun K hK => ?_)
    refine QI Tryd.func81 (by kernel_rfl) rfl #[.slice (some ⟨b6, 0, none⟩) 2 2] (by rfl) rfl rfl (by simp only [List.map_toArray, List.map_cons, List.map_nil]; rfl) ?_
    (with_reducible refine (Z7 _ _ _ _).mono ?_)
    rintro e w3 ⟨rfl, hbq⟩
    refine ⟨_, rfl, ?_⟩
    have HBn := Qe HB_ hbq
    refine hK.out _ _ ((Qa (Qc hbx.out HBn) 0).trans rfl) (fun hHeld => ?_)
    clear hK K
    refine Qq (a' := ?_) ?_ ?_
    rotate_left
    ·show Act.put _ (some 13) _ = _
     simp only [Act.put, sA, sB, sC, Qk, Ql]
     rfl
    exact Qq (by first | (simp only [Qs, Act.put, List.setIfInBounds_toArray, List.set_cons_zero, List.set_cons_succ]; done) | (simp only [Qs, Act.put, List.setIfInBounds_toArray, List.set_cons_zero, List.set_cons_succ]; rfl)) (hJ0_3_4_5_6 (b6, xb) _ ⟨HBn, NR.below hr6 hbq, ⟨Qc hx8.1 hbq, hx8.2⟩⟩)
  ·skip
   rintro ⟨b6, xb⟩ W9 ⟨HB_, hr6⟩
   skip
   have hHeld : W9.cell? ⟨w.heap.size, 0, none⟩ = some (.string dn) := (Qa (Qc hbx.out HB_) 0).trans rfl
   refine Qq (a' := ?_) ?_ ?_
   rotate_left
   ·simp only [Qs, Act.put, List.setIfInBounds_toArray, List.set_cons_zero, List.set_cons_succ]
    rfl
   refine QQ (i := 6) (N := some 3) (bm 8 127) rfl rfl (by kernel_rfl) (by decide) (fun K hK => ?_)
   refine QM (w1 := ?_) (v := ?_) (by rfl) rfl ?_ ?_
   rotate_left 2
   ·go_simp
    constructor
    ·rfl
    ·rfl
   have hbq := Qd (Below.refl W9.heap.size W9) (.cells #[.string ⟨#[]⟩, .slice none 0 0, .int .i64 0] 109)
   have HBn := Qe HB_ hbq
   refine hK.out _ _ ((Qa (Qc hbx.out HBn) 0).trans rfl) (fun hHeld => ?_)
   clear hK K
   refine Qq (a' := ?_) ?_ ?_
   rotate_left
   ·show Act.put _ (some 3) _ = _
    simp only [Act.put, sA, sB, sC, Qk, Ql]
    rfl
   exact Qq (by first | (simp only [Qs, Act.put, List.setIfInBounds_toArray, List.set_cons_zero, List.set_cons_succ]; done) | (simp only [Qs, Act.put, List.setIfInBounds_toArray, List.set_cons_zero, List.set_cons_succ]; rfl)) (hJ0_3_4_5_6 (b6, W9.heap.size) _ ⟨HBn, NR.newx hr6 _, ⟨Qv W9 _, HB_.size⟩⟩)
 rintro ⟨b6, xb⟩ W9 ⟨HB_, hr6, hx8⟩
 skip
 have hcz0 := (Qa hx8.1 0).trans rfl
 have hcz1 := (Qa hx8.1 1).trans rfl
 have hcz2 := (Qa hx8.1 2).trans rfl
 have hfz0 := Qg hx8.1 0
 have hfz1 := Qg hx8.1 1
 have hfz2 := Qg hx8.1 2
 have hHeld : W9.cell? ⟨w.heap.size, 0, none⟩ = some (.string dn) := (Qa (Qc hbx.out HB_) 0).trans rfl
 refine Qq (a' := ?_) ?_ ?_
 rotate_left
 ·simp only [Qs, Act.put, List.setIfInBounds_toArray, List.set_cons_zero, List.set_cons_succ]
  rfl
 refine Zw (i := 7) (N := none) (bm 8 255) rfl rfl (by kernel_rfl) (by decide) (fun K hK => ?_)
 refine Vk (w1 := ?_) (by rfl) rfl ?_ ?_
 rotate_left
 ·go_simp
  rfl
 refine hK.out _ _ ?_
 clear hK K
 refine Zx (by kernel_rfl) ?_
 clear hHeld
 have hx8' := hx8.2
 have hx8 := hx8.1
 obtain ⟨wr, hwr⟩ : ∃ wr, ((W9.setCell ⟨xb, 0, none⟩ (.string ⟨#[]⟩)).setCell ⟨xb, 1, none⟩ (.slice (some ⟨b6, 0, none⟩) 2 2)).setCell ⟨xb, 2, none⟩ (.int .i64 0) = wr := ⟨_, rfl⟩
 have hG : Qb (GN wr W0.heap.size xb ⟨#[]⟩ (some ⟨b6, 0, none⟩) 2 2 (4 + 3 + 0 + (dn.size + 3 + 0))) := ⟨by rw [← hwr]; exact ⟨QP (QP (QP hx8 0 _ rfl) 1 _ rfl) 2 _ rfl, ((hr6.far (p := ⟨xb, 0, none⟩) (.inr rfl) _).far (p := ⟨xb, 1, none⟩) (.inr rfl) _).far (p := ⟨xb, 2, none⟩) (.inr rfl) _, hx8'⟩⟩
 have hB : Qb (Below W0.heap.size W0 wr) := ⟨by rw [← hwr]; exact ((HB_.setCell (p := ⟨xb, 0, none⟩) hx8' _).setCell (p := ⟨xb, 1, none⟩) hx8' _).setCell (p := ⟨xb, 2, none⟩) hx8' _⟩
 rw [hwr]
 clear hwr hr6 HB_ hx8 hx8' hcz0 hcz1 hcz2 hfz0 hfz1 hfz2
 have k1 := (Qa (Qc hbx.out hB.out) 1).trans rfl
 go_wp2
 have HB_ : Below wr.heap.size wr wr.drew := Qi (Below.refl _ _)
 refine QZ (n := 8) (S := fun w' => w'.cell? ⟨xb, 1, none⟩ = some (.slice (some ⟨b6, 0, none⟩) 2 2) ∧ w'.cell? ⟨w.heap.size, 1, none⟩ = some (.slice A1 ps.length c1)) (ds := [5, 7]) (bm 8 0) (by kernel_rfl) rfl rfl ⟨(Qa (Qc hG.out.ho HB_) 1).trans rfl, (Qa (Qc (Qc hbx.out hB.out) HB_) 1).trans rfl⟩ (fun hHeld => ?_)
 generalize wr.drew = W9 at *
 refine Q4 (i := 0) (N := some 14) (v := ?_) (a' := ?_) (bm 8 1) rfl rfl (by kernel_rfl) (fun _ _ _ h => h) (Or.inl ⟨by rfl, ?_⟩) ?_ ?_
 rotate_left
 ·intro w'
  go_simp
  with_reducible rfl
 rotate_left
 ·simp only [Act.put, sA, sB, sC, Qk, Ql]
  rfl
 refine Q4 (i := 2) (N := some 16) (v := ?_) (a' := ?_) (bm 8 5) rfl rfl (by kernel_rfl) (fun _ _ _ h => h) (Or.inl ⟨by rfl, ?_⟩) ?_ ?_
 rotate_left
 ·intro w'
  go_simp
  with_reducible rfl
 rotate_left
 ·simp only [Act.put, sA, sB, sC, Qk, Ql]
  rfl
 refine QE (i := 1) (N := some 15) (v := ?_) (a' := ?_) (bm 8 7) rfl rfl (by kernel_rfl) (fun _ _ _ h => h) (Or.inl ⟨by rfl, ?_⟩) hHeld ?_ ?_
 rotate_left
 ·rintro w' ⟨s0, s1⟩
  go_simp
  with_reducible rfl
 rotate_left
 ·simp only [Act.put, sA, sB, sC, Qk, Ql]
  rfl
 refine QE (i := 3) (N := some 17) (v := ?_) (a' := ?_) (bm 8 15) rfl rfl (by kernel_rfl) (fun _ _ _ h => h) (Or.inl ⟨by rfl, ?_⟩) hHeld ?_ ?_
 rotate_left
 ·rintro w' ⟨s0, s1⟩
  go_simp
  with_reducible rfl
 rotate_left
 ·simp only [Act.put, sA, sB, sC, Qk, Ql]
  rfl
 refine QQ (i := 4) (N := some 18) (bm 8 31) rfl rfl (by kernel_rfl) (by decide) (fun K hK => ?_)
 refine QI Tryd.func83 (by kernel_rfl) rfl #[.slice A1 ps.length c1] (by rfl) rfl rfl (by simp only [List.map_toArray, List.map_cons, List.map_nil]; rfl) ?_
 (with_reducible refine (ws_calls ps W9 (by have := hl9.out; omega) (Kd.Qj (Kd.Qj hD1.out hB.out) HB_)).mono ?_)
 rintro e w5 ⟨P1, c1', rfl, hc1, hn1, hb5⟩
 refine ⟨_, rfl, ?_⟩
 have HB5 := Qe HB_ hb5
 refine hK.out _ _ ⟨(Qa (Qc hG.out.ho HB5) 1).trans rfl, (Qa (Qc (Qc hbx.out hB.out) HB5) 1).trans rfl⟩ (fun hHeld => ?_)
 clear hK K
 refine Qq (a' := ?_) ?_ ?_
 rotate_left
 ·show Act.put _ (some 18) _ = _
  simp only [Act.put, sA, sB, sC, Qk, Ql]
  rfl
 refine Zw (i := 5) (N := some 19) (bm 8 63) rfl rfl (by kernel_rfl) (by decide) (fun K hK => ?_)
 refine apps_step (w0 := w5) W0.heap.size (by rfl) (.tmp 15) (.tmp 18) rfl (A := some ⟨b6, 0, none⟩) (x0 := some xb) (n := 2) (c := 2) (z := (4 + 3 + 0 + (dn.size + 3 + 0))) (A1 := P1) (n1 := ps.length) (c1 := c1') (z1 := nmz ps) (q := W9.heap.size) rfl rfl (NR.below hG.out.hr HB5) hn1 ?_ ?_ ?_ (Below.refl _ _) ?_ (by have := hl9.out; omega) ?_
 ·intro k hk; have := NR.lt hG.out.hr k hk; have := HB_.size; omega
 ·have := hB.out.size; have := HB_.size; omega
 ·intro y hy; obtain rfl := Option.some.inj hy; have := hG.out.lt; have := HB_.size; have := HB5.size; omega
 ·have := hB.out.size; have := HB5.size; omega
 intro A6 c6 w6 hr6 hb6 hg6
 have hG5 := hG.out.below HB5
 have hcz := (Qa (hG5.at hg6) 1).trans rfl
 have hfz := Qg (hG5.at hg6) 1
 refine hK.out _ _ ?_
 clear hK K
 refine Qq (a' := ?_) ?_ ?_
 rotate_left
 ·show Act.put _ (some 19) _ = _
  simp only [Act.put, sA, sB, sC, Qk, Ql]
  rfl
 refine Q4 (i := 6) (N := some 20) (v := ?_) (a' := ?_) (bm 8 127) rfl rfl (by kernel_rfl) (fun _ _ _ h => h) (Or.inl ⟨by rfl, ?_⟩) ?_ ?_
 rotate_left
 ·intro w'
  go_simp
  with_reducible rfl
 rotate_left
 ·simp only [Act.put, sA, sB, sC, Qk, Ql]
  rfl
 refine Zw (i := 7) (N := none) (bm 8 255) rfl rfl (by kernel_rfl) (by decide) (fun K hK => ?_)
 refine Vk (w1 := ?_) (by rfl) rfl ?_ ?_
 rotate_left
 ·go_simp
  rfl
 refine hK.out _ _ ?_
 clear hK K
 refine Zx (by kernel_rfl) ?_
 clear hHeld
 have hq1 := hG.out.hx
 have hq2 := hB.out.size
 have hq3 := ((hB.out.trans (HB5.mono hq2)).trans hb6).setCell (p := ⟨xb, 1, none⟩) hq1 (.slice A6 (2 + ps.length) c6)
 have hG6 := Qb.mk (hG5.app hg6 hr6)
 have hB6 := Qb.mk hq3
 generalize w6.setCell ⟨xb, 1, none⟩ (.slice A6 (2 + ps.length) c6) = w8 at hG6 hB6 hq3 ⊢
 clear hq1 hq2 hq3 hcz hfz hr6 hb6 hg6 hG5 hG hB
 have hG := hG6
 have hB := hB6
 clear hG6 hB6
 (try clear HB5)
 (try clear HB_)
 skip
 clear hn1 hc1 hb5
 clear k1
 have k2 := (Qa (Qc hbx.out hB.out) 2).trans rfl
 go_wp2
 go_loopg [4] (cs.length + 1) (fun kq v4 w' => ∃ (i m c z : Nat) (A : Option Addr), v4 = .int .i64 (i : Int) ∧ i + kq = cs.length + 1 ∧ 1 ≤ kq ∧ Qb (m ≤ 2 + ps.length + i) ∧ Qb (GN w' W0.heap.size xb ⟨#[]⟩ A m c z) ∧ Qb (z ≤ dn.size + 10 + nmz ps + cBL (cs.take i)) ∧ Qb (Below W0.heap.size W0 w'))
 case atStart => exact ⟨0, _, _, _, _, rfl, by omega, by omega, ⟨by omega⟩, hG, ⟨by omega⟩, hB⟩
 case round =>
  clear hG hB k2
  obtain ⟨i, m, c, z, A, rfl, hi, hk, hm, hG, hz, hB⟩ := hrel
  have k2 := (Qa (Qc hbx.out hB.out) 2).trans rfl
  by_cases hlt : i < cs.length
  ·have hxi : cs[i]? = some cs[i] := List.getElem?_eq_getElem hlt
   have hx := hT9.out _ (List.getElem_mem hlt)
   generalize cs[i] = x at hxi hx
   obtain ⟨ad, P1, q1', rfl, ⟨e0, e1⟩, _, hCx⟩ := elemC (Kd.Qj hD2.out hB.out) i hxi
   obtain ⟨cb, hcb⟩ : ∃ k, wr.heap.size = k := ⟨_, rfl⟩
   obtain ⟨Wc, hWc⟩ : ∃ Wc, wr.alloc (.cells #[.string x.f0, .slice P1 x.f1.length q1'] 65) = Wc := ⟨_, rfl⟩
   have hBc : Qb (Below wr.heap.size wr Wc) := ⟨by rw [← hWc]; exact Qd (Below.refl _ _) _⟩
   have hcx : Qb (Wc.heap[cb]? = some (.cells #[.string x.f0, .slice P1 x.f1.length q1'] 65 (0, 0))) := ⟨by rw [← hWc, ← hcb]; exact Qv wr _⟩
   have u0 := (Qa hcx.out 0).trans rfl
   have u1 := (Qa hcx.out 1).trans rfl
   have hGc := Qb.mk (hG.out.below hBc.out)
   have hBB : Qb (Below W0.heap.size W0 Wc) := ⟨hB.out.trans (hBc.out.mono hB.out.size)⟩
   have hC := Qb.mk (Kd.Qj hCx hBc.out)
   have p0 : (0 : Int) ≤ (i : Int) := by omega
   have p1 : (i : Int) < (cs.length : Int) := by omega
   have q1 : decide ((i : Int) < (cs.length : Int)) = true := decide_eq_true p1
   have hjn : Value.int .i64 (wrap64 ((i : Int) + 1)) = .int .i64 ((i + 1 : Nat) : Int) := by rw [wr1 i (by have := hl9.out; omega)]
   have hi7 : i + 1 + (gk - 1) = cs.length + 1 ∧ 1 ≤ gk - 1 ∧ gk - 1 < gk := by omega
   have hms : Qb (m ≤ 1000000000000) := ⟨by have := hm.out; have := hl9.out; omega⟩
   have hm7 : Qb (m + 1 ≤ 2 + ps.length + (i + 1)) := ⟨by have := hm.out; omega⟩
   have hx9 := Qb.mk hx
   have hxi := Qb.mk hxi
   obtain ⟨z0, hz0⟩ : ∃ b, ((x.f1.length : Int) == 0) = b := ⟨_, rfl⟩
   clear hCx hx hi hk hm hG hD2
   cases z0 with
   | true =>
    go_wp2
    skip
    have HB_ : Below Wc.heap.size Wc Wc.drew := Qi (Below.refl _ _)
    refine QZ (n := 9) (S := fun w' => w'.cell? ⟨xb, 1, none⟩ = some (.slice A m c) ∧ w'.cell? ⟨cb, 0, none⟩ = some (.string x.f0)) (ds := [6, 8]) (bm 9 0) (by kernel_rfl) rfl rfl ⟨(Qa (Qc hGc.out.ho HB_) 1).trans rfl, (Qa (Qc hcx.out HB_) 0).trans rfl⟩ (fun hHeld => ?_)
    generalize Wc.drew = W9 at *
    refine Q4 (i := 0) (N := some 37) (v := ?_) (a' := ?_) (bm 9 1) rfl rfl (by kernel_rfl) (fun _ _ _ h => h) (Or.inl ⟨by rfl, ?_⟩) ?_ ?_
    rotate_left
    ·intro w'
     go_simp
     with_reducible rfl
    rotate_left
    ·simp only [Act.put, sA, sB, sC, Qk, Ql]
     rfl
    refine Q4 (i := 2) (N := some 39) (v := ?_) (a' := ?_) (bm 9 5) rfl rfl (by kernel_rfl) (fun _ _ _ h => h) (Or.inl ⟨by rfl, ?_⟩) ?_ ?_
    rotate_left
    ·intro w'
     go_simp
     with_reducible rfl
    rotate_left
    ·simp only [Act.put, sA, sB, sC, Qk, Ql]
     rfl
    refine QE (i := 1) (N := some 38) (v := ?_) (a' := ?_) (bm 9 7) rfl rfl (by kernel_rfl) (fun _ _ _ h => h) (Or.inl ⟨by rfl, ?_⟩) hHeld ?_ ?_
    rotate_left
    ·rintro w' ⟨s0, s1⟩
     go_simp
     with_reducible rfl
    rotate_left
    ·simp only [Act.put, sA, sB, sC, Qk, Ql]
     rfl
    refine QE (i := 3) (N := some 40) (v := ?_) (a' := ?_) (bm 9 15) rfl rfl (by kernel_rfl) (fun _ _ _ h => h) (Or.inl ⟨by rfl, ?_⟩) hHeld ?_ ?_
    rotate_left
    ·rintro w' ⟨s0, s1⟩
     go_simp
     with_reducible rfl
    rotate_left
    ·simp only [Act.put, sA, sB, sC, Qk, Ql]
     rfl
    refine QQ (i := 4) (N := some 41) (bm 9 31) rfl rfl (by kernel_rfl) (by decide) (fun K hK => ?_)
    refine QI Tryd.func82 (by kernel_rfl) rfl #[.string x.f0] (by rfl) rfl rfl (by simp only [List.map_toArray, List.map_cons, List.map_nil]; rfl) ?_
    (with_reducible refine (QV x.f0 W9).mono ?_)
    rintro e w5 ⟨rfl, hb5⟩
    refine ⟨_, rfl, ?_⟩
    have HB5 := Qe HB_ hb5
    refine hK.out _ _ ⟨(Qa (Qc hGc.out.ho HB5) 1).trans rfl, (Qa (Qc hcx.out HB5) 0).trans rfl⟩ (fun hHeld => ?_)
    clear hK K
    refine Qq (a' := ?_) ?_ ?_
    rotate_left
    ·show Act.put _ (some 41) _ = _
     simp only [Act.put, sA, sB, sC, Qk, Ql]
     rfl
    refine QQ (i := 5) (N := some 42) (bm 9 63) rfl rfl (by kernel_rfl) (by decide) (fun K hK => ?_)
    refine QM (w1 := ?_) (v := ?_) (by rfl) rfl ?_ ?_
    rotate_left 2
    ·go_simp
     constructor
     ·rfl
     ·rfl
    have HBb := Qd HB5 (.cells #[.string x.f0, .slice none 0 0, .int .i64 0] 109)
    refine hK.out _ _ ⟨(Qa (Qc hGc.out.ho HBb) 1).trans rfl, (Qa (Qc hcx.out HBb) 0).trans rfl⟩ (fun hHeld => ?_)
    clear hK K
    refine Qq (a' := ?_) ?_ ?_
    rotate_left
    ·show Act.put _ (some 42) _ = _
     simp only [Act.put, sA, sB, sC, Qk, Ql]
     rfl
    refine Zw (i := 6) (N := some 43) (bm 9 127) rfl rfl (by kernel_rfl) (by decide) (fun K hK => ?_)
    refine ZX (w0 := w5) W0.heap.size (by rfl) (.tmp 38) (.tmp 42) rfl (A := A) (x0 := some xb) (n := m) (c := c) (z := z) (s1 := x.f0) (A1 := none) (n1 := 0) (c1 := 0) (z1 := 0) (q := W9.heap.size) rfl rfl (NR.below hGc.out.hr HB5) (NL.nil _ _) (Nat.le_refl _) ?_ ?_ ?_ (Below.refl _ _) ?_ ?_ ?_
    ·intro k hk; have h1 := NR.lt hGc.out.hr k hk; have h2 := HB_.size; omega
    ·have h1 := hBB.out.size; have h2 := HB_.size; omega
    ·intro y hy; obtain rfl := Option.some.inj hy; have h1 := hGc.out.lt; have h2 := HB_.size; have h3 := HB5.size; omega
    ·have h1 := hBB.out.size; have h2 := HB5.size; omega
    ·have h1 := hms.out; omega
    intro A6 c6 w6 hr6 hb6 hg6
    have hG5 := hGc.out.below HB5
    have hcz := (Qa (hG5.at hg6) 1).trans rfl
    have hfz := Qg (hG5.at hg6) 1
    refine hK.out _ _ ?_
    clear hK K
    refine Qq (a' := ?_) ?_ ?_
    rotate_left
    ·show Act.put _ (some 43) _ = _
     simp only [Act.put, sA, sB, sC, Qk, Ql]
     rfl
    refine Q4 (i := 7) (N := some 44) (v := ?_) (a' := ?_) (bm 9 255) rfl rfl (by kernel_rfl) (fun _ _ _ h => h) (Or.inl ⟨by rfl, ?_⟩) ?_ ?_
    rotate_left
    ·intro w'
     go_simp
     with_reducible rfl
    rotate_left
    ·simp only [Act.put, sA, sB, sC, Qk, Ql]
     rfl
    refine Zw (i := 8) (N := none) (bm 9 511) rfl rfl (by kernel_rfl) (by decide) (fun K hK => ?_)
    refine Vk (w1 := ?_) (by rfl) rfl ?_ ?_
    rotate_left
    ·go_simp
     rfl
    refine hK.out _ _ ?_
    clear hK K
    refine Zx (by kernel_rfl) ?_
    clear hHeld
    have hq1 := hGc.out.hx
    have hq2 := hBB.out.size
    have hq3 := ((hBB.out.trans (HB5.mono hq2)).trans hb6).setCell (p := ⟨xb, 1, none⟩) hq1 (.slice A6 (m + 1) c6)
    have hG6 := Qb.mk (hG5.app hg6 hr6)
    have hB6 := Qb.mk hq3
    generalize w6.setCell ⟨xb, 1, none⟩ (.slice A6 (m + 1) c6) = w8 at hG6 hB6 hq3 ⊢
    clear hq1 hq2 hq3 hcz hfz hr6 hb6 hg6 hG5 hGc hBB
    have hGc := hG6
    have hBB := hB6
    clear hG6 hB6
    (try clear HB5)
    (try clear HB_)
    skip
    have hG := hGc
    have hB := hBB
    clear k2
    go_wp2
    go_roundg (gk - 1)
    case measure => exact hi7.2.2
    case rel => exact ⟨i + 1, m + 1, _, _, _, by first | exact hjn | rfl, hi7.1, hi7.2.1, hm7, hG, ⟨by rw [cBL_take hxi.out]; have h1 := hz.out; unfold cB; omega⟩, hB⟩
   | false =>
    have T1 : True := trivial
    obtain ⟨g1, hg1⟩ : ∃ g1, gk - 1 = g1 := ⟨_, rfl⟩
    rw [hg1] at hi7
    clear hg1
    go_wp2_with (first | (clear T1; go_at_call 82; go_loud (with_reducible refine (QV x.f0 Wc).mono ?_); rintro e' w1 ⟨rfl, hb1⟩; have HB1 := Qb.mk hb1; clear hb1; have T2 : True := trivial) | (clear T2; go_at_call 81; go_loud (with_reducible refine (Z7 _ _ _ _).mono ?_); rintro e' w3 ⟨rfl, hb3⟩; have HB3 := Qb.mk hb3; clear hb3; skip))
    obtain ⟨xc, hxb⟩ : ∃ xb, w3.heap.size = xb := ⟨_, rfl⟩
    obtain ⟨rb, hrb⟩ : ∃ rb, w1.heap.size = rb := ⟨_, rfl⟩
    have hrl : rb < xc ∧ Wc.heap.size ≤ rb := by have h1 := HB3.out.size; rw [E] at h1; have h2 := HB1.out.size; omega
    obtain ⟨Wx, hWx⟩ : ∃ Wx, w3.alloc (.cells #[.string ⟨#[]⟩, .slice (some ⟨rb, 0, none⟩) 1 1, .int .i64 0] 109) = Wx := ⟨_, rfl⟩
    have hB3' : Below Wc.heap.size Wc w3 := Qe (Qd HB1.out _) HB3.out
    have hXB : Qb (Below Wc.heap.size Wc Wx) := ⟨by rw [← hWx]; exact Qd hB3' _⟩
    have hr0 : NR Wx Wc.heap.size (some xc) (some ⟨rb, 0, none⟩) 1 1 (x.f0.size + 3 + 0) := by have h1 : NR (w1.alloc (.cells #[.string x.f0, .slice none 0 0, .int .i64 0] 109)) Wc.heap.size (some xc) (some ⟨w1.heap.size, 0, none⟩) 1 1 (x.f0.size + 3 + 0) := NR.lit1 (q := Wc.heap.size) (NL.nil _ _) (Nat.le_refl _) (Nat.le_refl _) (fun y hy => .inr (by obtain rfl := Option.some.inj hy; omega)) HB1.out.size (fun e => by have := Option.some.inj e; omega); rw [hrb] at h1; rw [← hWx]; exact NR.below (NR.below h1 HB3.out) (Qd (Below.refl _ _) _)
    have hXG : Qb (GN Wx Wc.heap.size xc ⟨#[]⟩ (some ⟨rb, 0, none⟩) (0 + 1) 1 (x.f0.size + 3 + 0)) := ⟨⟨by rw [← hWx, ← hxb]; exact Qv _ _, hr0, by omega⟩⟩
    rw [hrb, hxb, hWx]
    clear hWx hxb hrb hB3' hrl hr0 HB1 HB3
    have u1 := (Qa (Qc hcx.out hXB.out) 1).trans rfl
    go_wp2
    go_loopg [7] (x.f1.length + 1) (fun kq v7 w' => ∃ (j c' z' : Nat) (A' : Option Addr), v7 = .int .i64 (j : Int) ∧ j + kq = x.f1.length + 1 ∧ 1 ≤ kq ∧ Qb (GN w' Wc.heap.size xc ⟨#[]⟩ A' (j + 1) c' z') ∧ Qb (z' ≤ x.f0.size + 3 + Zf ((x.f1.map tN).take j)) ∧ Qb (Below Wc.heap.size Wc w'))
    case atStart => exact ⟨0, 1, _, _, rfl, by omega, by omega, hXG, ⟨by omega⟩, hXB⟩
    case round =>
     clear hXG hXB u1
     try clear hcb hBc hWc
     obtain ⟨j, cj, zj, Aj, rfl, hj, hkj, hJG, hJz, hJB⟩ := hrel
     have u1 := (Qa (Qc hcx.out hJB.out) 1).trans rfl
     by_cases hlj : j < x.f1.length
     ·have hti : x.f1[j]? = some x.f1[j] := List.getElem?_eq_getElem hlj
      have ht := hx9.out.2 _ (List.getElem_mem hlj)
      generalize x.f1[j] = t at hti ht
      obtain ⟨adt, R1, r1', rfl, he, _, hCt⟩ := elemT (Kd.Qj hC.out hJB.out) j hti
      have hzj : (x.f1.map tN)[j]? = some (tN t) := by rw [List.getElem?_map, hti]; rfl
      have CX := Qb.mk (fun (W : World) (hb : Below wr.heap.size wr W) => typeNode_c t ht W (c := r1') (Kd.Qj hCt hb))
      have p0 : (0 : Int) ≤ (j : Int) := by omega
      have p1 : (j : Int) < (x.f1.length : Int) := by omega
      have q1 : decide ((j : Int) < (x.f1.length : Int)) = true := decide_eq_true p1
      have hjn' : Value.int .i64 (wrap64 ((j : Int) + 1)) = .int .i64 ((j + 1 : Nat) : Int) := by rw [wr1 j (by have := hx9.out.1; omega)]
      have hj7 : j + 1 + (gk - 1) = x.f1.length + 1 ∧ 1 ≤ gk - 1 ∧ gk - 1 < gk := by omega
      have hms : Qb (j + 1 ≤ 1000000000000) := ⟨by have := hx9.out.1; omega⟩
      have hJz2 : Qb (zj + tsz (tN t) ≤ x.f0.size + 3 + Zf ((x.f1.map tN).take (j + 1))) := ⟨by rw [tszL_take hzj]; have h1 := hJz.out; omega⟩
      have hJG2 := hJG
      have hJB2 := hJB
      have he := Qb.mk he
      clear ht hCt hti hzj
      go_wp2
      have HB_ : Below wr.heap.size wr wr.drew := Qi (Below.refl _ _)
      refine QZ (n := 12) (S := fun w' => w'.cell? ⟨xc, 1, none⟩ = some (.slice Aj (j + 1) cj) ∧ w'.cell? ⟨cb, 1, none⟩ = some (.slice (some adt) x.f1.length q1') ∧ w'.cell? (adt.add (j * 2)) = some (.string t.f0) ∧ w'.cell? ⟨((adt.add (j * 2))).block, ((adt.add (j * 2))).off + 1, none⟩ = some (.slice R1 t.f1.length r1')) (ds := [9, 11]) (bm 12 0) (by kernel_rfl) rfl rfl ⟨(Qa (Qc hJG2.out.ho HB_) 1).trans rfl, (Qa (Qc (Qc hcx.out hJB2.out) HB_) 1).trans rfl, (HB_.cell (World.block_lt_of_cell? _ _ he.out.1)).trans he.out.1, (HB_.cell (World.block_lt_of_cell? _ _ he.out.2)).trans he.out.2⟩ (fun hHeld => ?_)
      generalize wr.drew = W9 at *
      refine Q4 (i := 0) (N := some 57) (v := ?_) (a' := ?_) (bm 12 1) rfl rfl (by kernel_rfl) (fun _ _ _ h => h) (Or.inl ⟨by rfl, ?_⟩) ?_ ?_
      rotate_left
      ·intro w'
       go_simp
       with_reducible rfl
      rotate_left
      ·simp only [Act.put, sA, sB, sC, Qk, Ql]
       rfl
      refine Q4 (i := 2) (N := some 59) (v := ?_) (a' := ?_) (bm 12 5) rfl rfl (by kernel_rfl) (fun _ _ _ h => h) (Or.inl ⟨by rfl, ?_⟩) ?_ ?_
      rotate_left
      ·intro w'
       go_simp
       with_reducible rfl
      rotate_left
      ·simp only [Act.put, sA, sB, sC, Qk, Ql]
       rfl
      refine Q4 (i := 4) (N := some 61) (v := ?_) (a' := ?_) (bm 12 21) rfl rfl (by kernel_rfl) (fun _ _ _ h => h) (Or.inl ⟨by rfl, ?_⟩) ?_ ?_
      rotate_left
      ·intro w'
       go_simp
       with_reducible rfl
      rotate_left
      ·simp only [Act.put, sA, sB, sC, Qk, Ql]
       rfl
      refine QE (i := 1) (N := some 58) (v := ?_) (a' := ?_) (bm 12 23) rfl rfl (by kernel_rfl) (fun _ _ _ h => h) (Or.inl ⟨by rfl, ?_⟩) hHeld ?_ ?_
      rotate_left
      ·rintro w' ⟨s0, s1, s2, s3⟩
       go_simp
       with_reducible rfl
      rotate_left
      ·simp only [Act.put, sA, sB, sC, Qk, Ql]
       rfl
      refine QE (i := 3) (N := some 60) (v := ?_) (a' := ?_) (bm 12 31) rfl rfl (by kernel_rfl) (fun _ _ _ h => h) (Or.inl ⟨by rfl, ?_⟩) hHeld ?_ ?_
      rotate_left
      ·rintro w' ⟨s0, s1, s2, s3⟩
       go_simp
       with_reducible rfl
      rotate_left
      ·simp only [Act.put, sA, sB, sC, Qk, Ql]
       rfl
      refine Q4 (i := 5) (N := some 62) (v := ?_) (a' := ?_) (bm 12 63) rfl rfl (by kernel_rfl) (fun _ _ _ h => h) (Or.inl ⟨by rfl, ?_⟩) ?_ ?_
      rotate_left
      ·intro w'
       go_simp
       with_reducible rfl
      rotate_left
      ·simp only [Act.put, sA, sB, sC, Qk, Ql]
       rfl
      refine QE (i := 6) (N := some 63) (v := ?_) (a' := ?_) (bm 12 127) rfl rfl (by kernel_rfl) (fun _ _ _ h => h) (Or.inl ⟨by rfl, ?_⟩) hHeld ?_ ?_
      rotate_left
      ·rintro w' ⟨s0, s1, s2, s3⟩
       go_simp
       with_reducible rfl
      rotate_left
      ·simp only [Act.put, sA, sB, sC, Qk, Ql]
       rfl
      refine QQ (i := 7) (N := some 64) (bm 12 255) rfl rfl (by kernel_rfl) (by decide) (fun K hK => ?_)
      refine QI Tryd.func84 (by kernel_rfl) rfl #[.agg #[.string t.f0, .slice R1 t.f1.length r1']] (by rfl) rfl rfl (by simp only [List.map_toArray, List.map_cons, List.map_nil]; rfl) ?_
      (with_reducible refine (CX.out W9 HB_).mono ?_)
      rintro e w5 ⟨s5, A5', n5', c5', z5, rfl, hz5, hc5, hn5, hb5⟩
      refine ⟨_, rfl, ?_⟩
      have hz5 := Qb.mk hz5
      have HB5 := Qe HB_ hb5
      refine hK.out _ _ ⟨(Qa (Qc hJG2.out.ho HB5) 1).trans rfl, (Qa (Qc (Qc hcx.out hJB2.out) HB5) 1).trans rfl, (HB5.cell (World.block_lt_of_cell? _ _ he.out.1)).trans he.out.1, (HB5.cell (World.block_lt_of_cell? _ _ he.out.2)).trans he.out.2⟩ (fun hHeld => ?_)
      clear hK K
      refine Qq (a' := ?_) ?_ ?_
      rotate_left
      ·show Act.put _ (some 64) _ = _
       simp only [Act.put, sA, sB, sC, Qk, Ql]
       rfl
      refine QQ (i := 8) (N := some 65) (bm 12 511) rfl rfl (by kernel_rfl) (by decide) (fun K hK => ?_)
      refine QM (w1 := ?_) (v := ?_) (by rfl) rfl ?_ ?_
      rotate_left 2
      ·go_simp
       constructor
       ·rfl
       ·rfl
      have HBb := Qd HB5 (.cells #[.string s5, .slice A5' n5' c5', .int .i64 0] 109)
      refine hK.out _ _ ⟨(Qa (Qc hJG2.out.ho HBb) 1).trans rfl, (Qa (Qc (Qc hcx.out hJB2.out) HBb) 1).trans rfl, (HBb.cell (World.block_lt_of_cell? _ _ he.out.1)).trans he.out.1, (HBb.cell (World.block_lt_of_cell? _ _ he.out.2)).trans he.out.2⟩ (fun hHeld => ?_)
      clear hK K
      refine Qq (a' := ?_) ?_ ?_
      rotate_left
      ·show Act.put _ (some 65) _ = _
       simp only [Act.put, sA, sB, sC, Qk, Ql]
       rfl
      refine Zw (i := 9) (N := some 66) (bm 12 1023) rfl rfl (by kernel_rfl) (by decide) (fun K hK => ?_)
      refine ZX (w0 := w5) Wc.heap.size (by rfl) (.tmp 58) (.tmp 65) rfl (A := Aj) (x0 := some xc) (n := (j + 1)) (c := cj) (z := zj) (s1 := s5) (A1 := A5') (n1 := n5') (c1 := c5') (z1 := z5) (q := W9.heap.size) rfl rfl (NR.below hJG2.out.hr HB5) hn5 hc5 ?_ ?_ ?_ (Below.refl _ _) ?_ ?_ ?_
      ·intro k hk; have h1 := NR.lt hJG2.out.hr k hk; have h2 := HB_.size; omega
      ·have h1 := hJB2.out.size; have h2 := HB_.size; omega
      ·intro y hy; obtain rfl := Option.some.inj hy; have h1 := hJG2.out.lt; have h2 := HB_.size; have h3 := HB5.size; omega
      ·have h1 := hJB2.out.size; have h2 := HB5.size; omega
      ·have h1 := hms.out; omega
      intro A6 c6 w6 hr6 hb6 hg6
      have hG5 := hJG2.out.below HB5
      have hcz := (Qa (hG5.at hg6) 1).trans rfl
      have hfz := Qg (hG5.at hg6) 1
      refine hK.out _ _ ?_
      clear hK K
      refine Qq (a' := ?_) ?_ ?_
      rotate_left
      ·show Act.put _ (some 66) _ = _
       simp only [Act.put, sA, sB, sC, Qk, Ql]
       rfl
      refine Q4 (i := 10) (N := some 67) (v := ?_) (a' := ?_) (bm 12 2047) rfl rfl (by kernel_rfl) (fun _ _ _ h => h) (Or.inl ⟨by rfl, ?_⟩) ?_ ?_
      rotate_left
      ·intro w'
       go_simp
       with_reducible rfl
      rotate_left
      ·simp only [Act.put, sA, sB, sC, Qk, Ql]
       rfl
      refine Zw (i := 11) (N := none) (bm 12 4095) rfl rfl (by kernel_rfl) (by decide) (fun K hK => ?_)
      refine Vk (w1 := ?_) (by rfl) rfl ?_ ?_
      rotate_left
      ·go_simp
       rfl
      refine hK.out _ _ ?_
      clear hK K
      refine Zx (by kernel_rfl) ?_
      clear hHeld
      have hq1 := hJG2.out.hx
      have hq2 := hJB2.out.size
      have hq3 := ((hJB2.out.trans (HB5.mono hq2)).trans hb6).setCell (p := ⟨xc, 1, none⟩) hq1 (.slice A6 ((j + 1) + 1) c6)
      have hG6 := Qb.mk (hG5.app hg6 hr6)
      have hB6 := Qb.mk hq3
      generalize w6.setCell ⟨xc, 1, none⟩ (.slice A6 ((j + 1) + 1) c6) = w8 at hG6 hB6 hq3 ⊢
      clear hq1 hq2 hq3 hcz hfz hr6 hb6 hg6 hG5 hJG2 hJB2
      have hJG2 := hG6
      have hJB2 := hB6
      clear hG6 hB6
      (try clear HB5)
      (try clear HB_)
      skip
      clear u1
      go_wp2
      go_roundg (gk - 1)
      case measure => exact hj7.2.2
      case rel => exact ⟨j + 1, _, _, _, by first | exact hjn' | rfl, hj7.1, hj7.2.1, hJG2, ⟨by have h1 := hJz2.out; have h2 := hz5.out; omega⟩, hJB2⟩
     ·obtain rfl : j = x.f1.length := by omega
      have q1 : decide ((x.f1.length : Int) < (x.f1.length : Int)) = false := decide_eq_false (by omega)
      have hG5 := hGc.out.below hJB.out
      have hx1 := (Qa hG5.ho 1).trans rfl
      have o0 := (Qa hJG.out.ho 0).trans rfl
      have o1 := (Qa hJG.out.ho 1).trans rfl
      have o2 := (Qa hJG.out.ho 2).trans rfl
      have hG5 := Qb.mk hG5
      clear hj hkj
      go_wp2_with (first | ((with_reducible refine Zi (b := .append) (xs := #[.tmp 69, .tmp 71]) rfl ?_); at_builtin; go_loud (refine app_list (w0 := wr) W0.heap.size rfl (.tmp 69) (.tmp 71) rfl (x0 := some xb) (A := A) (n := m) (c := c) (z := z) (q := Wc.heap.size) (s1 := ⟨#[]⟩) (A1 := Aj) (n1 := x.f1.length + 1) (c1 := cj) (z1 := zj) rfl rfl ?aR ?aN ?aC ?aK ?aQ ?aX ?aB ?aS ?aL ?_); (case aR => exact hG5.out.hr); (case aN => exact hJG.out.hr.list.1.list); (case aC => exact hJG.out.hr.list.2); (case aK => exact NR.lt hGc.out.hr); (case aQ => exact hBB.out.size); (case aX => exact fun y hy => by obtain rfl := Option.some.inj hy; have h1 := hGc.out.lt; have h2 := hJB.out.size; omega); (case aB => exact Below.refl _ _); (case aS => exact Nat.le_trans hBB.out.size hJB.out.size); (case aL => have := hms.out; omega); intro A6 c6 w6 hr6 hb6 hg6; have hcz := (Qa (hG5.out.at hg6) 1).trans rfl; have hfz := Qg (hG5.out.at hg6) 1; have hG6 := Qb.mk (hG5.out.app hg6 hr6); have hB6 := Qb.mk (((hBB.out.trans (hJB.out.mono hBB.out.size)).trans hb6).setCell (p := ⟨xb, 1, none⟩) hG5.out.hx (.slice A6 (m + 1) c6)); clear hr6 hb6 hg6; skip))
      go_roundg g1
      case measure => exact hi7.2.2
      case rel => exact ⟨i + 1, m + 1, _, _, _, by first | exact hjn | rfl, hi7.1, hi7.2.1, hm7, hG6, ⟨by rw [cBL_take hxi.out]; have h1 := hz.out; have h2 := hJz.out; have h3 := tszL_le (x.f1.map tN) x.f1.length; have h4 := sz0; unfold cB; omega⟩, hB6⟩
  ·obtain rfl : i = cs.length := by omega
   have q1 : decide ((cs.length : Int) < (cs.length : Int)) = false := decide_eq_false (by omega)
   have o0 := (Qa hG.out.ho 0).trans rfl
   have o1 := (Qa hG.out.ho 1).trans rfl
   have o2 := (Qa hG.out.ho 2).trans rfl
   have hro := Qc hrx.out hB.out
   have r0 := (Qa hro 0).trans rfl
   have r1 := (Qa hro 1).trans rfl
   have r2 := (Qa hro 2).trans rfl
   have y0 := Qg hro 0
   have y1 := Qg hro 1
   have y2 := Qg hro 2
   have hfin := Qb.mk hG.out.hr.list
   clear hi hk
   go_wp2
   refine bodyPost_ret (v := .agg #[.string ⟨#[]⟩, .slice A m c, .int .i64 0]) (by simp [results, Tryd.results69, go_sem, *]) rfl ⟨_, A, m, c, z, rfl, by have h1 := hz.out; have h2 := cBL_le cs cs.length; rw [sz0]; omega, hfin.out.2, ?_, ?_⟩
   ·exact (NL.far3 (q := w.heap.size + 1) hfin.out.1.list (by have := hsz.out; omega) _ _ _).mono hB0.out.size
   ·exact below3 (q := w.heap.size + 1) (hB0.out.trans (hB.out.mono hB0.out.size)) (by omega) _ _ _
set_option maxHeartbeats 16000000 in
set_option maxRecDepth 100000 in
theorem defNode_c (dn : ByteArray) (ps : List ByteArray) (e : S29) (h1 : ps.length ≤ 100000000000) (he : XN e) (w : World) (hg : GG w) {A1 A3 A4 A5 : Option Addr} {c1 c3 c4 c5 : Nat} (hC1 : Kd.string.C w A1 ps.length ps) (h3 : Kd.string.C w A3 e.f3.length e.f3) (h4 : k29.C w A4 e.f4.length e.f4) (h5 : k88.C w A5 e.f5.length e.f5) :
  Calls Tryd.prog 72 #[.agg #[.string dn, .slice A1 ps.length c1, .int .i64 e.f0, .string e.f1, .int .i64 e.f2, .slice A3 e.f3.length c3, .slice A4 e.f4.length c4, .slice A5 e.f5.length c5]] w (ND (dn.size + nmz ps + eB e + 100) w) := by
 have E : ∀ W : World, ∀ o : Obj, (W.alloc o).heap.size = W.heap.size + 1 := fun W o => Array.size_push _
 obtain ⟨W0, hW0⟩ : ∃ W0, (w.alloc (.cells #[.string dn, .slice A1 ps.length c1, .int .i64 e.f0, .string e.f1, .int .i64 e.f2, .slice A3 e.f3.length c3, .slice A4 e.f4.length c4, .slice A5 e.f5.length c5] 34)).alloc (.cells #[.string ⟨#[]⟩, .slice none 0 0, .int .i64 0] 109) = W0 := ⟨_, rfl⟩
 have hB0 : Qb (Below w.heap.size w W0) := ⟨by rw [← hW0]; exact Qd (Qd (Below.refl _ _) _) _⟩
 have hbx : Qb (W0.heap[w.heap.size]? = some (.cells #[.string dn, .slice A1 ps.length c1, .int .i64 e.f0, .string e.f1, .int .i64 e.f2, .slice A3 e.f3.length c3, .slice A4 e.f4.length c4, .slice A5 e.f5.length c5] 34 (0, 0))) := ⟨by rw [← hW0]; exact (Below.heap_alloc _ _ _ (by rw [E]; omega)).trans (Qv w _)⟩
 have hrx : Qb (W0.heap[w.heap.size + 1]? = some (.cells #[.string ⟨#[]⟩, .slice none 0 0, .int .i64 0] 109 (0, 0))) := ⟨by rw [← hW0]; rw [← E w]; exact Qv _ _⟩
 have hsz : Qb (W0.heap.size = w.heap.size + 1 + 1) := ⟨by rw [← hW0, E, E]⟩
 have k0 := (Qa hbx.out 0).trans rfl
 have k1 := (Qa hbx.out 1).trans rfl
 have k2 := (Qa hbx.out 2).trans rfl
 have k3 := (Qa hbx.out 3).trans rfl
 have k4 := (Qa hbx.out 4).trans rfl
 have k5 := (Qa hbx.out 5).trans rfl
 have k6 := (Qa hbx.out 6).trans rfl
 have k7 := (Qa hbx.out 7).trans rfl
 have hD1 := Qb.mk (Kd.Qj hC1 hB0.out)
 have hl9 := Qb.mk (And.intro h1 True.intro)
 have CX := Qb.mk (fun (W : World) (hb : Below w.heap.size w W) => he.at W (GG.below hg hb) (c3 := c3) (c4 := c4) (c5 := c5) (Kd.Qj h3 hb) (Kd.Qj h4 hb) (Kd.Qj h5 hb))
 clear hC1 h1 he h3 h4 h5 hg
 go_enter Tryd.func72, Tryd.ntmps72
 go_wp2
 (try rw [hW0])
 clear hW0 k0 k1 k2 k3 k4 k5 k6 k7
 have HB_ : Below W0.heap.size W0 W0.drew := Qi (Below.refl _ _)
 refine QZ (n := 8) (S := fun w' => w'.cell? ⟨w.heap.size, 0, none⟩ = some (.string dn)) (ds := [7]) (bm 8 0) (by kernel_rfl) rfl rfl ((Qa (Qc hbx.out HB_) 0).trans rfl) (fun hHeld => ?_)
 generalize W0.drew = W9 at *
 refine Q4 (i := 1) (N := some 5) (v := ?_) (a' := ?_) (bm 8 2) rfl rfl (by kernel_rfl) (fun _ _ _ h => h) (Or.inl ⟨by rfl, ?_⟩) ?_ ?_
 rotate_left
 ·intro w'
  go_simp
  with_reducible rfl
 rotate_left
 ·simp only [Act.put, sA, sB, sC, Qk, Ql]
  rfl
 refine QE (i := 2) (N := some 6) (v := ?_) (a' := ?_) (bm 8 6) rfl rfl (by kernel_rfl) (fun _ _ _ h => h) (Or.inl ⟨by rfl, ?_⟩) hHeld ?_ ?_
 rotate_left
 ·intro w' s0
  go_simp
  with_reducible rfl
 rotate_left
 ·simp only [Act.put, sA, sB, sC, Qk, Ql]
  rfl
 refine Ze (σ := Nat × Nat) 1 (bm 8 127) (fun s_ => [(4, .agg #[.string ⟨#[100, 101, 102]⟩, .slice none 0 0, .int .i64 0]), (7, .agg #[.string dn, .slice none 0 0, .int .i64 0]), (8, .slice (some ⟨s_.1, 0, none⟩) 2 2), (9, .agg #[.string ⟨#[]⟩, .slice (some ⟨s_.1, 0, none⟩) 2 2, .int .i64 0]), (3, .pointer (some ⟨s_.2, 0, none⟩))]) (fun s_ w' => (Below W0.heap.size W0 w') ∧ (NR w' W0.heap.size (some s_.2) (some ⟨s_.1, 0, Option.none⟩) 2 2 (3 + 3 + 0 + (dn.size + 3 + 0))) ∧ (w'.heap[s_.2]? = some (.cells #[.string ⟨#[]⟩, .slice none 0 0, .int .i64 0] 109 (0, 0)) ∧ W0.heap.size ≤ s_.2)) ?_ ?_
 rotate_left
 ·intro hJ0_3_4_5_6
  refine Ze (σ := Nat × Nat) 2 (bm 8 63) (fun s_ => [(4, .agg #[.string ⟨#[100, 101, 102]⟩, .slice none 0 0, .int .i64 0]), (7, .agg #[.string dn, .slice none 0 0, .int .i64 0]), (8, .slice (some ⟨s_.1, 0, none⟩) 2 2), (9, .agg #[.string ⟨#[]⟩, .slice (some ⟨s_.1, 0, none⟩) 2 2, .int .i64 0])]) (fun s_ w' => (Below W0.heap.size W0 w') ∧ (NR w' W0.heap.size Option.none (some ⟨s_.1, 0, Option.none⟩) 2 2 (3 + 3 + 0 + (dn.size + 3 + 0)))) ?_ ?_
  rotate_left
  ·intro hJ0_3_4_5
   refine Ze (σ := Nat × Nat) 2 (bm 8 95) (fun s_ => [(4, .agg #[.string ⟨#[100, 101, 102]⟩, .slice none 0 0, .int .i64 0]), (7, .agg #[.string dn, .slice none 0 0, .int .i64 0]), (8, .slice (some ⟨s_.1, 0, none⟩) 2 2), (3, .pointer (some ⟨s_.2, 0, none⟩))]) (fun s_ w' => (Below W0.heap.size W0 w') ∧ (NR w' W0.heap.size (some s_.2) (some ⟨s_.1, 0, Option.none⟩) 2 2 (3 + 3 + 0 + (dn.size + 3 + 0))) ∧ (w'.heap[s_.2]? = some (.cells #[.string ⟨#[]⟩, .slice none 0 0, .int .i64 0] 109 (0, 0)) ∧ W0.heap.size ≤ s_.2)) ?_ ?_
   rotate_left
   ·intro hJ0_3_4_6
    refine Ze (σ := Nat × Nat) 3 (bm 8 31) (fun s_ => [(4, .agg #[.string ⟨#[100, 101, 102]⟩, .slice none 0 0, .int .i64 0]), (7, .agg #[.string dn, .slice none 0 0, .int .i64 0]), (8, .slice (some ⟨s_.1, 0, none⟩) 2 2)]) (fun s_ w' => (Below W0.heap.size W0 w') ∧ (NR w' W0.heap.size Option.none (some ⟨s_.1, 0, Option.none⟩) 2 2 (3 + 3 + 0 + (dn.size + 3 + 0)))) ?_ ?_
    rotate_left
    ·intro hJ0_3_4
     refine Ze (σ := Nat × Nat) 3 (bm 8 79) (fun s_ => [(4, .agg #[.string ⟨#[100, 101, 102]⟩, .slice none 0 0, .int .i64 0]), (7, .agg #[.string dn, .slice none 0 0, .int .i64 0]), (3, .pointer (some ⟨s_.2, 0, none⟩))]) (fun s_ w' => (Below W0.heap.size W0 w') ∧ (w'.heap[s_.2]? = some (.cells #[.string ⟨#[]⟩, .slice none 0 0, .int .i64 0] 109 (0, 0)) ∧ W0.heap.size ≤ s_.2)) ?_ ?_
     rotate_left
     ·intro hJ0_3_6
      refine Ze (σ := Nat × Nat) 4 (bm 8 15) (fun s_ => [(4, .agg #[.string ⟨#[100, 101, 102]⟩, .slice none 0 0, .int .i64 0]), (7, .agg #[.string dn, .slice none 0 0, .int .i64 0])]) (fun s_ w' => (Below W0.heap.size W0 w')) ?_ ?_
      rotate_left
      ·intro hJ0_3
       refine Ze (σ := Nat × Nat) 4 (bm 8 71) (fun s_ => [(4, .agg #[.string ⟨#[100, 101, 102]⟩, .slice none 0 0, .int .i64 0]), (3, .pointer (some ⟨s_.2, 0, none⟩))]) (fun s_ w' => (Below W0.heap.size W0 w') ∧ (w'.heap[s_.2]? = some (.cells #[.string ⟨#[]⟩, .slice none 0 0, .int .i64 0] 109 (0, 0)) ∧ W0.heap.size ≤ s_.2)) ?_ ?_
       rotate_left
       ·intro hJ0_6
        refine Ze (σ := Nat × Nat) 5 (bm 8 7) (fun s_ => [(4, .agg #[.string ⟨#[100, 101, 102]⟩, .slice none 0 0, .int .i64 0])]) (fun s_ w' => (Below W0.heap.size W0 w')) ?_ ?_
        rotate_left
        ·intro hJ0
         refine Ze (σ := Nat × Nat) 5 (bm 8 70) (fun s_ => [(3, .pointer (some ⟨s_.2, 0, none⟩))]) (fun s_ w' => (Below W0.heap.size W0 w') ∧ (w'.heap[s_.2]? = some (.cells #[.string ⟨#[]⟩, .slice none 0 0, .int .i64 0] 109 (0, 0)) ∧ W0.heap.size ≤ s_.2)) ?_ ?_
         rotate_left
         ·intro hJ6
          refine two_ (i := 0) (j := 6) (Ni := some 4) (Nj := some 3) (bm 8 7) (bm 8 70) rfl rfl rfl rfl (by kernel_rfl) (by decide) (by decide) (fun K hK => ?_) (fun K hK => ?_)
          ·skip
           refine QI Tryd.func82 (by kernel_rfl) rfl #[.string ⟨#[100, 101, 102]⟩] (by rfl) rfl rfl (by simp only [List.map_toArray, List.map_cons, List.map_nil]; rfl) ?_
           (with_reducible refine (QV _ W9).mono ?_)
           rintro e w3 ⟨rfl, hbq⟩
           refine ⟨_, rfl, ?_⟩
           have HBn := Qe HB_ hbq
           refine hK.out _ _ ((Qa (Qc hbx.out HBn) 0).trans rfl) (fun hHeld => ?_)
           clear hK K
           refine Qq (a' := ?_) ?_ ?_
           rotate_left
           ·show Act.put _ (some 4) _ = _
            simp only [Act.put, sA, sB, sC, Qk, Ql]
            rfl
           exact Qq (by first | (simp only [Qs, Act.put, List.setIfInBounds_toArray, List.set_cons_zero, List.set_cons_succ]; done) | (simp only [Qs, Act.put, List.setIfInBounds_toArray, List.set_cons_zero, List.set_cons_succ]; rfl)) (hJ0 (0, 0) _ HBn)
          ·skip
           refine QM (w1 := ?_) (v := ?_) (by rfl) rfl ?_ ?_
           rotate_left 2
           ·go_simp
            constructor
            ·rfl
            ·rfl
           have hbq := Qd (Below.refl W9.heap.size W9) (.cells #[.string ⟨#[]⟩, .slice none 0 0, .int .i64 0] 109)
           have HBn := Qe HB_ hbq
           refine hK.out _ _ ((Qa (Qc hbx.out HBn) 0).trans rfl) (fun hHeld => ?_)
           clear hK K
           refine Qq (a' := ?_) ?_ ?_
           rotate_left
           ·show Act.put _ (some 3) _ = _
            simp only [Act.put, sA, sB, sC, Qk, Ql]
            rfl
           exact Qq (by first | (simp only [Qs, Act.put, List.setIfInBounds_toArray, List.set_cons_zero, List.set_cons_succ]; done) | (simp only [Qs, Act.put, List.setIfInBounds_toArray, List.set_cons_zero, List.set_cons_succ]; rfl)) (hJ6 (0, W9.heap.size) _ ⟨HBn, ⟨Qv W9 _, HB_.size⟩⟩)
         ·skip
          rintro ⟨b6, xb⟩ W9 ⟨HB_, hx8⟩
          skip
          have hHeld : W9.cell? ⟨w.heap.size, 0, none⟩ = some (.string dn) := (Qa (Qc hbx.out HB_) 0).trans rfl
          refine Qq (a' := ?_) ?_ ?_
          rotate_left
          ·simp only [Qs, Act.put, List.setIfInBounds_toArray, List.set_cons_zero, List.set_cons_succ]
           rfl
          refine QQ (i := 0) (N := some 4) (bm 8 71) rfl rfl (by kernel_rfl) (by decide) (fun K hK => ?_)
          refine QI Tryd.func82 (by kernel_rfl) rfl #[.string ⟨#[100, 101, 102]⟩] (by rfl) rfl rfl (by simp only [List.map_toArray, List.map_cons, List.map_nil]; rfl) ?_
          (with_reducible refine (QV _ W9).mono ?_)
          rintro e w3 ⟨rfl, hbq⟩
          refine ⟨_, rfl, ?_⟩
          have HBn := Qe HB_ hbq
          refine hK.out _ _ ((Qa (Qc hbx.out HBn) 0).trans rfl) (fun hHeld => ?_)
          clear hK K
          refine Qq (a' := ?_) ?_ ?_
          rotate_left
          ·show Act.put _ (some 4) _ = _
           simp only [Act.put, sA, sB, sC, Qk, Ql]
           rfl
          exact Qq (by first | (simp only [Qs, Act.put, List.setIfInBounds_toArray, List.set_cons_zero, List.set_cons_succ]; done) | (simp only [Qs, Act.put, List.setIfInBounds_toArray, List.set_cons_zero, List.set_cons_succ]; rfl)) (hJ0_6 (b6, xb) _ ⟨HBn, ⟨Qc hx8.1 hbq, hx8.2⟩⟩)
        ·skip
         rintro ⟨b6, xb⟩ W9 HB_
         skip
         have hHeld : W9.cell? ⟨w.heap.size, 0, none⟩ = some (.string dn) := (Qa (Qc hbx.out HB_) 0).trans rfl
         refine Qq (a' := ?_) ?_ ?_
         rotate_left
         ·simp only [Qs, Act.put, List.setIfInBounds_toArray, List.set_cons_zero, List.set_cons_succ]
          rfl
         refine two_ (i := 3) (j := 6) (Ni := some 7) (Nj := some 3) (bm 8 15) (bm 8 71) rfl rfl rfl rfl (by kernel_rfl) (by decide) (by decide) (fun K hK => ?_) (fun K hK => ?_)
         ·skip
          refine QI Tryd.func82 (by kernel_rfl) rfl #[.string dn] (by rfl) rfl rfl (by simp only [List.map_toArray, List.map_cons, List.map_nil]; rfl) ?_
          (with_reducible refine (QV dn W9).mono ?_)
          rintro e w3 ⟨rfl, hbq⟩
          refine ⟨_, rfl, ?_⟩
          have HBn := Qe HB_ hbq
          refine hK.out _ _ ((Qa (Qc hbx.out HBn) 0).trans rfl) (fun hHeld => ?_)
          clear hK K
          refine Qq (a' := ?_) ?_ ?_
          rotate_left
          ·show Act.put _ (some 7) _ = _
           simp only [Act.put, sA, sB, sC, Qk, Ql]
           rfl
          exact Qq (by first | (simp only [Qs, Act.put, List.setIfInBounds_toArray, List.set_cons_zero, List.set_cons_succ]; done) | (simp only [Qs, Act.put, List.setIfInBounds_toArray, List.set_cons_zero, List.set_cons_succ]; rfl)) (hJ0_3 (b6, xb) _ HBn)
         ·skip
          refine QM (w1 := ?_) (v := ?_) (by rfl) rfl ?_ ?_
          rotate_left 2
          ·go_simp
           constructor
           ·rfl
           ·rfl
          have hbq := Qd (Below.refl W9.heap.size W9) (.cells #[.string ⟨#[]⟩, .slice none 0 0, .int .i64 0] 109)
          have HBn := Qe HB_ hbq
          refine hK.out _ _ ((Qa (Qc hbx.out HBn) 0).trans rfl) (fun hHeld => ?_)
          clear hK K
          refine Qq (a' := ?_) ?_ ?_
          rotate_left
          ·show Act.put _ (some 3) _ = _
           simp only [Act.put, sA, sB, sC, Qk, Ql]
           rfl
          exact Qq (by first | (simp only [Qs, Act.put, List.setIfInBounds_toArray, List.set_cons_zero, List.set_cons_succ]; done) | (simp only [Qs, Act.put, List.setIfInBounds_toArray, List.set_cons_zero, List.set_cons_succ]; rfl)) (hJ0_6 (b6, W9.heap.size) _ ⟨HBn, ⟨Qv W9 _, HB_.size⟩⟩)
       ·skip
        rintro ⟨b6, xb⟩ W9 ⟨HB_, hx8⟩
        skip
        have hHeld : W9.cell? ⟨w.heap.size, 0, none⟩ = some (.string dn) := (Qa (Qc hbx.out HB_) 0).trans rfl
        refine Qq (a' := ?_) ?_ ?_
        rotate_left
        ·simp only [Qs, Act.put, List.setIfInBounds_toArray, List.set_cons_zero, List.set_cons_succ]
         rfl
        refine QQ (i := 3) (N := some 7) (bm 8 79) rfl rfl (by kernel_rfl) (by decide) (fun K hK => ?_)
        refine QI Tryd.func82 (by kernel_rfl) rfl #[.string dn] (by rfl) rfl rfl (by simp only [List.map_toArray, List.map_cons, List.map_nil]; rfl) ?_
        (with_reducible refine (QV dn W9).mono ?_)
        rintro e w3 ⟨rfl, hbq⟩
        refine ⟨_, rfl, ?_⟩
        have HBn := Qe HB_ hbq
        refine hK.out _ _ ((Qa (Qc hbx.out HBn) 0).trans rfl) (fun hHeld => ?_)
        clear hK K
        refine Qq (a' := ?_) ?_ ?_
        rotate_left
        ·show Act.put _ (some 7) _ = _
         simp only [Act.put, sA, sB, sC, Qk, Ql]
         rfl
        exact Qq (by first | (simp only [Qs, Act.put, List.setIfInBounds_toArray, List.set_cons_zero, List.set_cons_succ]; done) | (simp only [Qs, Act.put, List.setIfInBounds_toArray, List.set_cons_zero, List.set_cons_succ]; rfl)) (hJ0_3_6 (b6, xb) _ ⟨HBn, ⟨Qc hx8.1 hbq, hx8.2⟩⟩)
      ·skip
       rintro ⟨b6, xb⟩ W9 HB_
       skip
       have hHeld : W9.cell? ⟨w.heap.size, 0, none⟩ = some (.string dn) := (Qa (Qc hbx.out HB_) 0).trans rfl
       refine Qq (a' := ?_) ?_ ?_
       rotate_left
       ·simp only [Qs, Act.put, List.setIfInBounds_toArray, List.set_cons_zero, List.set_cons_succ]
        rfl
       refine two_ (i := 4) (j := 6) (Ni := some 8) (Nj := some 3) (bm 8 31) (bm 8 79) rfl rfl rfl rfl (by kernel_rfl) (by decide) (by decide) (fun K hK => ?_) (fun K hK => ?_)
       ·skip
        refine QM (w1 := ?_) (v := ?_) (by rfl) rfl ?_ ?_
        rotate_left 2
        ·go_simp
         constructor
         ·rfl
         ·rfl
        have hbq := Qd (Below.refl W9.heap.size W9) (.cells #[.string ⟨#[100, 101, 102]⟩, .slice none 0 0, .int .i64 0, .string dn, .slice none 0 0, .int .i64 0] 109)
        have HBn := Qe HB_ hbq
        refine hK.out _ _ ((Qa (Qc hbx.out HBn) 0).trans rfl) (fun hHeld => ?_)
        clear hK K
        refine Qq (a' := ?_) ?_ ?_
        rotate_left
        ·show Act.put _ (some 8) _ = _
         simp only [Act.put, sA, sB, sC, Qk, Ql]
         rfl
        exact Qq (by first | (simp only [Qs, Act.put, List.setIfInBounds_toArray, List.set_cons_zero, List.set_cons_succ]; done) | (simp only [Qs, Act.put, List.setIfInBounds_toArray, List.set_cons_zero, List.set_cons_succ]; rfl)) (hJ0_3_4 (W9.heap.size, xb) _ ⟨HBn, NR.litX (NX.nil _ _ _) (Nat.le_refl _) HB_.size (fun e => by cases e)⟩)
       ·skip
        refine QM (w1 := ?_) (v := ?_) (by rfl) rfl ?_ ?_
        rotate_left 2
        ·go_simp
         constructor
         ·rfl
         ·rfl
        have hbq := Qd (Below.refl W9.heap.size W9) (.cells #[.string ⟨#[]⟩, .slice none 0 0, .int .i64 0] 109)
        have HBn := Qe HB_ hbq
        refine hK.out _ _ ((Qa (Qc hbx.out HBn) 0).trans rfl) (fun hHeld => ?_)
        clear hK K
        refine Qq (a' := ?_) ?_ ?_
        rotate_left
        ·show Act.put _ (some 3) _ = _
         simp only [Act.put, sA, sB, sC, Qk, Ql]
         rfl
        exact Qq (by first | (simp only [Qs, Act.put, List.setIfInBounds_toArray, List.set_cons_zero, List.set_cons_succ]; done) | (simp only [Qs, Act.put, List.setIfInBounds_toArray, List.set_cons_zero, List.set_cons_succ]; rfl)) (hJ0_3_6 (b6, W9.heap.size) _ ⟨HBn, ⟨Qv W9 _, HB_.size⟩⟩)
     ·skip
      rintro ⟨b6, xb⟩ W9 ⟨HB_, hx8⟩
      skip
      have hHeld : W9.cell? ⟨w.heap.size, 0, none⟩ = some (.string dn) := (Qa (Qc hbx.out HB_) 0).trans rfl
      refine Qq (a' := ?_) ?_ ?_
      rotate_left
      ·simp only [Qs, Act.put, List.setIfInBounds_toArray, List.set_cons_zero, List.set_cons_succ]
       rfl
      refine QQ (i := 4) (N := some 8) (bm 8 95) rfl rfl (by kernel_rfl) (by decide) (fun K hK => ?_)
      refine QM (w1 := ?_) (v := ?_) (by rfl) rfl ?_ ?_
      rotate_left 2
      ·go_simp
       constructor
       ·rfl
       ·rfl
      have hbq := Qd (Below.refl W9.heap.size W9) (.cells #[.string ⟨#[100, 101, 102]⟩, .slice none 0 0, .int .i64 0, .string dn, .slice none 0 0, .int .i64 0] 109)
      have HBn := Qe HB_ hbq
      refine hK.out _ _ ((Qa (Qc hbx.out HBn) 0).trans rfl) (fun hHeld => ?_)
      clear hK K
      refine Qq (a' := ?_) ?_ ?_
      rotate_left
      ·show Act.put _ (some 8) _ = _
       simp only [Act.put, sA, sB, sC, Qk, Ql]
       rfl
      exact Qq (by first | (simp only [Qs, Act.put, List.setIfInBounds_toArray, List.set_cons_zero, List.set_cons_succ]; done) | (simp only [Qs, Act.put, List.setIfInBounds_toArray, List.set_cons_zero, List.set_cons_succ]; rfl)) (hJ0_3_4_6 (W9.heap.size, xb) _ ⟨HBn, NR.litX (NX.nil _ _ _) (Nat.le_refl _) HB_.size (fun e => by have h1 := Option.some.inj e; have h2 := (Array.getElem?_eq_some_iff.1 hx8.1).1; dsimp only at h1 h2; omega), ⟨Qc hx8.1 hbq, hx8.2⟩⟩)
    ·skip
     rintro ⟨b6, xb⟩ W9 ⟨HB_, hr6⟩
     skip
     have hHeld : W9.cell? ⟨w.heap.size, 0, none⟩ = some (.string dn) := (Qa (Qc hbx.out HB_) 0).trans rfl
     refine Qq (a' := ?_) ?_ ?_
     rotate_left
     ·simp only [Qs, Act.put, List.setIfInBounds_toArray, List.set_cons_zero, List.set_cons_succ]
      rfl
     refine two_ (i := 5) (j := 6) (Ni := some 9) (Nj := some 3) (bm 8 63) (bm 8 95) rfl rfl rfl rfl (by kernel_rfl) (by decide) (by decide) (fun K hK => ?_) (fun K hK => ?_)
     ·skip
      refine QI Tryd.func81 (by kernel_rfl) rfl #[.slice (some ⟨b6, 0, none⟩) 2 2] (by rfl) rfl rfl (by simp only [List.map_toArray, List.map_cons, List.map_nil]; rfl) ?_
      (with_reducible refine (Z7 _ _ _ _).mono ?_)
      rintro e w3 ⟨rfl, hbq⟩
      refine ⟨_, rfl, ?_⟩
      have HBn := Qe HB_ hbq
      refine hK.out _ _ ((Qa (Qc hbx.out HBn) 0).trans rfl) (fun hHeld => ?_)
      clear hK K
      refine Qq (a' := ?_) ?_ ?_
      rotate_left
      ·show Act.put _ (some 9) _ = _
       simp only [Act.put, sA, sB, sC, Qk, Ql]
       rfl
      exact Qq (by first | (simp only [Qs, Act.put, List.setIfInBounds_toArray, List.set_cons_zero, List.set_cons_succ]; done) | (simp only [Qs, Act.put, List.setIfInBounds_toArray, List.set_cons_zero, List.set_cons_succ]; rfl)) (hJ0_3_4_5 (b6, xb) _ ⟨HBn, NR.below hr6 hbq⟩)
     ·skip
      refine QM (w1 := ?_) (v := ?_) (by rfl) rfl ?_ ?_
      rotate_left 2
      ·go_simp
       constructor
       ·rfl
       ·rfl
      have hbq := Qd (Below.refl W9.heap.size W9) (.cells #[.string ⟨#[]⟩, .slice none 0 0, .int .i64 0] 109)
      have HBn := Qe HB_ hbq
      refine hK.out _ _ ((Qa (Qc hbx.out HBn) 0).trans rfl) (fun hHeld => ?_)
      clear hK K
      refine Qq (a' := ?_) ?_ ?_
      rotate_left
      ·show Act.put _ (some 3) _ = _
       simp only [Act.put, sA, sB, sC, Qk, Ql]
       rfl
      exact Qq (by first | (simp only [Qs, Act.put, List.setIfInBounds_toArray, List.set_cons_zero, List.set_cons_succ]; done) | (simp only [Qs, Act.put, List.setIfInBounds_toArray, List.set_cons_zero, List.set_cons_succ]; rfl)) (hJ0_3_4_6 (b6, W9.heap.size) _ ⟨HBn, NR.newx hr6 _, ⟨Qv W9 _, HB_.size⟩⟩)
   ·skip
    rintro ⟨b6, xb⟩ W9 ⟨HB_, hr6, hx8⟩
    skip
    have hHeld : W9.cell? ⟨w.heap.size, 0, none⟩ = some (.string dn) := (Qa (Qc hbx.out HB_) 0).trans rfl
    refine Qq (a' := ?_) ?_ ?_
    rotate_left
    ·simp only [Qs, Act.put, List.setIfInBounds_toArray, List.set_cons_zero, List.set_cons_succ]
     rfl
    refine QQ (i := 5) (N := some 9) (bm 8 127) rfl rfl (by kernel_rfl) (by decide) (fun K hK => ?_)
    refine QI Tryd.func81 (by kernel_rfl) rfl #[.slice (some ⟨b6, 0, none⟩) 2 2] (by rfl) rfl rfl (by simp only [List.map_toArray, List.map_cons, List.map_nil]; rfl) ?_
    (with_reducible refine (Z7 _ _ _ _).mono ?_)
    rintro e w3 ⟨rfl, hbq⟩
    refine ⟨_, rfl, ?_⟩
    have HBn := Qe HB_ hbq
    refine hK.out _ _ ((Qa (Qc hbx.out HBn) 0).trans rfl) (fun hHeld => ?_)
    clear hK K
    refine Qq (a' := ?_) ?_ ?_
    rotate_left
    ·show Act.put _ (some 9) _ = _
     simp only [Act.put, sA, sB, sC, Qk, Ql]
     rfl
    exact Qq (by first | (simp only [Qs, Act.put, List.setIfInBounds_toArray, List.set_cons_zero, List.set_cons_succ]; done) | (simp only [Qs, Act.put, List.setIfInBounds_toArray, List.set_cons_zero, List.set_cons_succ]; rfl)) (hJ0_3_4_5_6 (b6, xb) _ ⟨HBn, NR.below hr6 hbq, ⟨Qc hx8.1 hbq, hx8.2⟩⟩)
  ·skip
   rintro ⟨b6, xb⟩ W9 ⟨HB_, hr6⟩
   skip
   have hHeld : W9.cell? ⟨w.heap.size, 0, none⟩ = some (.string dn) := (Qa (Qc hbx.out HB_) 0).trans rfl
   refine Qq (a' := ?_) ?_ ?_
   rotate_left
   ·simp only [Qs, Act.put, List.setIfInBounds_toArray, List.set_cons_zero, List.set_cons_succ]
    rfl
   refine QQ (i := 6) (N := some 3) (bm 8 127) rfl rfl (by kernel_rfl) (by decide) (fun K hK => ?_)
   refine QM (w1 := ?_) (v := ?_) (by rfl) rfl ?_ ?_
   rotate_left 2
   ·go_simp
    constructor
    ·rfl
    ·rfl
   have hbq := Qd (Below.refl W9.heap.size W9) (.cells #[.string ⟨#[]⟩, .slice none 0 0, .int .i64 0] 109)
   have HBn := Qe HB_ hbq
   refine hK.out _ _ ((Qa (Qc hbx.out HBn) 0).trans rfl) (fun hHeld => ?_)
   clear hK K
   refine Qq (a' := ?_) ?_ ?_
   rotate_left
   ·show Act.put _ (some 3) _ = _
    simp only [Act.put, sA, sB, sC, Qk, Ql]
    rfl
   exact Qq (by first | (simp only [Qs, Act.put, List.setIfInBounds_toArray, List.set_cons_zero, List.set_cons_succ]; done) | (simp only [Qs, Act.put, List.setIfInBounds_toArray, List.set_cons_zero, List.set_cons_succ]; rfl)) (hJ0_3_4_5_6 (b6, W9.heap.size) _ ⟨HBn, NR.newx hr6 _, ⟨Qv W9 _, HB_.size⟩⟩)
 rintro ⟨b6, xb⟩ W9 ⟨HB_, hr6, hx8⟩
 skip
 have hcz0 := (Qa hx8.1 0).trans rfl
 have hcz1 := (Qa hx8.1 1).trans rfl
 have hcz2 := (Qa hx8.1 2).trans rfl
 have hfz0 := Qg hx8.1 0
 have hfz1 := Qg hx8.1 1
 have hfz2 := Qg hx8.1 2
 have hHeld : W9.cell? ⟨w.heap.size, 0, none⟩ = some (.string dn) := (Qa (Qc hbx.out HB_) 0).trans rfl
 refine Qq (a' := ?_) ?_ ?_
 rotate_left
 ·simp only [Qs, Act.put, List.setIfInBounds_toArray, List.set_cons_zero, List.set_cons_succ]
  rfl
 refine Zw (i := 7) (N := none) (bm 8 255) rfl rfl (by kernel_rfl) (by decide) (fun K hK => ?_)
 refine Vk (w1 := ?_) (by rfl) rfl ?_ ?_
 rotate_left
 ·go_simp
  rfl
 refine hK.out _ _ ?_
 clear hK K
 refine Zx (by kernel_rfl) ?_
 clear hHeld
 have hx8' := hx8.2
 have hx8 := hx8.1
 obtain ⟨wr, hwr⟩ : ∃ wr, ((W9.setCell ⟨xb, 0, none⟩ (.string ⟨#[]⟩)).setCell ⟨xb, 1, none⟩ (.slice (some ⟨b6, 0, none⟩) 2 2)).setCell ⟨xb, 2, none⟩ (.int .i64 0) = wr := ⟨_, rfl⟩
 have hG : Qb (GN wr W0.heap.size xb ⟨#[]⟩ (some ⟨b6, 0, none⟩) 2 2 (3 + 3 + 0 + (dn.size + 3 + 0))) := ⟨by rw [← hwr]; exact ⟨QP (QP (QP hx8 0 _ rfl) 1 _ rfl) 2 _ rfl, ((hr6.far (p := ⟨xb, 0, none⟩) (.inr rfl) _).far (p := ⟨xb, 1, none⟩) (.inr rfl) _).far (p := ⟨xb, 2, none⟩) (.inr rfl) _, hx8'⟩⟩
 have hB : Qb (Below W0.heap.size W0 wr) := ⟨by rw [← hwr]; exact ((HB_.setCell (p := ⟨xb, 0, none⟩) hx8' _).setCell (p := ⟨xb, 1, none⟩) hx8' _).setCell (p := ⟨xb, 2, none⟩) hx8' _⟩
 rw [hwr]
 clear hwr hr6 HB_ hx8 hx8' hcz0 hcz1 hcz2 hfz0 hfz1 hfz2
 have k1 := (Qa (Qc hbx.out hB.out) 1).trans rfl
 go_wp2
 have HB_ : Below wr.heap.size wr wr.drew := Qi (Below.refl _ _)
 refine QZ (n := 8) (S := fun w' => w'.cell? ⟨xb, 1, none⟩ = some (.slice (some ⟨b6, 0, none⟩) 2 2) ∧ w'.cell? ⟨w.heap.size, 1, none⟩ = some (.slice A1 ps.length c1)) (ds := [5, 7]) (bm 8 0) (by kernel_rfl) rfl rfl ⟨(Qa (Qc hG.out.ho HB_) 1).trans rfl, (Qa (Qc (Qc hbx.out hB.out) HB_) 1).trans rfl⟩ (fun hHeld => ?_)
 generalize wr.drew = W9 at *
 refine Q4 (i := 0) (N := some 10) (v := ?_) (a' := ?_) (bm 8 1) rfl rfl (by kernel_rfl) (fun _ _ _ h => h) (Or.inl ⟨by rfl, ?_⟩) ?_ ?_
 rotate_left
 ·intro w'
  go_simp
  with_reducible rfl
 rotate_left
 ·simp only [Act.put, sA, sB, sC, Qk, Ql]
  rfl
 refine Q4 (i := 2) (N := some 12) (v := ?_) (a' := ?_) (bm 8 5) rfl rfl (by kernel_rfl) (fun _ _ _ h => h) (Or.inl ⟨by rfl, ?_⟩) ?_ ?_
 rotate_left
 ·intro w'
  go_simp
  with_reducible rfl
 rotate_left
 ·simp only [Act.put, sA, sB, sC, Qk, Ql]
  rfl
 refine QE (i := 1) (N := some 11) (v := ?_) (a' := ?_) (bm 8 7) rfl rfl (by kernel_rfl) (fun _ _ _ h => h) (Or.inl ⟨by rfl, ?_⟩) hHeld ?_ ?_
 rotate_left
 ·rintro w' ⟨s0, s1⟩
  go_simp
  with_reducible rfl
 rotate_left
 ·simp only [Act.put, sA, sB, sC, Qk, Ql]
  rfl
 refine QE (i := 3) (N := some 13) (v := ?_) (a' := ?_) (bm 8 15) rfl rfl (by kernel_rfl) (fun _ _ _ h => h) (Or.inl ⟨by rfl, ?_⟩) hHeld ?_ ?_
 rotate_left
 ·rintro w' ⟨s0, s1⟩
  go_simp
  with_reducible rfl
 rotate_left
 ·simp only [Act.put, sA, sB, sC, Qk, Ql]
  rfl
 refine QQ (i := 4) (N := some 14) (bm 8 31) rfl rfl (by kernel_rfl) (by decide) (fun K hK => ?_)
 refine QI Tryd.func83 (by kernel_rfl) rfl #[.slice A1 ps.length c1] (by rfl) rfl rfl (by simp only [List.map_toArray, List.map_cons, List.map_nil]; rfl) ?_
 (with_reducible refine (ws_calls ps W9 (by have := hl9.out; omega) (Kd.Qj (Kd.Qj hD1.out hB.out) HB_)).mono ?_)
 rintro e w5 ⟨P1, c1', rfl, hc1, hn1, hb5⟩
 refine ⟨_, rfl, ?_⟩
 have HB5 := Qe HB_ hb5
 refine hK.out _ _ ⟨(Qa (Qc hG.out.ho HB5) 1).trans rfl, (Qa (Qc (Qc hbx.out hB.out) HB5) 1).trans rfl⟩ (fun hHeld => ?_)
 clear hK K
 refine Qq (a' := ?_) ?_ ?_
 rotate_left
 ·show Act.put _ (some 14) _ = _
  simp only [Act.put, sA, sB, sC, Qk, Ql]
  rfl
 refine Zw (i := 5) (N := some 15) (bm 8 63) rfl rfl (by kernel_rfl) (by decide) (fun K hK => ?_)
 refine apps_step (w0 := w5) W0.heap.size (by rfl) (.tmp 11) (.tmp 14) rfl (A := some ⟨b6, 0, none⟩) (x0 := some xb) (n := 2) (c := 2) (z := (3 + 3 + 0 + (dn.size + 3 + 0))) (A1 := P1) (n1 := ps.length) (c1 := c1') (z1 := nmz ps) (q := W9.heap.size) rfl rfl (NR.below hG.out.hr HB5) hn1 ?_ ?_ ?_ (Below.refl _ _) ?_ (by have := hl9.out; omega) ?_
 ·intro k hk; have := NR.lt hG.out.hr k hk; have := HB_.size; omega
 ·have := hB.out.size; have := HB_.size; omega
 ·intro y hy; obtain rfl := Option.some.inj hy; have := hG.out.lt; have := HB_.size; have := HB5.size; omega
 ·have := hB.out.size; have := HB5.size; omega
 intro A6 c6 w6 hr6 hb6 hg6
 have hG5 := hG.out.below HB5
 have hcz := (Qa (hG5.at hg6) 1).trans rfl
 have hfz := Qg (hG5.at hg6) 1
 refine hK.out _ _ ?_
 clear hK K
 refine Qq (a' := ?_) ?_ ?_
 rotate_left
 ·show Act.put _ (some 15) _ = _
  simp only [Act.put, sA, sB, sC, Qk, Ql]
  rfl
 refine Q4 (i := 6) (N := some 16) (v := ?_) (a' := ?_) (bm 8 127) rfl rfl (by kernel_rfl) (fun _ _ _ h => h) (Or.inl ⟨by rfl, ?_⟩) ?_ ?_
 rotate_left
 ·intro w'
  go_simp
  with_reducible rfl
 rotate_left
 ·simp only [Act.put, sA, sB, sC, Qk, Ql]
  rfl
 refine Zw (i := 7) (N := none) (bm 8 255) rfl rfl (by kernel_rfl) (by decide) (fun K hK => ?_)
 refine Vk (w1 := ?_) (by rfl) rfl ?_ ?_
 rotate_left
 ·go_simp
  rfl
 refine hK.out _ _ ?_
 clear hK K
 refine Zx (by kernel_rfl) ?_
 clear hHeld
 have hq1 := hG.out.hx
 have hq2 := hB.out.size
 have hq3 := ((hB.out.trans (HB5.mono hq2)).trans hb6).setCell (p := ⟨xb, 1, none⟩) hq1 (.slice A6 (2 + ps.length) c6)
 have hG6 := Qb.mk (hG5.app hg6 hr6)
 have hB6 := Qb.mk hq3
 generalize w6.setCell ⟨xb, 1, none⟩ (.slice A6 (2 + ps.length) c6) = w8 at hG6 hB6 hq3 ⊢
 clear hq1 hq2 hq3 hcz hfz hr6 hb6 hg6 hG5 hG hB
 have hG := hG6
 have hB := hB6
 clear hG6 hB6
 (try clear HB5)
 (try clear HB_)
 skip
 clear hn1 hc1 hb5
 clear k1
 have k2 := (Qa (Qc hbx.out hB.out) 2).trans rfl
 have k3 := (Qa (Qc hbx.out hB.out) 3).trans rfl
 have k4 := (Qa (Qc hbx.out hB.out) 4).trans rfl
 have k5 := (Qa (Qc hbx.out hB.out) 5).trans rfl
 have k6 := (Qa (Qc hbx.out hB.out) 6).trans rfl
 have k7 := (Qa (Qc hbx.out hB.out) 7).trans rfl
 have hms : Qb (2 + ps.length ≤ 1000000000000) := ⟨by have := hl9.out; omega⟩
 go_wp2
 generalize w8 = wr at *
 have HB_ : Below wr.heap.size wr wr.drew := Qi (Below.refl _ _)
 refine QZ (n := 9) (S := fun w' => w'.cell? ⟨xb, 1, none⟩ = some (.slice A6 (2 + ps.length) c6) ∧ w'.cell? ⟨w.heap.size, 2, none⟩ = some (.int .i64 e.f0) ∧ w'.cell? ⟨w.heap.size, 3, none⟩ = some (.string e.f1) ∧ w'.cell? ⟨w.heap.size, 4, none⟩ = some (.int .i64 e.f2) ∧ w'.cell? ⟨w.heap.size, 5, none⟩ = some (.slice A3 e.f3.length c3) ∧ w'.cell? ⟨w.heap.size, 6, none⟩ = some (.slice A4 e.f4.length c4) ∧ w'.cell? ⟨w.heap.size, 7, none⟩ = some (.slice A5 e.f5.length c5)) (ds := [6, 8]) (bm 9 0) (by kernel_rfl) rfl rfl ⟨(Qa (Qc hG.out.ho HB_) 1).trans rfl, (Qa (Qc (Qc hbx.out hB.out) HB_) 2).trans rfl, (Qa (Qc (Qc hbx.out hB.out) HB_) 3).trans rfl, (Qa (Qc (Qc hbx.out hB.out) HB_) 4).trans rfl, (Qa (Qc (Qc hbx.out hB.out) HB_) 5).trans rfl, (Qa (Qc (Qc hbx.out hB.out) HB_) 6).trans rfl, (Qa (Qc (Qc hbx.out hB.out) HB_) 7).trans rfl⟩ (fun hHeld => ?_)
 generalize wr.drew = W9 at *
 refine Q4 (i := 0) (N := some 17) (v := ?_) (a' := ?_) (bm 9 1) rfl rfl (by kernel_rfl) (fun _ _ _ h => h) (Or.inl ⟨by rfl, ?_⟩) ?_ ?_
 rotate_left
 ·intro w'
  go_simp
  with_reducible rfl
 rotate_left
 ·simp only [Act.put, sA, sB, sC, Qk, Ql]
  rfl
 refine Q4 (i := 2) (N := some 19) (v := ?_) (a' := ?_) (bm 9 5) rfl rfl (by kernel_rfl) (fun _ _ _ h => h) (Or.inl ⟨by rfl, ?_⟩) ?_ ?_
 rotate_left
 ·intro w'
  go_simp
  with_reducible rfl
 rotate_left
 ·simp only [Act.put, sA, sB, sC, Qk, Ql]
  rfl
 refine QE (i := 1) (N := some 18) (v := ?_) (a' := ?_) (bm 9 7) rfl rfl (by kernel_rfl) (fun _ _ _ h => h) (Or.inl ⟨by rfl, ?_⟩) hHeld ?_ ?_
 rotate_left
 ·rintro w' ⟨s0, s1, s2, s3, s4, s5, s6⟩
  go_simp
  with_reducible rfl
 rotate_left
 ·simp only [Act.put, sA, sB, sC, Qk, Ql]
  rfl
 refine QE (i := 3) (N := some 20) (v := ?_) (a' := ?_) (bm 9 15) rfl rfl (by kernel_rfl) (fun _ _ _ h => h) (Or.inl ⟨by rfl, ?_⟩) hHeld ?_ ?_
 rotate_left
 ·rintro w' ⟨s0, s1, s2, s3, s4, s5, s6⟩
  go_simp
  with_reducible rfl
 rotate_left
 ·simp only [Act.put, sA, sB, sC, Qk, Ql]
  rfl
 refine QQ (i := 4) (N := some 21) (bm 9 31) rfl rfl (by kernel_rfl) (by decide) (fun K hK => ?_)
 refine QI Tryd.func86 (by kernel_rfl) rfl #[.agg #[.int .i64 e.f0, .string e.f1, .int .i64 e.f2, .slice A3 e.f3.length c3, .slice A4 e.f4.length c4, .slice A5 e.f5.length c5]] (by rfl) rfl rfl (by simp only [List.map_toArray, List.map_cons, List.map_nil]; rfl) ?_
 (with_reducible refine (CX.out W9 (hB0.out.trans ((hB.out.trans (HB_.mono hB.out.size)).mono hB0.out.size))).mono ?_)
 rintro e' w5 ⟨s5, A5', n5', c5', z5, rfl, hz5, hc5, hn5, hb5⟩
 refine ⟨_, rfl, ?_⟩
 have hz5 := Qb.mk hz5
 have HB5 := Qe HB_ hb5
 refine hK.out _ _ ⟨(Qa (Qc hG.out.ho HB5) 1).trans rfl, (Qa (Qc (Qc hbx.out hB.out) HB5) 2).trans rfl, (Qa (Qc (Qc hbx.out hB.out) HB5) 3).trans rfl, (Qa (Qc (Qc hbx.out hB.out) HB5) 4).trans rfl, (Qa (Qc (Qc hbx.out hB.out) HB5) 5).trans rfl, (Qa (Qc (Qc hbx.out hB.out) HB5) 6).trans rfl, (Qa (Qc (Qc hbx.out hB.out) HB5) 7).trans rfl⟩ (fun hHeld => ?_)
 clear hK K
 refine Qq (a' := ?_) ?_ ?_
 rotate_left
 ·show Act.put _ (some 21) _ = _
  simp only [Act.put, sA, sB, sC, Qk, Ql]
  rfl
 refine QQ (i := 5) (N := some 22) (bm 9 63) rfl rfl (by kernel_rfl) (by decide) (fun K hK => ?_)
 refine QM (w1 := ?_) (v := ?_) (by rfl) rfl ?_ ?_
 rotate_left 2
 ·go_simp
  constructor
  ·rfl
  ·rfl
 have HBb := Qd HB5 (.cells #[.string s5, .slice A5' n5' c5', .int .i64 0] 109)
 refine hK.out _ _ ⟨(Qa (Qc hG.out.ho HBb) 1).trans rfl, (Qa (Qc (Qc hbx.out hB.out) HBb) 2).trans rfl, (Qa (Qc (Qc hbx.out hB.out) HBb) 3).trans rfl, (Qa (Qc (Qc hbx.out hB.out) HBb) 4).trans rfl, (Qa (Qc (Qc hbx.out hB.out) HBb) 5).trans rfl, (Qa (Qc (Qc hbx.out hB.out) HBb) 6).trans rfl, (Qa (Qc (Qc hbx.out hB.out) HBb) 7).trans rfl⟩ (fun hHeld => ?_)
 clear hK K
 refine Qq (a' := ?_) ?_ ?_
 rotate_left
 ·show Act.put _ (some 22) _ = _
  simp only [Act.put, sA, sB, sC, Qk, Ql]
  rfl
 refine Zw (i := 6) (N := some 23) (bm 9 127) rfl rfl (by kernel_rfl) (by decide) (fun K hK => ?_)
 refine ZX (w0 := w5) W0.heap.size (by rfl) (.tmp 18) (.tmp 22) rfl (A := A6) (x0 := some xb) (n := (2 + ps.length)) (c := c6) (z := ((3 + 3 + 0 + (dn.size + 3 + 0)) + nmz ps)) (s1 := s5) (A1 := A5') (n1 := n5') (c1 := c5') (z1 := z5) (q := W9.heap.size) rfl rfl (NR.below hG.out.hr HB5) hn5 hc5 ?_ ?_ ?_ (Below.refl _ _) ?_ ?_ ?_
 ·intro k hk; have h1 := NR.lt hG.out.hr k hk; have h2 := HB_.size; omega
 ·have h1 := hB.out.size; have h2 := HB_.size; omega
 ·intro y hy; obtain rfl := Option.some.inj hy; have h1 := hG.out.lt; have h2 := HB_.size; have h3 := HB5.size; omega
 ·have h1 := hB.out.size; have h2 := HB5.size; omega
 ·have h1 := hms.out; omega
 intro A7 c7 w6 hr6 hb6 hg6
 have hG5 := hG.out.below HB5
 have hcz := (Qa (hG5.at hg6) 1).trans rfl
 have hfz := Qg (hG5.at hg6) 1
 refine hK.out _ _ ?_
 clear hK K
 refine Qq (a' := ?_) ?_ ?_
 rotate_left
 ·show Act.put _ (some 23) _ = _
  simp only [Act.put, sA, sB, sC, Qk, Ql]
  rfl
 refine Q4 (i := 7) (N := some 24) (v := ?_) (a' := ?_) (bm 9 255) rfl rfl (by kernel_rfl) (fun _ _ _ h => h) (Or.inl ⟨by rfl, ?_⟩) ?_ ?_
 rotate_left
 ·intro w'
  go_simp
  with_reducible rfl
 rotate_left
 ·simp only [Act.put, sA, sB, sC, Qk, Ql]
  rfl
 refine Zw (i := 8) (N := none) (bm 9 511) rfl rfl (by kernel_rfl) (by decide) (fun K hK => ?_)
 refine Vk (w1 := ?_) (by rfl) rfl ?_ ?_
 rotate_left
 ·go_simp
  rfl
 refine hK.out _ _ ?_
 clear hK K
 refine Zx (by kernel_rfl) ?_
 clear hHeld
 have hq1 := hG.out.hx
 have hq2 := hB.out.size
 have hq3 := ((hB.out.trans (HB5.mono hq2)).trans hb6).setCell (p := ⟨xb, 1, none⟩) hq1 (.slice A7 ((2 + ps.length) + 1) c7)
 have hG6 := Qb.mk (hG5.app hg6 hr6)
 have hB6 := Qb.mk hq3
 generalize w6.setCell ⟨xb, 1, none⟩ (.slice A7 ((2 + ps.length) + 1) c7) = w8 at hG6 hB6 hq3 ⊢
 clear hq1 hq2 hq3 hcz hfz hr6 hb6 hg6 hG5 hG hB
 have hG := hG6
 have hB := hB6
 clear hG6 hB6
 (try clear HB5)
 (try clear HB_)
 skip
 clear k2 k3 k4 k5 k6 k7
 have o0 := (Qa hG.out.ho 0).trans rfl
 have o1 := (Qa hG.out.ho 1).trans rfl
 have o2 := (Qa hG.out.ho 2).trans rfl
 have hro := Qc hrx.out hB.out
 have r0 := (Qa hro 0).trans rfl
 have r1 := (Qa hro 1).trans rfl
 have r2 := (Qa hro 2).trans rfl
 have y0 := Qg hro 0
 have y1 := Qg hro 1
 have y2 := Qg hro 2
 have hfin := Qb.mk hG.out.hr.list
 go_wp2
 refine bodyPost_ret (v := .agg #[.string ⟨#[]⟩, .slice A7 ((2 + ps.length) + 1) c7, .int .i64 0]) (by simp [results, Tryd.results72, go_sem, *]) rfl ⟨_, A7, ((2 + ps.length) + 1), c7, (((3 + 3 + 0 + (dn.size + 3 + 0)) + nmz ps) + (s5.size + 3 + z5)), rfl, by have h1 := hz5.out; rw [sz0]; omega, hfin.out.2, ?_, ?_⟩
 ·exact (NL.far3 (q := w.heap.size + 1) hfin.out.1.list (by have := hsz.out; omega) _ _ _).mono hB0.out.size
 ·exact below3 (q := w.heap.size + 1) (hB0.out.trans (hB.out.mono hB0.out.size)) (by omega) _ _ _
theorem w64 (i : Nat) (h : i ≤ 4000000000000000000) : wrap64 ((i : Int) + 1) = ((i + 1 : Nat) : Int) := by unfold wrap64; omega
theorem rdNd (l : List Vm) (i : Nat) (h : i < l.length) : QG l (i : Int) = l[i] := by unfold QG; rw [Int.toNat_natCast, List.getD_eq_getElem?_getD, List.getElem?_eq_getElem h]; rfl
theorem rdDt (l : List S56) (i : Nat) (h : i < l.length) : Za l (i : Int) = l[i] := by unfold Za; rw [Int.toNat_natCast, List.getD_eq_getElem?_getD, List.getElem?_eq_getElem h]; rfl
def sm {α : Type} (f : α → Nat) (l : List α) : Nat := (l.map f).sum
theorem sm_drop {α : Type} (f : α → Nat) {l : List α} {i : Nat} (h : i < l.length) : sm f (l.drop i) = f l[i] + sm f (l.drop (i + 1)) := by unfold sm; rw [List.drop_eq_getElem_cons h, List.map_cons, List.sum_cons]
theorem sm_len {α : Type} (f : α → Nat) (h : ∀ x, 1 ≤ f x) : ∀ l : List α, l.length ≤ sm f l
 | [] => Nat.zero_le _
 | x :: l => by have := sm_len f h l; have := h x; simp only [sm, List.map_cons, List.sum_cons, List.length_cons] at *; omega
theorem sm_mem {α : Type} (f : α → Nat) : ∀ {l : List α} {x : α}, x ∈ l → f x ≤ sm f l
 | a :: l, x, h => by
  simp only [sm, List.map_cons, List.sum_cons]
  rcases List.mem_cons.1 h with rfl | h
  ·omega
  ·have := sm_mem f h; unfold sm at this; omega
theorem tszL_drop {l : List NdT} {i : Nat} (h : i < l.length) : Zf (l.drop i) = l[i].f0.size + 3 + Zf l[i].f1 + Zf (l.drop (i + 1)) := by
 rw [List.drop_eq_getElem_cons h]
 generalize l[i] = x
 obtain ⟨a, b, c⟩ := x
 simp only [Zf, tsz]
theorem tszL_len : ∀ l : List NdT, l.length ≤ Zf l
 | [] => by simp
 | ⟨_, _, _⟩ :: l => by simp only [Zf, tsz, List.length_cons]; have := tszL_len l; omega
theorem text_l0 : ∀ (k : Nat) (l : List NdT) (s : ByteArray) (i : Nat), i ≤ l.length → l.length ≤ 3000000000000000000 → s.size + Zf (l.drop i) ≤ 3000000000000000000 → Zf (l.drop i) + 2 ≤ k → ∃ r, Qr.l0 k l s (i : Int) = some r ∧ r.size ≤ s.size + Zf (l.drop i)
 | 0, l, s, i, hi, hl, hb, hk => by omega
 | 1, l, s, i, hi, hl, hb, hk => by omega
 | k + 2, l, s, i, hi, hl, hb, hk => by
  rw [Qr.l0]
  by_cases hlt : i < l.length
  ·have hd := tszL_drop hlt
   have h1 : (⟨#[32]⟩ : ByteArray).size = 1 := rfl
   have h2 : (⟨#[40]⟩ : ByteArray).size = 1 := rfl
   have h3 : (⟨#[41]⟩ : ByteArray).size = 1 := rfl
   rw [if_pos (by omega), rdNd l i hlt, w64 i (by omega)]
   have hsub : ∃ t, Qr.f (k + 1) l[i].f1 = some t ∧ t.size ≤ Zf l[i].f1 := by
    rw [Qr.f]
    have hq := tszL_len l[i].f1
    obtain ⟨r, hr, hz⟩ := text_l0 k l[i].f1 ⟨#[]⟩ 0 (Nat.zero_le _) (by omega) (by rw [List.drop_zero]; show 0 + _ ≤ _; omega) (by rw [List.drop_zero]; omega)
    exact ⟨r, hr, by rw [List.drop_zero] at hz; have h4 : (⟨#[]⟩ : ByteArray).size = 0 := rfl; omega⟩
   obtain ⟨t, ht, htz⟩ := hsub
   have hrec : ∀ s' : ByteArray, s'.size ≤ s.size + l[i].f0.size + 3 + Zf l[i].f1 → ∃ r, Qr.l0 (k + 1) l s' ((i + 1 : Nat) : Int) = some r ∧ r.size ≤ s.size + Zf (l.drop i) := by
    intro s' hs'
    obtain ⟨r, hr, hz⟩ := text_l0 (k + 1) l s' (i + 1) (by omega) hl (by omega) (by omega)
    exact ⟨r, hr, by omega⟩
   rw [ht]
   simp only [Option.bind_some, ByteArray.size_append, h1, h2, h3]
   by_cases hi0 : (i : Int) > 0
   ·rw [if_pos hi0, if_pos (by omega), if_pos (by omega)]
    split
    ·rw [if_pos (by omega), if_pos (by omega), if_pos (by omega)]
     exact hrec _ (by simp only [ByteArray.size_append, h1, h2, h3]; omega)
    ·rw [if_pos (by omega)]
     exact hrec _ (by simp only [ByteArray.size_append, h1, h2, h3]; omega)
   ·rw [if_neg hi0, if_pos (by omega)]
    split
    ·rw [if_pos (by omega), if_pos (by omega), if_pos (by omega)]
     exact hrec _ (by simp only [ByteArray.size_append, h1, h2, h3]; omega)
    ·rw [if_pos (by omega)]
     exact hrec _ (by simp only [ByteArray.size_append, h1, h2, h3]; omega)
  ·rw [if_neg (by omega)]
   exact ⟨s, rfl, by omega⟩
theorem text_tot (l : List NdT) (h : Zf l ≤ 3000000000000000000) : ∃ r, Qr.f (Zf l + 3) l = some r ∧ r.size ≤ Zf l := by
 rw [Qr.f]
 have hq := tszL_len l
 obtain ⟨r, hr, hz⟩ := text_l0 (Zf l + 2) l ⟨#[]⟩ 0 (Nat.zero_le _) (by omega) (by rw [List.drop_zero]; show 0 + _ ≤ _; omega) (by rw [List.drop_zero]; exact Nat.le_refl _)
 exact ⟨r, hr, by rw [List.drop_zero] at hz; have h4 : (⟨#[]⟩ : ByteArray).size = 0 := rfl; omega⟩
theorem tcost_eq (t : S67) : Zo t = 1 + Zg t.f1 := by cases t; simp only [Zo]
theorem findData_l0 (s : ByteArray) (ds : List S56) (fs : List S34) (hl : ds.length ≤ BL) : ∀ (k i : Nat), ds.length + 1 ≤ k + i → 1 ≤ k → ∃ r, Qz.l0 k s (i : Int) ds fs = some r ∧ r < ds.length
 | 0, i, h, h0 => by omega
 | k + 1, i, h, h0 => by
  rw [Qz.l0]
  unfold BL at hl
  by_cases hlt : i < ds.length
  ·rw [if_pos (by omega), if_pos (by omega), w64 i (by omega)]
   split
   ·exact ⟨_, rfl, by omega⟩
   ·exact findData_l0 s ds fs (by unfold BL; omega) k (i + 1) (by omega) (by omega)
  ·rw [if_neg (by omega)]
   exact ⟨_, rfl, by omega⟩
theorem findData_tot (s : ByteArray) (ds : List S56) (fs : List S34) (hl : ds.length ≤ BL) (k : Nat) (hk : ds.length + 1 ≤ k) : ∃ r, Qz.f k ds fs s = some r ∧ r < ds.length := findData_l0 s ds fs hl k 0 (by omega) (by omega)
theorem findDef_l0 (s : ByteArray) (ds : List S56) (fs : List S34) (hl : fs.length ≤ BL) : ∀ (k i : Nat), fs.length + 1 ≤ k + i → 1 ≤ k → ∃ r, Q7.l0 k s (i : Int) ds fs = some r ∧ r < fs.length
 | 0, i, h, h0 => by omega
 | k + 1, i, h, h0 => by
  rw [Q7.l0]
  unfold BL at hl
  by_cases hlt : i < fs.length
  ·rw [if_pos (by omega), if_pos (by omega), w64 i (by omega)]
   split
   ·exact ⟨_, rfl, by omega⟩
   ·exact findDef_l0 s ds fs (by unfold BL; omega) k (i + 1) (by omega) (by omega)
  ·rw [if_neg (by omega)]
   exact ⟨_, rfl, by omega⟩
theorem findDef_tot (s : ByteArray) (ds : List S56) (fs : List S34) (hl : fs.length ≤ BL) (k : Nat) (hk : fs.length + 1 ≤ k) : ∃ r, Q7.f k ds fs s = some r ∧ r < fs.length := findDef_l0 s ds fs hl k 0 (by omega) (by omega)
def cL (ds : List S56) : Nat := sm (fun d => d.f2.length + 3) ds
def Pl (ds : List S56) (p : Int × Int) : Prop := p.1 < 0 ∨ ∃ (i k : Nat) (h : i < ds.length), p = ((i : Int), (k : Int)) ∧ k < (ds[i]).f2.length
theorem findCons_l01 (s : ByteArray) (ds : List S56) (fs : List S34) (hl : ds.length ≤ BL) (hc : ∀ d ∈ ds, d.f2.length ≤ BL) : ∀ (k i : Nat), (cL (ds.drop i) + 1 ≤ k → ∃ r, Qn.l0 k s (i : Int) ds fs = some r ∧ Pl ds r) ∧
  (∀ (j : Nat) (h : i < ds.length), (ds[i].f2.length - j) + 2 + cL (ds.drop (i + 1)) ≤ k → ∃ r, Qn.l1 k s (i : Int) (j : Int) ds fs = some r ∧ Pl ds r)
 | 0, i => ⟨fun h => by omega, fun j h hk => by omega⟩
 | k + 1, i => by
  have ih := findCons_l01 s ds fs hl hc k
  unfold BL at hl hc
  constructor
  ·intro hk
   rw [Qn.l0]
   by_cases hlt : i < ds.length
   ·have hd := sm_drop (fun d : S56 => d.f2.length + 3) hlt
    rw [if_pos (by omega)]
    exact (ih i).2 0 hlt (by unfold cL at *; omega)
   ·rw [if_neg (by omega)]
    exact ⟨_, rfl, .inl (by decide)⟩
  ·intro j h hk
   rw [Qn.l1]
   have hcc := hc _ (List.getElem_mem h)
   rw [if_pos (by omega), if_pos (by omega), rdDt ds i h]
   by_cases hj : j < ds[i].f2.length
   ·rw [if_pos (by omega), if_pos (by omega), w64 j (by omega)]
    split
    ·exact ⟨_, rfl, .inr ⟨i, j, h, rfl, hj⟩⟩
    ·exact (ih i).2 (j + 1) h (by omega)
   ·rw [if_neg (by omega), w64 i (by omega)]
    exact (ih (i + 1)).1 (by omega)
theorem findCons_tot (s : ByteArray) (ds : List S56) (fs : List S34) (hl : ds.length ≤ BL) (hc : ∀ d ∈ ds, d.f2.length ≤ BL) (k : Nat) (hk : cL ds + 1 ≤ k) : ∃ r, Qn.f k ds fs s = some r ∧ Pl ds r := (findCons_l01 s ds fs hl hc k 0).1 (by rw [List.drop_zero]; exact hk)
theorem once_l0 (l : List ByteArray) (hl : l.length ≤ 1000000000000) : ∀ (k i : Nat) (o : List ByteArray), o.length ≤ i → i ≤ l.length → 2 * l.length + 2 ≤ k + i → l.length + 1 ≤ k → ∃ r, Qy.l0 k l o (i : Int) = some r
 | 0, i, o, ho, hi, h, h0 => by omega
 | k + 1, i, o, ho, hi, h, h0 => by
  rw [Qy.l0]
  by_cases hlt : i < l.length
  ·rw [if_pos (by omega), if_pos (by omega), w64 i (by omega)]
   refine bind_ex (has_tot o _ (by omega) k (by omega)) (fun q => ite_ex (once_l0 l hl k (i + 1) o (by omega) (by omega) (by omega) (by omega)) ?_)
   rw [if_pos (by omega)]
   exact once_l0 l hl k (i + 1) _ (by simp; omega) (by omega) (by omega) (by omega)
  ·rw [if_neg (by omega)]
   exact ⟨_, rfl⟩
theorem twice_tot (l : List ByteArray) (hl : l.length ≤ 1000000000000) (k : Nat) (hk : 2 * l.length + 2 ≤ k) : ∃ r, QR.f k l = some r := by
 unfold QR.f Qy.f
 exact bind_ex (once_l0 l hl k 0 [] (by simp) (by omega) (by omega) (by omega)) (fun q => ⟨_, rfl⟩)
theorem small_f (s : ByteArray) : ∃ r, Zt.f s = some r := by
 unfold Zt.f
 by_cases h0 : s.toList = ([] : List UInt8)
 ·rw [if_pos h0]; exact ⟨_, rfl⟩
 ·rw [if_neg h0, if_pos (size_pos s h0)]
  repeat' split
  all_goals exact ⟨_, rfl⟩
mutual
/-- How many parts. -/
def cn : S29 → Nat
 | ⟨_, _, _, ns, l, al⟩ => 1 + ns.length + cnL l + cnA al
def cnL : List S29 → Nat
 | [] => 0
 | e :: l => cn e + cnL l
def cnA : List S88 → Nat
 | [] => 0
 | ⟨_, _, _, ns, e⟩ :: l => 1 + ns.length + cn e + cnA l
end
theorem cn_eq (e : S29) : cn e = 1 + e.f3.length + cnL e.f4 + cnA e.f5 := by cases e; simp only [cn]
theorem cnA_cons (a : S88) (l : List S88) : cnA (a :: l) = 1 + a.f3.length + cn a.f4 + cnA l := by cases a; simp only [cnA]
theorem len_cnL : ∀ l : List S29, l.length ≤ cnL l
 | [] => by simp
 | e :: l => by simp only [cnL, List.length_cons]; have := cn_eq e; have := len_cnL l; omega
theorem len_cnA : ∀ l : List S88, l.length ≤ cnA l
 | [] => by simp
 | a :: l => by rw [cnA_cons, List.length_cons]; have := len_cnA l; omega
theorem cn_mem : ∀ {l : List S29} {x : S29}, x ∈ l → cn x ≤ cnL l
 | _ :: l, x, h => by
  simp only [cnL]
  rcases List.mem_cons.1 h with rfl | h
  ·omega
  ·have := cn_mem h; omega
theorem cn_memA : ∀ {l : List S88} {a : S88}, a ∈ l → a.f3.length + cn a.f4 ≤ cnA l
 | b :: l, a, h => by
  rw [cnA_cons]
  rcases List.mem_cons.1 h with rfl | h
  ·omega
  ·have := cn_memA h; omega
theorem wf_of : ∀ (m : Nat) (e : S29), cost e ≤ m → RW e → cn e ≤ 100000000000 → WF e
 | 0, e, hc, _, _ => by have := cost_eq e; omega
 | m + 1, e, hc, hw, hn => by
  obtain ⟨⟨o1, n3, n4, n5⟩, wl, wa⟩ := (rw_iff e).1 hw
  have hcn := cn_eq e
  have h4 := len_cnL e.f4
  have h5 := len_cnA e.f5
  exact (wf_iff e).2 ⟨⟨o1, by omega, by omega, by omega⟩, fun x hx => wf_of m x (by have := cost_mem hx; omega) (wl x hx) (by have := cn_mem hx; omega), fun a ha => ⟨(wa a ha).1, by have := cn_memA ha; omega, wf_of m a.f4 (by have := cost_memA ha; omega) (wa a ha).2.2 (by have := cn_memA ha; omega)⟩⟩
mutual
theorem cost_cn : ∀ e : S29, cost e ≤ 2 * cn e
 | ⟨_, _, _, ns, l, al⟩ => by
  simp only [cost, cn]
  have h1 := costL_cn l
  have h2 := costA_cn al
  omega
theorem costL_cn : ∀ l : List S29, Z4 l ≤ 2 * cnL l
 | [] => by simp [Z4]
 | e :: l => by
  simp only [Z4, cnL]
  have h1 := cost_cn e
  have h2 := costL_cn l
  omega
theorem costA_cn : ∀ l : List S88, Zy l ≤ 2 * cnA l
 | [] => by simp [Zy]
 | ⟨_, _, _, ns, e⟩ :: l => by
  simp only [Zy, cnA]
  have h1 := cost_cn e
  have h2 := costA_cn l
  omega
end
theorem nsz_of {ns : List ByteArray} (h : small ns B47) : nsz ns = true := by
 unfold nsz
 rw [List.all_eq_true]
 exact fun s hs => decide_eq_true (h s hs)
mutual
theorem okE_of : ∀ e : S29, RW e → okE e = true
 | ⟨op, nm, n, ns, l, al⟩, h => by
  simp only [RW] at h
  simp only [okE, Bool.and_eq_true, decide_eq_true_eq]
  exact ⟨⟨⟨h.1.1.1, nsz_of h.1.1.2.2.2⟩, okL_of l h.2.1⟩, okA_of al h.2.2⟩
theorem okL_of : ∀ l : List S29, DepA.RWL l → okL l = true
 | [], _ => by simp [okL]
 | e :: l, h => by
  simp only [RWL] at h
  simp only [okL, Bool.and_eq_true]
  exact ⟨okE_of e h.1, okL_of l h.2⟩
theorem okA_of : ∀ l : List S88, RWA l → okA l = true
 | [], _ => by simp [okA]
 | ⟨_, nm, n, ns, e⟩ :: l, h => by
  simp only [RWA] at h
  simp only [okA, Bool.and_eq_true]
  exact ⟨⟨nsz_of h.1.1.2.2.2, okE_of e h.1.2.2⟩, okA_of l h.2⟩
end
theorem nmz_len {ns : List ByteArray} (h : ∀ s ∈ ns, s.size ≤ B47) : nmz ns ≤ ns.length * (B47 + 3) := by
 induction ns with
 | nil => simp [nmz]
 | cons a l ih =>
  have h1 := ih (fun s hs => h s (List.mem_cons_of_mem _ hs))
  have h2 := h a (List.mem_cons_self ..)
  simp only [nmz, List.length_cons]
  rw [Nat.succ_mul]
  omega
mutual
theorem eB_cn : ∀ e : S29, DepA.RW e → eB e + 100 ≤ cn e * (B47 + 200)
 | ⟨op, nm, n, ns, l, al⟩, h => by
  simp only [DepA.RW] at h
  simp only [eB, cn]
  have h1 := eBL_cn l h.2.1
  have h2 := aBL_cn al h.2.2
  have h3 := nmz_len h.1.1.2.2.2
  have h4 := h.1.1.1
  unfold B47 at *
  omega
theorem eBL_cn : ∀ l : List S29, DepA.RWL l → eBL l ≤ cnL l * (B47 + 200)
 | [], _ => by simp [eBL]
 | e :: l, h => by
  simp only [DepA.RWL] at h
  simp only [eBL, cnL, List.length_cons]
  have h1 := eB_cn e h.1
  have h2 := eBL_cn l h.2
  unfold B47 at *
  omega
theorem aBL_cn : ∀ l : List S88, DepA.RWA l → aBL l ≤ cnA l * (B47 + 200)
 | [], _ => by simp [aBL]
 | ⟨_, nm, n, ns, e⟩ :: l, h => by
  simp only [DepA.RWA] at h
  simp only [aBL, cnA, aB]
  have h1 := eB_cn e h.1.2.2
  have h2 := aBL_cn l h.2
  have h3 := nmz_len h.1.1.2.2.2
  have h4 := h.1.1.1
  unfold B47 at *
  omega
end
end Go.Proofs.YtlgpoigbadajnaaDoor.DepA.Z
