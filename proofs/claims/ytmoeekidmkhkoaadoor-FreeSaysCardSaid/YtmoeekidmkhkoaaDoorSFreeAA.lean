/- gristmillref5.Names, Bound: what they answer. Conditions: not too many names; the right shape. -/
import Derived.Test.YtmoeekidmkhkoaaDoorSFreeSX
import Derived.Test.YtmoeekidmkhkoaaDoorSFreeLR
import Derived.Test.YtmoeekidmkhkoaaDoorSPFreeLate
namespace Go.Proofs.YtmoeekidmkhkoaaDoor.FreeA
open Go.RowKit Go.Proofs.YtmoeekidmkhkoaaDoorW.PrintWords Go.Proofs.YtmoeekidmkhkoaaDoorW.PrintLast Go.Proofs.YtmoeekidmkhkoaaDoorW.PrintMore Go.Proofs.YtmoeekidmkhkoaaDoor.PFreeA Go.Proofs.YtmoeekidmkhkoaaDoor.Ext
set_option linter.unusedVariables false
set_option linter.unusedSimpArgs false
mutual
theorem vs_len : ∀ (e : S33) (B : List ByteArray), (vs e B).length ≤ cost e
 | ⟨op, nm, n, ns, l, al⟩, B => by
  simp only [vs, cost, List.length_append]
  have h1 := vsL_len l (ns ++ B)
  have h2 := vsA_len al B
  have h3 : (if op = 1 ∧ isIn B nm = false then [nm] else []).length ≤ 1 := by split <;> simp
  omega
theorem vsL_len : ∀ (l : List S33) (B : List ByteArray), (vsL l B).length ≤ costL l
 | [], B => by simp [vsL]
 | e :: l, B => by
  simp only [vsL, costL, List.length_append]
  have h1 := vs_len e B
  have h2 := vsL_len l B
  omega
theorem vsA_len : ∀ (l : List S40) (B : List ByteArray), (vsA l B).length ≤ costA l
 | [], B => by simp [vsA]
 | ⟨_, _, _, ns, e⟩ :: l, B => by
  simp only [vsA, costA, List.length_append]
  have h1 := vs_len e (ns ++ B)
  have h2 := vsA_len l B
  omega
end
theorem vsA_cons (a : S40) (l : List S40) (B : List ByteArray) : vsA (a :: l) B = vs a.f4 (a.f3 ++ B) ++ vsA l B := by cases a; simp only [vsA]
theorem len_costL : ∀ l : List S33, l.length ≤ costL l
 | [] => by simp [costL]
 | e :: l => by simp only [costL, List.length_cons]; have := len_costL l; have := cost_eq e; omega
theorem len_costA : ∀ l : List S40, l.length ≤ costA l
 | [] => by simp [costA]
 | a :: l => by rw [costA_cons, List.length_cons]; have := len_costA l; have := cost_eq a.f4; omega
theorem vs_eq (e : S33) (B : List ByteArray) : vs e B = (if e.f0 = 1 ∧ isIn B e.f1 = false then [e.f1] else []) ++ (vsL e.f4 (e.f3 ++ B) ++ vsA e.f5 B) := by cases e; simp only [vs]
def NM (e : S33) : Prop := ∀ (B B' : List ByteArray) (k : Nat), (∀ s, isIn B' s = isIn B s) → B'.length + cost e ≤ 1000000 → fu e + B'.length + cost e ≤ k → gristmillref5_names10.f k e.f0 e.f1 e.f2 e.f3 e.f4 e.f5 B' = some (vs e B)
theorem texts_f (l : List ByteArray) (h : l.length ≤ 1000000000000) : gristmillref_Texts.f l = some l := by unfold gristmillref_Texts.f; rw [if_pos h]
theorem nm_l1 (e : S33) (x5 : List S40) (B X : List ByteArray) (hX : ∀ s, isIn X s = isIn B s) (ih : ∀ a ∈ x5, NM a.f4) (hx : x5.length ≤ 1000000) : ∀ (k i : Nat) (out : List ByteArray), i ≤ x5.length → X.length + costA (x5.drop i) ≤ 1000000 → out.length + costA (x5.drop i) ≤ 1000000 → fuA (x5.drop i) + X.length + costA (x5.drop i) + 1 ≤ k →
  gristmillref5_names10.l1 k out X (i : Int) e.f0 e.f1 e.f2 e.f3 e.f4 x5 = some (out ++ vsA (x5.drop i) B)
 | 0, i, out, hi, h1, h2, hk => by omega
 | k + 1, i, out, hi, h1, h2, hk => by
  rw [gristmillref5_names10.l1]
  by_cases hlt : i < x5.length
  ·have hf := fuA_drop hlt
   have hd := List.drop_eq_getElem_cons hlt
   rw [hd, costA_cons] at h1 h2 hk
   have hm := ih _ (List.getElem_mem hlt)
   rw [if_pos (by omega), if_pos (by omega), rd40 _ i hlt, texts_f X (by omega), hd, vsA_cons]
   generalize x5[i] = a at *
   rw [fuA_cons] at hk
   have hl := vs_len a.f4 (a.f3 ++ B)
   rw [Option.bind_some, if_pos (by omega), hm (a.f3 ++ B) (X ++ a.f3) k (fun s => by rw [isIn_app, isIn_app, hX, Bool.or_comm]) (by rw [List.length_append]; omega) (by rw [List.length_append]; omega), Option.bind_some, if_pos (by omega), wr1 i (by omega)]
   rw [nm_l1 e x5 B X hX ih hx k (i + 1) _ (by omega) (by omega) (by rw [List.length_append]; omega) (by omega), List.append_assoc]
  ·rw [if_neg (by omega), List.drop_of_length_le (by omega)]
   simp [vsA]
theorem nm_l0 (e : S33) (x4 : List S33) (B X : List ByteArray) (hX : ∀ s, isIn X s = isIn (e.f3 ++ B) s) (hX2 : e.f5 ≠ [] → ∀ s, isIn X s = isIn B s) (ihx : ∀ y ∈ x4, NM y) (ih : ∀ a ∈ e.f5, NM a.f4) (hx : x4.length ≤ 1000000) : ∀ (k i : Nat) (out : List ByteArray), i ≤ x4.length → X.length + costL (x4.drop i) + costA e.f5 ≤ 1000000 → out.length + costL (x4.drop i) + costA e.f5 ≤ 1000000 → fuL (x4.drop i) + fuA e.f5 + X.length + costL (x4.drop i) + costA e.f5 + 3 ≤ k →
  gristmillref5_names10.l0 k out X (i : Int) e.f0 e.f1 e.f2 e.f3 x4 e.f5 = some (out ++ (vsL (x4.drop i) (e.f3 ++ B) ++ vsA e.f5 B))
 | 0, i, out, hi, h1, h2, hk => by omega
 | k + 1, i, out, hi, h1, h2, hk => by
  rw [gristmillref5_names10.l0]
  by_cases hlt : i < x4.length
  ·have hd := List.drop_eq_getElem_cons hlt
   rw [hd] at h1 h2 hk
   simp only [costL, fuL] at h1 h2 hk
   have hm := ihx _ (List.getElem_mem hlt)
   rw [if_pos (by omega), if_pos (by omega), rd33 _ i hlt, hd]
   simp only [vsL]
   generalize x4[i] = y at *
   have hl := vs_len y (e.f3 ++ B)
   rw [hm (e.f3 ++ B) X k hX (by omega) (by omega), Option.bind_some, if_pos (by omega), wr1 i (by omega)]
   rw [nm_l0 e x4 B X hX hX2 ihx ih hx k (i + 1) _ (by omega) (by omega) (by rw [List.length_append]; omega) (by omega)]
   simp only [List.append_assoc]
  ·rw [if_neg (by omega)]
   rw [List.drop_of_length_le (by omega)] at h1 h2 hk ⊢
   simp only [costL, fuL] at h1 h2 hk
   simp only [vsL, List.nil_append]
   by_cases hA : e.f5 = []
   ·obtain ⟨k, rfl⟩ : ∃ q, k = q + 1 := ⟨k - 1, by omega⟩
    rw [hA, gristmillref5_names10.l1, if_neg (by simp)]
    simp [vsA]
   ·have := nm_l1 ⟨e.f0, e.f1, e.f2, e.f3, x4, e.f5⟩ e.f5 B X (hX2 hA) ih (by have := len_costA e.f5; omega) k 0 out (by omega) (by rw [List.drop_zero]; omega) (by rw [List.drop_zero]; omega) (by rw [List.drop_zero]; omega)
    rw [List.drop_zero] at this
    exact this
theorem nm_all : ∀ (m : Nat) (e : S33), cost e ≤ m → Shp e → NM e
 | 0, e, hc, _ => by have := cost_eq e; omega
 | m + 1, e, hc, hs => by
  intro B B' k hB h1 hk
  obtain ⟨hl, sl, sa⟩ := (shp_iff e).1 hs
  have hce := cost_eq e
  have hfe := fu_eq e
  have ihx : ∀ y ∈ e.f4, NM y := fun y hy => nm_all m y (by have := cost_mem hy; omega) (sl y hy)
  have ih : ∀ a ∈ e.f5, NM a.f4 := fun a ha => nm_all m a.f4 (by have := cost_memA ha; omega) (sa a ha)
  obtain ⟨k, rfl⟩ : ∃ q, k = q + 4 := ⟨k - 4, by omega⟩
  have hT : ∀ (q : Nat) (out : List ByteArray), out.length ≤ 1 → fuL e.f4 + fuA e.f5 + B'.length + e.f3.length + costL e.f4 + costA e.f5 + 4 ≤ q → gristmillref5_names10.j1 q B' out e.f0 e.f1 e.f2 e.f3 e.f4 e.f5 = some (out ++ (vsL e.f4 (e.f3 ++ B) ++ vsA e.f5 B)) := by
   intro q out ho hq
   obtain ⟨q, rfl⟩ : ∃ p, q = p + 1 := ⟨q - 1, by omega⟩
   rw [gristmillref5_names10.j1, texts_f B' (by omega), Option.bind_some, if_pos (by omega)]
   have := nm_l0 e e.f4 B (B' ++ e.f3) (fun s => by rw [isIn_app, isIn_app, hB, Bool.or_comm]) (fun hne s => by
    have h3 : e.f3 = [] := hl.2.2.2.2.resolve_right hne
    rw [h3, List.append_nil, hB]) ihx ih (by have := len_costL e.f4; omega) q 0 out (by omega) (by rw [List.drop_zero, List.length_append]; omega) (by rw [List.drop_zero]; omega) (by rw [List.drop_zero, List.length_append]; omega)
   rw [List.drop_zero] at this
   exact this
  have hJ : ∀ (b : Bool), gristmillref5_names10.j0 (k + 3) B' [] b e.f0 e.f1 e.f2 e.f3 e.f4 e.f5 = some ((if b = true then [e.f1] else []) ++ (vsL e.f4 (e.f3 ++ B) ++ vsA e.f5 B)) := by
   intro b
   rw [gristmillref5_names10.j0]
   cases b with
   | true =>
    rw [if_pos rfl, if_pos (by decide), List.nil_append, hT (k + 2) [e.f1] (by simp) (by omega)]
    rfl
   | false =>
    rw [if_neg (by decide), hT (k + 2) [] (by simp) (by omega)]
    rfl
  rw [gristmillref5_names10.f, vs_eq]
  by_cases h0 : e.f0 = 1
  ·rw [if_pos h0, has_eq B' e.f1 (by omega) _ (by omega), Option.bind_some, hJ, hB]
   congr 2
   cases hi : isIn B e.f1 with
   | true => simp
   | false => simp [h0]
  ·rw [if_neg h0, hJ, if_neg (by decide), if_neg (fun h => h0 h.1)]
theorem once_k (l : List ByteArray) (hl : l.length ≤ 1000000000) (k : Nat) (hk : 2 * l.length + 2 ≤ k) : gristmillref_Once.f k l = some (putL l []) := by
 unfold gristmillref_Once.f
 have := once_l0 l hl k 0 [] (Nat.zero_le _) (Nat.le_refl _) (by omega)
 rw [List.drop_zero] at this
 exact this
theorem names_ref (e : S33) (hs : Shp e) (hc : cost e ≤ 100000) (w : World) {A3 A4 A5 : Option Addr} {c3 c4 c5 : Nat} (h3 : Kd.C Kd.string w A3 e.f3.length e.f3) (m3 : e.f3.length ≤ c3) (h4 : Kd.C k33 w A4 e.f4.length e.f4) (m4 : e.f4.length ≤ c4) (h5 : Kd.C k40 w A5 e.f5.length e.f5) (m5 : e.f5.length ≤ c5) {r : List ByteArray} (hr : fx e [] [] = r) {m : Nat} (hm : r.length = m) :
  Calls Tryd.prog 25 #[.agg #[.int .i64 e.f0, .string e.f1, .int .i64 e.f2, .slice A3 e.f3.length c3, .slice A4 e.f4.length c4, .slice A5 e.f5.length c5]] w fun x w' => ∃ A c, x = .returned (.slice A m c) ∧ m ≤ c ∧ Kd.C Kd.string w' A m r ∧ Below w.heap.size w w' := by
 subst hr hm
 have hl := vs_len e []
 refine (gristmillref5_Names.calls (fu e + 3 * cost e + 10) e.f0 e.f1 e.f2 A3 c3 e.f3 A4 c4 e.f4 A5 c5 e.f5 (fx e [] []) w h3 m3 h4 m4 h5 m5 ?_).mono ?_
 ·unfold gristmillref5_Names.f
  rw [nm_all (cost e) e (Nat.le_refl _) hs [] [] _ (fun _ => rfl) (by simp; omega) (by simp; omega), Option.bind_some, once_k (vs e []) (by omega) _ (by omega), ← fx_vs]
  rfl
 ·rintro x w' ⟨v, rfl, hR, hb⟩
  obtain ⟨A, c, rfl⟩ := Kd.R_slice hR
  exact ⟨A, c, rfl, (Kd.R_reads' hR).2.1, (Kd.R_reads' hR).2.2, hb⟩
mutual
def bs : S33 → List ByteArray
 | ⟨_, _, _, ns, l, al⟩ => ns ++ (bsL l ++ bsA al)
def bsL : List S33 → List ByteArray
 | [] => []
 | e :: l => bs e ++ bsL l
def bsA : List S40 → List ByteArray
 | [] => []
 | ⟨_, _, _, ns, e⟩ :: l => ns ++ (bs e ++ bsA l)
end
theorem bsA_cons (a : S40) (l : List S40) : bsA (a :: l) = a.f3 ++ (bs a.f4 ++ bsA l) := by cases a; simp only [bsA]
theorem bs_eq (e : S33) : bs e = e.f3 ++ (bsL e.f4 ++ bsA e.f5) := by cases e; simp only [bs]
mutual
theorem bx_bs : ∀ (e : S33) (o : List ByteArray), bx e o = putL (bs e) o
 | ⟨_, _, _, ns, l, al⟩, o => by simp only [bx, bs, putL_app, bxL_bs l, bxA_bs al]
theorem bxL_bs : ∀ (l : List S33) (o : List ByteArray), bxL l o = putL (bsL l) o
 | [], o => rfl
 | e :: l, o => by simp only [bxL, bsL, putL_app, bx_bs e, bxL_bs l]
theorem bxA_bs : ∀ (l : List S40) (o : List ByteArray), bxA l o = putL (bsA l) o
 | [], o => rfl
 | ⟨_, _, _, ns, e⟩ :: l, o => by simp only [bxA, bsA, putL_app, bx_bs e, bxA_bs l]
end
mutual
theorem bs_len : ∀ (e : S33), (bs e).length ≤ cost e
 | ⟨_, _, _, ns, l, al⟩ => by
  simp only [bs, cost, List.length_append]
  have h1 := bsL_len l
  have h2 := bsA_len al
  omega
theorem bsL_len : ∀ (l : List S33), (bsL l).length ≤ costL l
 | [] => by simp [bsL]
 | e :: l => by
  simp only [bsL, costL, List.length_append]
  have h1 := bs_len e
  have h2 := bsL_len l
  omega
theorem bsA_len : ∀ (l : List S40), (bsA l).length ≤ costA l
 | [] => by simp [bsA]
 | ⟨_, _, _, ns, e⟩ :: l => by
  simp only [bsA, costA, List.length_append]
  have h1 := bs_len e
  have h2 := bsA_len l
  omega
end
def BM (e : S33) : Prop := ∀ (k : Nat), cost e ≤ 1000000 → fu e ≤ k → gristmillref5_bound.f k e.f0 e.f1 e.f2 e.f3 e.f4 e.f5 = some (bs e)
theorem bm_l1 (e : S33) (x5 : List S40) (ih : ∀ a ∈ x5, BM a.f4) (hx : x5.length ≤ 1000000) : ∀ (k i : Nat) (out : List ByteArray), i ≤ x5.length → out.length + costA (x5.drop i) ≤ 1000000 → fuA (x5.drop i) + 1 ≤ k →
  gristmillref5_bound.l1 k out (i : Int) e.f0 e.f1 e.f2 e.f3 e.f4 x5 = some (out ++ bsA (x5.drop i))
 | 0, i, out, hi, h2, hk => by omega
 | k + 1, i, out, hi, h2, hk => by
  rw [gristmillref5_bound.l1]
  by_cases hlt : i < x5.length
  ·have hd := List.drop_eq_getElem_cons hlt
   rw [hd, costA_cons] at h2
   rw [hd] at hk
   have hm := ih _ (List.getElem_mem hlt)
   rw [if_pos (by omega), if_pos (by omega), rd40 _ i hlt, hd, bsA_cons]
   generalize x5[i] = a at *
   rw [fuA_cons] at hk
   have hl := bs_len a.f4
   rw [if_pos (by omega), Option.bind_some, hm k (by omega) (by omega), Option.bind_some, if_pos (by rw [List.length_append]; omega), wr1 i (by omega)]
   rw [bm_l1 e x5 ih hx k (i + 1) _ (by omega) (by rw [List.length_append, List.length_append]; omega) (by omega)]
   simp only [List.append_assoc]
  ·rw [if_neg (by omega), List.drop_of_length_le (by omega)]
   simp [bsA]
theorem bm_l0 (e : S33) (x4 : List S33) (ihx : ∀ y ∈ x4, BM y) (ih : ∀ a ∈ e.f5, BM a.f4) (hx : x4.length ≤ 1000000) : ∀ (k i : Nat) (out : List ByteArray), i ≤ x4.length → out.length + costL (x4.drop i) + costA e.f5 ≤ 1000000 → fuL (x4.drop i) + fuA e.f5 + 3 ≤ k →
  gristmillref5_bound.l0 k out (i : Int) e.f0 e.f1 e.f2 e.f3 x4 e.f5 = some (out ++ (bsL (x4.drop i) ++ bsA e.f5))
 | 0, i, out, hi, h2, hk => by omega
 | k + 1, i, out, hi, h2, hk => by
  rw [gristmillref5_bound.l0]
  by_cases hlt : i < x4.length
  ·have hd := List.drop_eq_getElem_cons hlt
   rw [hd] at h2 hk
   simp only [costL, fuL] at h2 hk
   have hm := ihx _ (List.getElem_mem hlt)
   rw [if_pos (by omega), if_pos (by omega), rd33 _ i hlt, hd]
   simp only [bsL]
   generalize x4[i] = y at *
   have hl := bs_len y
   rw [hm k (by omega) (by omega), Option.bind_some, if_pos (by omega), wr1 i (by omega)]
   rw [bm_l0 e x4 ihx ih hx k (i + 1) _ (by omega) (by rw [List.length_append]; omega) (by omega)]
   simp only [List.append_assoc]
  ·rw [if_neg (by omega)]
   rw [List.drop_of_length_le (by omega)] at h2 hk ⊢
   simp only [costL, fuL] at h2 hk
   simp only [bsL, List.nil_append]
   have := bm_l1 ⟨e.f0, e.f1, e.f2, e.f3, x4, e.f5⟩ e.f5 ih (by have := len_costA e.f5; omega) k 0 out (by omega) (by rw [List.drop_zero]; omega) (by rw [List.drop_zero]; omega)
   rw [List.drop_zero] at this
   exact this
theorem bm_all : ∀ (m : Nat) (e : S33), cost e ≤ m → BM e
 | 0, e, hc => by have := cost_eq e; omega
 | m + 1, e, hc => by
  intro k h1 hk
  have hce := cost_eq e
  have hfe := fu_eq e
  obtain ⟨k, rfl⟩ : ∃ q, k = q + 1 := ⟨k - 1, by omega⟩
  rw [gristmillref5_bound.f, texts_f e.f3 (by omega), Option.bind_some, bs_eq]
  have := bm_l0 e e.f4 (fun y hy => bm_all m y (by have := cost_mem hy; omega)) (fun a ha => bm_all m a.f4 (by have := cost_memA ha; omega)) (by have := len_costL e.f4; omega) k 0 e.f3 (by omega) (by rw [List.drop_zero]; omega) (by rw [List.drop_zero]; omega)
  rw [List.drop_zero] at this
  exact this
theorem bound_ref (e : S33) (hc : cost e ≤ 100000) (w : World) {A3 A4 A5 : Option Addr} {c3 c4 c5 : Nat} (h3 : Kd.C Kd.string w A3 e.f3.length e.f3) (m3 : e.f3.length ≤ c3) (h4 : Kd.C k33 w A4 e.f4.length e.f4) (m4 : e.f4.length ≤ c4) (h5 : Kd.C k40 w A5 e.f5.length e.f5) (m5 : e.f5.length ≤ c5) {r : List ByteArray} (hr : bx e [] = r) {m : Nat} (hm : r.length = m) :
  Calls Tryd.prog 26 #[.agg #[.int .i64 e.f0, .string e.f1, .int .i64 e.f2, .slice A3 e.f3.length c3, .slice A4 e.f4.length c4, .slice A5 e.f5.length c5]] w fun x w' => ∃ A c, x = .returned (.slice A m c) ∧ m ≤ c ∧ Kd.C Kd.string w' A m r ∧ Below w.heap.size w w' := by
 subst hr hm
 have hl := bs_len e
 refine (gristmillref5_Bound.calls (fu e + 3 * cost e + 10) e.f0 e.f1 e.f2 A3 c3 e.f3 A4 c4 e.f4 A5 c5 e.f5 (bx e []) w h3 m3 h4 m4 h5 m5 ?_).mono ?_
 ·unfold gristmillref5_Bound.f
  rw [bm_all (cost e) e (Nat.le_refl _) _ (by omega) (by omega), Option.bind_some, once_k (bs e) (by omega) _ (by omega), ← bx_bs]
  rfl
 ·rintro x w' ⟨v, rfl, hR, hb⟩
  obtain ⟨A, c, rfl⟩ := Kd.R_slice hR
  exact ⟨A, c, rfl, (Kd.R_reads' hR).2.1, (Kd.R_reads' hR).2.2, hb⟩
end Go.Proofs.YtmoeekidmkhkoaaDoor.FreeA

