/- gristmillmake.Expr ends at every expression that came in; what it takes for small has few parts. No program in sight. -/
import Derived.Test.YtmoeekidmkhkoaaDoorFreeM
import Derived.Test.YtmoeekidmkhkoaaDoorPFreeAx2
namespace Go.Proofs.YtmoeekidmkhkoaaDoor.FreeA
open Go.RowKit Go.Proofs.YtmoeekidmkhkoaaDoorW.PrintWords Go.Proofs.YtmoeekidmkhkoaaDoorW.PrintLast Go.Proofs.YtmoeekidmkhkoaaDoorW.PrintMore Go.Proofs.YtmoeekidmkhkoaaDoor.PFreeA
set_option linter.unusedVariables false
set_option linter.unusedSimpArgs false
def BL : Nat := 10000000000000
mutual
def RW : S33 → Prop
  | ⟨op, nm, n, ns, l, al⟩ => (Ok1 nm n ns ∧ ns.length ≤ BL ∧ l.length ≤ BL ∧ al.length ≤ BL) ∧ RWL l ∧ RWA al
def RWL : List S33 → Prop
  | [] => True
  | e :: l => RW e ∧ RWL l
def RWA : List S40 → Prop
  | [] => True
  | ⟨_, nm, n, ns, e⟩ :: l => (Ok1 nm n ns ∧ ns.length ≤ BL ∧ RW e) ∧ RWA l
end
theorem rwL_iff : ∀ l : List S33, RWL l ↔ ∀ x ∈ l, RW x
  | [] => by simp [RWL]
  | e :: l => by simp [RWL, rwL_iff l]
theorem rwA_iff : ∀ l : List S40, RWA l ↔ ∀ a ∈ l, Ok1 a.f1 a.f2 a.f3 ∧ a.f3.length ≤ BL ∧ RW a.f4
  | [] => by simp [RWA]
  | ⟨_, _, _, _, e⟩ :: l => by simp [RWA, rwA_iff l]
theorem rw_iff (e : S33) : RW e ↔ (Ok1 e.f1 e.f2 e.f3 ∧ e.f3.length ≤ BL ∧ e.f4.length ≤ BL ∧ e.f5.length ≤ BL) ∧ (∀ x ∈ e.f4, RW x) ∧ ∀ a ∈ e.f5, Ok1 a.f1 a.f2 a.f3 ∧ a.f3.length ≤ BL ∧ RW a.f4 := by
  obtain ⟨f0, f1, f2, f3, f4, f5⟩ := e
  simp only [RW, rwL_iff, rwA_iff]
mutual
/-- How many parts. -/
def cn : S33 → Nat
  | ⟨_, _, _, ns, l, al⟩ => 1 + ns.length + cnL l + cnA al
def cnL : List S33 → Nat
  | [] => 0
  | e :: l => cn e + cnL l
def cnA : List S40 → Nat
  | [] => 0
  | ⟨_, _, _, ns, e⟩ :: l => 1 + ns.length + cn e + cnA l
end
mutual
def fu : S33 → Nat
  | ⟨_, _, _, ns, l, al⟩ => 12 + ns.length + fuL l + fuA al
def fuL : List S33 → Nat
  | [] => 0
  | e :: l => fu e + 1 + fuL l
def fuA : List S40 → Nat
  | [] => 0
  | ⟨_, _, _, _, e⟩ :: l => fu e + 1 + fuA l
end
theorem cn_eq (e : S33) : cn e = 1 + e.f3.length + cnL e.f4 + cnA e.f5 := by cases e; simp only [cn]
theorem fu_eq (e : S33) : fu e = 12 + e.f3.length + fuL e.f4 + fuA e.f5 := by cases e; simp only [fu]
theorem cnA_cons (a : S40) (l : List S40) : cnA (a :: l) = 1 + a.f3.length + cn a.f4 + cnA l := by cases a; simp only [cnA]
theorem fuA_cons (a : S40) (l : List S40) : fuA (a :: l) = fu a.f4 + 1 + fuA l := by cases a; simp only [fuA]
theorem cnL_drop {l : List S33} {i : Nat} (h : i < l.length) : cnL (l.drop i) = cn l[i] + cnL (l.drop (i + 1)) := by rw [List.drop_eq_getElem_cons h]; simp only [cnL]
theorem fuL_drop {l : List S33} {i : Nat} (h : i < l.length) : fuL (l.drop i) = fu l[i] + 1 + fuL (l.drop (i + 1)) := by rw [List.drop_eq_getElem_cons h]; simp only [fuL]
theorem cnA_drop {l : List S40} {i : Nat} (h : i < l.length) : cnA (l.drop i) = 1 + l[i].f3.length + cn l[i].f4 + cnA (l.drop (i + 1)) := by rw [List.drop_eq_getElem_cons h, cnA_cons]
theorem fuA_drop {l : List S40} {i : Nat} (h : i < l.length) : fuA (l.drop i) = fu l[i].f4 + 1 + fuA (l.drop (i + 1)) := by rw [List.drop_eq_getElem_cons h, fuA_cons]
theorem rd33 (l : List S33) (i : Nat) (h : i < l.length) : rd_T33 l (i : Int) = l[i] := by unfold rd_T33; rw [Int.toNat_natCast, List.getD_eq_getElem?_getD, List.getElem?_eq_getElem h]; rfl
theorem rd40 (l : List S40) (i : Nat) (h : i < l.length) : rd_T40 l (i : Int) = l[i] := by unfold rd_T40; rw [Int.toNat_natCast, List.getD_eq_getElem?_getD, List.getElem?_eq_getElem h]; rfl
def EX (k : Nat) (e : S33) : Prop := ∀ (left deep : Int), -100000000000000 ≤ left → left ≤ 1000 → 0 ≤ deep → deep ≤ 31 → ∃ r, gristmillmake_expr.f k e.f0 e.f1 e.f2 e.f3 e.f4 e.f5 left deep = some r ∧ (0 ≤ r → r + cn e ≤ left) ∧ -200000000000000 ≤ r ∧ r ≤ 1000
theorem ex_l2 (e : S33) (hl : e.f5.length ≤ BL) (ha : ∀ a ∈ e.f5, a.f3.length ≤ BL) (ih : ∀ a ∈ e.f5, ∀ k, fu a.f4 ≤ k → EX k a.f4) (deep : Int) (hd0 : 0 ≤ deep) (hd : deep ≤ 30) : ∀ (k i : Nat) (x : Int), i ≤ e.f5.length → -200000000000000 ≤ x → x ≤ 1000 → fuA (e.f5.drop i) + 1 ≤ k →
    ∃ r, gristmillmake_expr.l2 k x deep (i : Int) e.f0 e.f1 e.f2 e.f3 e.f4 e.f5 = some r ∧ (0 ≤ r → r + cnA (e.f5.drop i) ≤ x) ∧ -200000000000000 ≤ r ∧ r ≤ 1000
  | 0, i, x, hi, h1, h2, hk => by omega
  | k + 1, i, x, hi, h1, h2, hk => by
    rw [gristmillmake_expr.l2]
    by_cases hlt : i < e.f5.length
    · rw [if_pos (by omega)]
      by_cases hx : x ≥ 0
      · rw [if_pos hx, if_pos (by omega), rd40 _ i hlt]
        have hf := fuA_drop hlt
        have hc := cnA_drop hlt
        have hal := ha _ (List.getElem_mem hlt)
        have hw1 : wrap64 ((wrap64 (x - 1)) - (e.f5[i].f3.length : Int)) = x - 1 - (e.f5[i].f3.length : Int) := by unfold BL at hal; unfold wrap64; omega
        have hw2 : wrap64 (deep + 1) = deep + 1 := by unfold wrap64; omega
        unfold BL at hal hl
        obtain ⟨r, hr, hc1, hl1, hu1⟩ := ih _ (List.getElem_mem hlt) k (by omega) (x - 1 - (e.f5[i].f3.length : Int)) (deep + 1) (by omega) (by omega) (by omega) (by omega)
        rw [hw1, hw2, hr, Option.bind_some, wr1 i (by omega)]
        obtain ⟨q, hq, hc2, hl2, hu2⟩ := ex_l2 e hl ha ih deep hd0 hd k (i + 1) r (by omega) (by omega) hu1 (by omega)
        refine ⟨q, hq, fun h => ?_, hl2, hu2⟩
        have h3 := hc2 h
        have h4 := hc1 (by omega)
        omega
      · rw [if_neg hx]
        exact ⟨x, rfl, fun h => absurd h (by omega), h1, h2⟩
    · rw [if_neg (by omega), List.drop_of_length_le (by omega)]
      exact ⟨x, rfl, fun h => by simp only [cnA]; omega, h1, h2⟩
theorem ex_l1 (e : S33) (hl4 : e.f4.length ≤ BL) (hl : e.f5.length ≤ BL) (ha : ∀ a ∈ e.f5, a.f3.length ≤ BL) (ihx : ∀ y ∈ e.f4, ∀ k, fu y ≤ k → EX k y) (ih : ∀ a ∈ e.f5, ∀ k, fu a.f4 ≤ k → EX k a.f4) (deep : Int) (hd0 : 0 ≤ deep) (hd : deep ≤ 30) : ∀ (k i : Nat) (x : Int), i ≤ e.f4.length → -200000000000000 ≤ x → x ≤ 1000 → fuL (e.f4.drop i) + fuA e.f5 + 4 ≤ k →
    ∃ r, gristmillmake_expr.l1 k x deep (i : Int) e.f0 e.f1 e.f2 e.f3 e.f4 e.f5 = some r ∧ (0 ≤ r → r + cnL (e.f4.drop i) + cnA e.f5 ≤ x) ∧ -200000000000000 ≤ r ∧ r ≤ 1000
  | 0, i, x, hi, h1, h2, hk => by omega
  | k + 1, i, x, hi, h1, h2, hk => by
    have hend : ∀ q, fuA e.f5 + 2 ≤ q → ∃ r, gristmillmake_expr.j3 q x deep e.f0 e.f1 e.f2 e.f3 e.f4 e.f5 = some r ∧ (0 ≤ r → r + cnA e.f5 ≤ x) ∧ -200000000000000 ≤ r ∧ r ≤ 1000 := by
      intro q hq
      obtain ⟨q, rfl⟩ : ∃ p, q = p + 1 := ⟨q - 1, by omega⟩
      rw [gristmillmake_expr.j3]
      have := ex_l2 e hl ha ih deep hd0 hd q 0 x (by omega) h1 h2 (by rw [List.drop_zero]; omega)
      rwa [List.drop_zero] at this
    rw [gristmillmake_expr.l1]
    by_cases hlt : i < e.f4.length
    · rw [if_pos (by omega)]
      by_cases hx : x ≥ 0
      · rw [if_pos hx, if_pos (by omega), rd33 _ i hlt]
        have hf := fuL_drop hlt
        have hc := cnL_drop hlt
        have hw2 : wrap64 (deep + 1) = deep + 1 := by unfold wrap64; omega
        unfold BL at hl4
        obtain ⟨r, hr, hc1, hl1, hu1⟩ := ihx _ (List.getElem_mem hlt) k (by omega) x (deep + 1) (by omega) (by omega) (by omega) (by omega)
        rw [hw2, hr, Option.bind_some, wr1 i (by omega)]
        obtain ⟨q, hq, hc2, hl2, hu2⟩ := ex_l1 e hl4 hl ha ihx ih deep hd0 hd k (i + 1) r (by omega) (by omega) hu1 (by omega)
        refine ⟨q, hq, fun h => ?_, hl2, hu2⟩
        have h3 := hc2 h
        have h4 := hc1 (by omega)
        omega
      · rw [if_neg hx]
        obtain ⟨r, hr, hc, hlo, hhi⟩ := hend k (by omega)
        exact ⟨r, hr, fun h => by have := hc h; omega, hlo, hhi⟩
    · rw [if_neg (by omega), List.drop_of_length_le (by omega)]
      obtain ⟨r, hr, hc, hlo, hhi⟩ := hend k (by omega)
      exact ⟨r, hr, fun h => by simp only [cnL]; have := hc h; omega, hlo, hhi⟩
theorem ex_l0 (e : S33) (hl3 : e.f3.length ≤ BL) (hl4 : e.f4.length ≤ BL) (hl : e.f5.length ≤ BL) (ha : ∀ a ∈ e.f5, a.f3.length ≤ BL) (ihx : ∀ y ∈ e.f4, ∀ k, fu y ≤ k → EX k y) (ih : ∀ a ∈ e.f5, ∀ k, fu a.f4 ≤ k → EX k a.f4) (deep : Int) (hd0 : 0 ≤ deep) (hd : deep ≤ 30) (x : Int) (h1 : -200000000000000 ≤ x) (h2 : x ≤ 1000) : ∀ (k i : Nat), i ≤ e.f3.length → (e.f3.length - i) + fuL e.f4 + fuA e.f5 + 6 ≤ k →
    ∃ r, gristmillmake_expr.l0 k x deep (i : Int) e.f0 e.f1 e.f2 e.f3 e.f4 e.f5 = some r ∧ (0 ≤ r → r + cnL e.f4 + cnA e.f5 ≤ x) ∧ -200000000000000 ≤ r ∧ r ≤ 1000
  | 0, i, hi, hk => by omega
  | k + 1, i, hi, hk => by
    rw [gristmillmake_expr.l0]
    by_cases hlt : i < e.f3.length
    · rw [if_pos (by omega), if_pos (by omega)]
      split
      · exact ⟨-1, rfl, fun h => absurd h (by decide), by decide, by decide⟩
      · unfold BL at hl3
        rw [wr1 i (by omega)]
        exact ex_l0 e hl3 hl4 hl ha ihx ih deep hd0 hd x h1 h2 k (i + 1) (by omega) (by omega)
    · rw [if_neg (by omega)]
      have := ex_l1 e hl4 hl ha ihx ih deep hd0 hd k 0 x (by omega) h1 h2 (by rw [List.drop_zero]; omega)
      rwa [List.drop_zero] at this
theorem ex_all : ∀ (m : Nat) (e : S33), cost e ≤ m → RW e → ∀ k, fu e ≤ k → EX k e
  | 0, e, hc, _, k, hk => by have := cost_eq e; omega
  | m + 1, e, hc, hw, k, hk => by
    obtain ⟨⟨_, n3, n4, n5⟩, wl, wa⟩ := (rw_iff e).1 hw
    have ihx : ∀ y ∈ e.f4, ∀ k, fu y ≤ k → EX k y := fun y hy => ex_all m y (by have := cost_mem hy; omega) (wl y hy)
    have ih : ∀ a ∈ e.f5, ∀ k, fu a.f4 ≤ k → EX k a.f4 := fun a ha => ex_all m a.f4 (by have := cost_memA ha; omega) (wa a ha).2.2
    intro left deep h1 h2 hd0 hd
    have hf := fu_eq e
    have hcn := cn_eq e
    obtain ⟨k, rfl⟩ : ∃ j, k = j + 2 := ⟨k - 2, by omega⟩
    have hw1 : wrap64 ((wrap64 (left - 1)) - (e.f3.length : Int)) = left - 1 - (e.f3.length : Int) := by unfold BL at n3; unfold wrap64; omega
    rw [gristmillmake_expr.f, hw1]
    have hj : ∀ x, ∃ r, gristmillmake_expr.j0 (k + 1) x deep true e.f0 e.f1 e.f2 e.f3 e.f4 e.f5 = some r ∧ (0 ≤ r → r + cn e ≤ left) ∧ -200000000000000 ≤ r ∧ r ≤ 1000 := by
      intro x
      rw [gristmillmake_expr.j0, if_pos rfl]
      exact ⟨-1, rfl, fun h => absurd h (by decide), by decide, by decide⟩
    by_cases hdd : deep > 30
    · rw [if_pos hdd]; exact hj _
    · rw [if_neg hdd]
      by_cases hx : left - 1 - (e.f3.length : Int) < 0
      · rw [if_pos hx]; exact hj _
      · rw [if_neg hx]
        cases hb : decide ((e.f1.size : Int) > 60) with
        | true => exact hj _
        | false =>
          rw [gristmillmake_expr.j0, if_neg (by decide)]
          obtain ⟨r, hr, hc1, hl1, hu1⟩ := ex_l0 e n3 n4 n5 (fun a ha => (wa a ha).2.1) ihx ih deep hd0 (by omega) (left - 1 - (e.f3.length : Int)) (by omega) (by omega) k 0 (by omega) (by omega)
          exact ⟨r, hr, fun h => by have := hc1 h; omega, hl1, hu1⟩
theorem len_cnL : ∀ l : List S33, l.length ≤ cnL l
  | [] => by simp
  | e :: l => by simp only [cnL, List.length_cons]; have := cn_eq e; have := len_cnL l; omega
theorem len_cnA : ∀ l : List S40, l.length ≤ cnA l
  | [] => by simp
  | a :: l => by rw [cnA_cons, List.length_cons]; have := len_cnA l; omega
theorem cn_mem : ∀ {l : List S33} {x : S33}, x ∈ l → cn x ≤ cnL l
  | _ :: l, x, h => by
    simp only [cnL]
    rcases List.mem_cons.1 h with rfl | h
    · omega
    · have := cn_mem h; omega
theorem cn_memA : ∀ {l : List S40} {a : S40}, a ∈ l → a.f3.length + cn a.f4 ≤ cnA l
  | b :: l, a, h => by
    rw [cnA_cons]
    rcases List.mem_cons.1 h with rfl | h
    · omega
    · have := cn_memA h; omega
theorem wf_of : ∀ (m : Nat) (e : S33), cost e ≤ m → RW e → cn e ≤ 100000000000 → WF e
  | 0, e, hc, _, _ => by have := cost_eq e; omega
  | m + 1, e, hc, hw, hn => by
    obtain ⟨⟨o1, n3, n4, n5⟩, wl, wa⟩ := (rw_iff e).1 hw
    have hcn := cn_eq e
    have h4 := len_cnL e.f4
    have h5 := len_cnA e.f5
    exact (wf_iff e).2 ⟨⟨o1, by omega, by omega, by omega⟩, fun x hx => wf_of m x (by have := cost_mem hx; omega) (wl x hx) (by have := cn_mem hx; omega), fun a ha => ⟨(wa a ha).1, by have := cn_memA ha; omega, wf_of m a.f4 (by have := cost_memA ha; omega) (wa a ha).2.2 (by have := cn_memA ha; omega)⟩⟩
mutual
theorem cost_cn : ∀ e : S33, cost e ≤ 2 * cn e
  | ⟨_, _, _, ns, l, al⟩ => by
    simp only [cost, cn]
    have h1 := costL_cn l
    have h2 := costA_cn al
    omega
theorem costL_cn : ∀ l : List S33, costL l ≤ 2 * cnL l
  | [] => by simp [costL]
  | e :: l => by
    simp only [costL, cnL]
    have h1 := cost_cn e
    have h2 := costL_cn l
    omega
theorem costA_cn : ∀ l : List S40, costA l ≤ 2 * cnA l
  | [] => by simp [costA]
  | ⟨_, _, _, ns, e⟩ :: l => by
    simp only [costA, cnA]
    have h1 := cost_cn e
    have h2 := costA_cn l
    omega
end
theorem nsz_of {ns : List ByteArray} (h : small ns B47) : nsz ns = true := by
  unfold nsz
  rw [List.all_eq_true]
  exact fun s hs => decide_eq_true (h s hs)
mutual
theorem okE_of : ∀ e : S33, RW e → okE e = true
  | ⟨op, nm, n, ns, l, al⟩, h => by
    simp only [RW] at h
    simp only [okE, Bool.and_eq_true, decide_eq_true_eq]
    exact ⟨⟨⟨h.1.1.1, nsz_of h.1.1.2.2.2⟩, okL_of l h.2.1⟩, okA_of al h.2.2⟩
theorem okL_of : ∀ l : List S33, RWL l → okL l = true
  | [], _ => by simp [okL]
  | e :: l, h => by
    simp only [RWL] at h
    simp only [okL, Bool.and_eq_true]
    exact ⟨okE_of e h.1, okL_of l h.2⟩
theorem okA_of : ∀ l : List S40, RWA l → okA l = true
  | [], _ => by simp [okA]
  | ⟨_, nm, n, ns, e⟩ :: l, h => by
    simp only [RWA] at h
    simp only [okA, Bool.and_eq_true]
    exact ⟨⟨nsz_of h.1.1.2.2.2, okE_of e h.1.2.2⟩, okA_of l h.2⟩
end
theorem small_tot (e : S33) (hw : RW e) (most : Int) (h0 : 0 ≤ most) (h1 : most ≤ 1000) : ∃ b, gristmillmake_Expr.f (fu e) e.f0 e.f1 e.f2 e.f3 e.f4 e.f5 most = some b ∧ (b = true → (cn e : Int) ≤ most) := by
  obtain ⟨r, hr, hc, _, _⟩ := ex_all (cost e) e (Nat.le_refl _) hw (fu e) (Nat.le_refl _) most 0 (by omega) h1 (Int.le_refl _) (by decide)
  unfold gristmillmake_Expr.f
  rw [hr]
  exact ⟨_, rfl, fun h => by have h2 : 0 ≤ r := (by simpa using h); have := hc h2; omega⟩
end Go.Proofs.YtmoeekidmkhkoaaDoor.FreeA

