/- finder.expr, free.Names. No condition beyond those that each states. -/
import Derived.Test.YtmoeekidmkhkoaaDoorFreeA
namespace Go.Proofs.YtmoeekidmkhkoaaDoor.FreeA
open Go.RowKit Go.Proofs.YtmoeekidmkhkoaaDoorW.PrintWords Go.Proofs.YtmoeekidmkhkoaaDoorW.PrintLast Go.Proofs.YtmoeekidmkhkoaaDoorW.PrintMore Go.Proofs.YtmoeekidmkhkoaaDoor.PFreeA
set_option linter.unusedVariables false
set_option linter.unusedSimpArgs false
def cnt : List ByteArray → ByteArray → Int
  | [], _ => 0
  | t :: l, s => (if s = t then 1 else 0) + cnt l s
def isIn (l : List ByteArray) (s : ByteArray) : Bool := l.any fun t => decide (t = s)
def memI (l : List ByteArray) (s : ByteArray) : Int := if isIn l s then 1 else 0
theorem cnt_nonneg : ∀ (l : List ByteArray) (s : ByteArray), 0 ≤ cnt l s ∧ cnt l s ≤ l.length
  | [], s => ⟨Int.le_refl _, Int.le_refl _⟩
  | t :: l, s => by
    have h := cnt_nonneg l s
    by_cases hs : s = t
    · simp only [cnt, List.length_cons, if_pos hs]; omega
    · simp only [cnt, List.length_cons, if_neg hs]; omega
theorem cnt_zero : ∀ (l : List ByteArray) (s : ByteArray), cnt l s = 0 ↔ isIn l s = false
  | [], s => by simp [cnt, isIn]
  | t :: l, s => by
    have h := cnt_zero l s
    have h2 := cnt_nonneg l s
    by_cases hs : s = t
    · subst hs
      simp only [cnt, if_true, isIn, List.any_cons, decide_true, Bool.true_or]
      constructor
      · intro h3; omega
      · intro h3; cases h3
    · have hs' : ¬ t = s := fun e => hs e.symm
      simp only [cnt, if_neg hs, Int.zero_add, h, isIn, List.any_cons, decide_eq_false hs', Bool.false_or]
theorem cnt_append : ∀ (l B : List ByteArray) (s : ByteArray), cnt (l ++ B) s = cnt l s + cnt B s
  | [], B, s => by simp [cnt]
  | t :: l, B, s => by simp only [List.cons_append, cnt, cnt_append l B s]; omega
theorem addk_eq (b : Int) : ∀ (l : List ByteArray) (g : ByteArray → Int) (s : ByteArray), addk g b l s = g s + b * cnt l s
  | [], g, s => by simp [addk, cnt]
  | t :: l, g, s => by
    simp only [addk, addk_eq b l, cnt, updI]
    by_cases hs : s = t
    · subst hs; simp only [if_true, Int.mul_add, Int.mul_one]; omega
    · simp only [if_neg hs, Int.zero_add]
theorem addk_in (l B : List ByteArray) : addk (cnt B) 1 l = cnt (l ++ B) := by
  funext s
  rw [addk_eq, cnt_append]; omega
theorem addk_out (l B : List ByteArray) : addk (cnt (l ++ B)) (-1) l = cnt B := by
  funext s
  rw [addk_eq, cnt_append]; omega
theorem cnt_bd (B : List ByteArray) : Bd (B.length : Nat) (cnt B) := fun s => by have := cnt_nonneg B s; omega
theorem memI_upd (out : List ByteArray) (s : ByteArray) : updI (memI out) s 1 = memI (out ++ [s]) := by
  funext t
  unfold updI memI isIn
  by_cases h : t = s
  · subst h; simp
  · have h' : ¬ s = t := fun e => h e.symm
    simp only [List.any_append, List.any_cons, List.any_nil, decide_eq_false h', Bool.or_false, if_neg h]
def nsz (l : List ByteArray) : Bool := l.all fun s => decide (s.size ≤ 140737488351232)
theorem nsz_all {l : List ByteArray} (h : nsz l = true) : ∀ s ∈ l, NS s := fun s hs => by
  have := List.all_eq_true.1 h s hs
  simpa [NS] using this
mutual
def fx : S33 → List ByteArray → List ByteArray → List ByteArray
  | ⟨op, nm, _, ns, l, al⟩, B, out => fxA al B (fxL l (ns ++ B) (if op = 1 ∧ isIn B nm = false ∧ isIn out nm = false then out ++ [nm] else out))
def fxL : List S33 → List ByteArray → List ByteArray → List ByteArray
  | [], _, out => out
  | e :: l, B, out => fxL l B (fx e B out)
def fxA : List S40 → List ByteArray → List ByteArray → List ByteArray
  | [], _, out => out
  | ⟨_, _, _, ns, e⟩ :: l, B, out => fxA l B (fx e (ns ++ B) out)
end
mutual
def cost : S33 → Nat
  | ⟨_, _, _, ns, l, al⟩ => 1 + 2 * ns.length + costL l + costA al
def costL : List S33 → Nat
  | [] => 0
  | e :: l => cost e + costL l
def costA : List S40 → Nat
  | [] => 0
  | ⟨_, _, _, ns, e⟩ :: l => 2 * ns.length + cost e + costA l
end
mutual
def okE : S33 → Bool
  | ⟨_, nm, _, ns, l, al⟩ => decide (nm.size ≤ 140737488351232) && nsz ns && okL l && okA al
def okL : List S33 → Bool
  | [] => true
  | e :: l => okE e && okL l
def okA : List S40 → Bool
  | [] => true
  | ⟨_, _, _, ns, e⟩ :: l => nsz ns && okE e && okA l
end
theorem fx_eq (e : S33) (B out : List ByteArray) : fx e B out = fxA e.f5 B (fxL e.f4 (e.f3 ++ B) (if e.f0 = 1 ∧ isIn B e.f1 = false ∧ isIn out e.f1 = false then out ++ [e.f1] else out)) := by cases e; simp only [fx]
theorem fxA_cons (a : S40) (l : List S40) (B out : List ByteArray) : fxA (a :: l) B out = fxA l B (fx a.f4 (a.f3 ++ B) out) := by cases a; simp only [fxA]
theorem cost_eq (e : S33) : cost e = 1 + 2 * e.f3.length + costL e.f4 + costA e.f5 := by cases e; simp only [cost]
theorem costA_cons (a : S40) (l : List S40) : costA (a :: l) = 2 * a.f3.length + cost a.f4 + costA l := by cases a; simp only [costA]
theorem okE_eq (e : S33) : okE e = (decide (e.f1.size ≤ 140737488351232) && nsz e.f3 && okL e.f4 && okA e.f5) := by cases e; simp only [okE]
theorem okA_cons (a : S40) (l : List S40) : okA (a :: l) = (nsz a.f3 && okE a.f4 && okA l) := by cases a; simp only [okA]
theorem costL_drop {l : List S33} {i : Nat} (h : i < l.length) : costL (l.drop i) = cost l[i] + costL (l.drop (i + 1)) := by rw [List.drop_eq_getElem_cons h]; simp only [costL]
theorem costA_drop {l : List S40} {i : Nat} (h : i < l.length) : costA (l.drop i) = 2 * l[i].f3.length + cost l[i].f4 + costA (l.drop (i + 1)) := by rw [List.drop_eq_getElem_cons h, costA_cons]
theorem okL_drop {l : List S33} {i : Nat} (h : i < l.length) (ho : okL (l.drop i) = true) : okE l[i] = true ∧ okL (l.drop (i + 1)) = true := by
  rw [List.drop_eq_getElem_cons h] at ho
  simpa [okL] using ho
theorem okA_drop {l : List S40} {i : Nat} (h : i < l.length) (ho : okA (l.drop i) = true) : (nsz l[i].f3 = true ∧ okE l[i].f4 = true) ∧ okA (l.drop (i + 1)) = true := by
  rw [List.drop_eq_getElem_cons h, okA_cons] at ho
  simpa using ho
theorem costL_le {l : List S33} {i : Nat} (h : i < l.length) : cost l[i] ≤ costL l := by
  induction l generalizing i with
  | nil => simp at h
  | cons x l ih =>
    simp only [costL]
    cases i with
    | zero => simp only [List.getElem_cons_zero]; omega
    | succ i => have := ih (i := i) (by simpa using h); simp only [List.getElem_cons_succ]; omega
theorem costA_le {l : List S40} {i : Nat} (h : i < l.length) : 2 * l[i].f3.length + cost l[i].f4 ≤ costA l := by
  induction l generalizing i with
  | nil => simp at h
  | cons x l ih =>
    rw [costA_cons]
    cases i with
    | zero => simp only [List.getElem_cons_zero]; omega
    | succ i => have := ih (i := i) (by simpa using h); simp only [List.getElem_cons_succ]; omega
section
variable {w0 W W1 w1 : World} {base pb ab hb na nh : Nat} {v v0 : Value} {ga gh : ByteArray → Int} {out : List ByteArray}
theorem FS.fresh (h : FS W base pb ab hb v na nh ga gh out) {k : Nat} (hk : W.heap.size ≤ k) : k ≠ pb ∧ k ≠ ab ∧ k ≠ hb := by
  have h1 := h.lt (.inl rfl)
  have h2 := h.lt (.inr (.inl rfl))
  have h3 := h.lt (.inr (.inr (.inl rfl)))
  omega
theorem cell_own {g : Option Nat} {a : Addr} {u : Value} (hg : W.grownBy W1 g) (h : W.cell? a = some u) (hne : some a.block ≠ g) : W1.cell? a = some u := by
  have := hg.block a.block (World.block_lt_of_cell? _ _ h) hne
  rw [World.cell?] at h ⊢
  rwa [this]
theorem FS.put (h : FS W base pb ab hb v na nh ga gh out) (hbase : base ≤ W.heap.size) {v3 : Value} {out3 : List ByteArray} (hr : Kd.R Kd.string 9 W1 base (fun j => j ≠ pb ∧ j ≠ ab ∧ j ≠ hb) v3 out3) (hg : W.grownBy W1 v.ownBlock) :
    FS (W1.setCell ⟨pb, 2, none⟩ v3) base pb ab hb v3 na nh ga gh out3 := by
  have e : ∀ j, j ≠ pb → (W1.setCell ⟨pb, 2, none⟩ v3).heap[j]? = W1.heap[j]? := fun j hj => Below.heap_setCell W1 ⟨pb, 2, none⟩ v3 j hj
  have hp : W1.heap[pb]? = W.heap[pb]? := hg.block pb (h.lt (.inl rfl)) (fun e => (h.row.1 pb e.symm).1 rfl)
  have ha : W1.heap[ab]? = W.heap[ab]? := hg.block ab (h.lt (.inr (.inl rfl))) (fun e => (h.row.1 ab e.symm).2.1 rfl)
  have hh : W1.heap[hb]? = W.heap[hb]? := hg.block hb (h.lt (.inr (.inr (.inl rfl)))) (fun e => (h.row.1 hb e.symm).2.2 rfl)
  exact ⟨blk_put (hp.trans h.blk) 2 v3 rfl, h.am.of_block ((e ab h.pne.1.symm).trans ha), h.hm.of_block ((e hb h.pne.2.symm).trans hh), Rs_step hr (fun j hj => e j (hr.1 j hj).1) (fun j hj => hr.1 j hj), h.ge, h.ne⟩
end
def St (W w' : World) (base pb ab hb : Nat) (v0 : Value) (B out : List ByteArray) (ca ch : Nat) : Prop :=
  ∃ v na nh, FS w' base pb ab hb v na nh (cnt B) (memI out) out ∧ Mod W w' (FP pb ab hb v0) ∧ (∀ j, v.ownBlock = some j → v0.ownBlock = some j ∨ W.heap.size ≤ j) ∧ na ≤ ca ∧ nh ≤ ch
theorem St.comp {W w1 w2 : World} {base pb ab hb : Nat} {v0 v1 : Value} {B out : List ByteArray} {ca ch : Nat} (hm : Mod W w1 (FP pb ab hb v0)) (ho : ∀ j, v1.ownBlock = some j → v0.ownBlock = some j ∨ W.heap.size ≤ j) (h : St w1 w2 base pb ab hb v1 B out ca ch) : St W w2 base pb ab hb v0 B out ca ch := by
  obtain ⟨v2, na, nh, hf, hm2, ho2, ha, hh⟩ := h
  refine ⟨v2, na, nh, hf, hm.trans hm2 (fun j hj hfp => ?_), fun j hj => ?_, ha, hh⟩
  · rcases hfp with rfl | rfl | rfl | hv
    · exact .inl rfl
    · exact .inr (.inl rfl)
    · exact .inr (.inr (.inl rfl))
    · rcases ho j hv with h | h
      · exact .inr (.inr (.inr h))
      · omega
  · rcases ho2 j hj with h | h
    · exact ho j h
    · exact .inr (Nat.le_trans hm.size h)
theorem St.mono {W w2 : World} {base pb ab hb : Nat} {v0 : Value} {B out : List ByteArray} {ca ch ca' ch' : Nat} (h : St W w2 base pb ab hb v0 B out ca ch) (h1 : ca ≤ ca') (h2 : ch ≤ ch') : St W w2 base pb ab hb v0 B out ca' ch' := by
  obtain ⟨v2, na, nh, hf, hm2, ho2, ha, hh⟩ := h
  exact ⟨v2, na, nh, hf, hm2, ho2, by omega, by omega⟩
theorem St.below {W w' : World} {base pb ab hb na nh : Nat} {v0 : Value} {B out : List ByteArray} {ga gh : ByteArray → Int} {ca ch : Nat} {o0 : List ByteArray} (h : St W w' base pb ab hb v0 B out ca ch) (h0 : FS W base pb ab hb v0 na nh ga gh o0) (hb0 : base ≤ W.heap.size) : Below base W w' := by
  obtain ⟨v2, na2, nh2, hf, hm2, ho2, ha, hh⟩ := h
  exact hm2.below hb0 (fun j _ hj => h0.fge hj)
theorem bind_st {w0 W w1 : World} {pb ab hb na nh : Nat} {v v0 : Value} {B B' out : List ByteArray} (h : FS w1 w0.heap.size pb ab hb v na nh (cnt B) (memI out) out) (hm : Mod W w1 (FP pb ab hb v0)) (ho : ∀ j, v.ownBlock = some j → v0.ownBlock = some j ∨ W.heap.size ≤ j) (hB : Below w0.heap.size w0 w1) (l : List ByteArray) {A : Option Addr} {c : Nat} (hC : Kd.C Kd.string w0 A l.length l) (hNS : nsz l = true) (by_ : Int) (hby : -1 ≤ by_ ∧ by_ ≤ 1) (e : addk (cnt B) by_ l = cnt B') (hml : B.length + l.length ≤ 1000000000000) (hn : na + l.length ≤ 1000000000000) :
    Calls Tryd.prog 55 #[.pointer (some ⟨pb, 0, none⟩), .slice A l.length c, .int .i64 by_] w1 fun e W' => e = .returned (.tuple #[]) ∧ St W W' w0.heap.size pb ab hb v0 B' out (na + l.length) nh := by
  refine (bind_calls h hB l hC (nsz_all hNS) by_ hby B.length (cnt_bd B) hml hn).mono ?_
  rintro e2 W' ⟨rfl, hF, hM⟩
  refine ⟨rfl, St.comp hm ho ⟨v, _, _, e ▸ hF, hM.mono (fun j _ hj => .inr (.inl hj)), fun j hj => .inl hj, Nat.le_refl _, Nat.le_refl _⟩⟩
def one (e : S33) (B out : List ByteArray) : List ByteArray := if e.f0 = 1 ∧ isIn B e.f1 = false ∧ isIn out e.f1 = false then out ++ [e.f1] else out
mutual
theorem fx_len : ∀ (e : S33) (B out : List ByteArray), (fx e B out).length ≤ out.length + cost e
  | ⟨op, nm, _, ns, l, al⟩, B, out => by
    simp only [fx, cost]
    have h1 := fxA_len al B (fxL l (ns ++ B) (if op = 1 ∧ isIn B nm = false ∧ isIn out nm = false then out ++ [nm] else out))
    have h2 := fxL_len l (ns ++ B) (if op = 1 ∧ isIn B nm = false ∧ isIn out nm = false then out ++ [nm] else out)
    have h3 : (if op = 1 ∧ isIn B nm = false ∧ isIn out nm = false then out ++ [nm] else out).length ≤ out.length + 1 := by split <;> simp
    omega
theorem fxL_len : ∀ (l : List S33) (B out : List ByteArray), (fxL l B out).length ≤ out.length + costL l
  | [], B, out => by simp only [fxL, costL]; omega
  | e :: l, B, out => by
    simp only [fxL, costL]
    have h1 := fx_len e B out
    have h2 := fxL_len l B (fx e B out)
    omega
theorem fxA_len : ∀ (l : List S40) (B out : List ByteArray), (fxA l B out).length ≤ out.length + costA l
  | [], B, out => by simp only [fxA, costA]; omega
  | ⟨_, _, _, ns, e⟩ :: l, B, out => by
    simp only [fxA, costA]
    have h1 := fx_len e (ns ++ B) out
    have h2 := fxA_len l B (fx e (ns ++ B) out)
    omega
end
theorem at_e {w0 wr : World} (hB : Below w0.heap.size w0 wr) {A : Option Addr} {l : List S33} (hC : Kd.C k33 w0 A l.length l) (i : Nat) (hi : i < l.length) :
    ∃ ad A3 c3 A4 c4 A5 c5, A = some ad ∧ wr.cell? (ad.add (i * 6)) = some (.int .i64 l[i].f0) ∧ wr.cell? ⟨(ad.add (i * 6)).block, (ad.add (i * 6)).off + 1, none⟩ = some (.string l[i].f1) ∧ wr.cell? ⟨(ad.add (i * 6)).block, (ad.add (i * 6)).off + 2, none⟩ = some (.int .i64 l[i].f2) ∧ wr.cell? ⟨(ad.add (i * 6)).block, (ad.add (i * 6)).off + 3, none⟩ = some (.slice A3 l[i].f3.length c3) ∧ wr.cell? ⟨(ad.add (i * 6)).block, (ad.add (i * 6)).off + 4, none⟩ = some (.slice A4 l[i].f4.length c4) ∧ wr.cell? ⟨(ad.add (i * 6)).block, (ad.add (i * 6)).off + 5, none⟩ = some (.slice A5 l[i].f5.length c5) ∧
      Kd.C Kd.string w0 A3 l[i].f3.length l[i].f3 ∧ Kd.C k33 w0 A4 l[i].f4.length l[i].f4 ∧ Kd.C k40 w0 A5 l[i].f5.length l[i].f5 := by
  obtain ⟨ad, A3, c3, A4, c4, A5, c5, e, h0, h1, h2, h3, h4, h5, _, g3, _, g4, _, g5⟩ := at_T33 hC (i : Int) (by omega) (by omega)
  have hx : rd_T33 l (i : Int) = l[i] := by simp [rd_T33, hi]
  rw [hx] at h0 h1 h2 h3 h4 h5 g3 g4 g5
  simp only [Int.toNat_natCast] at h0 h1 h2 h3 h4 h5
  have T : ∀ {a : Addr} {u : Value}, w0.cell? a = some u → wr.cell? a = some u := fun h => (hB.cell (World.block_lt_of_cell? _ _ h)).trans h
  exact ⟨ad, A3, c3, A4, c4, A5, c5, e, T h0, T h1, T h2, T h3, T h4, T h5, g3, g4, g5⟩
theorem at_a {w0 wr : World} (hB : Below w0.heap.size w0 wr) {A : Option Addr} {l : List S40} (hC : Kd.C k40 w0 A l.length l) (i : Nat) (hi : i < l.length) :
    ∃ ad A3 c3 B3 d3 B4 d4 B5 d5, A = some ad ∧ wr.cell? (ad.add (i * 10)) = some (.int .i64 l[i].f0) ∧ wr.cell? ⟨(ad.add (i * 10)).block, (ad.add (i * 10)).off + 1, none⟩ = some (.string l[i].f1) ∧ wr.cell? ⟨(ad.add (i * 10)).block, (ad.add (i * 10)).off + 2, none⟩ = some (.int .i64 l[i].f2) ∧ wr.cell? ⟨(ad.add (i * 10)).block, (ad.add (i * 10)).off + 3, none⟩ = some (.slice A3 l[i].f3.length c3) ∧ wr.cell? ⟨(ad.add (i * 10)).block, (ad.add (i * 10)).off + 4, none⟩ = some (.int .i64 l[i].f4.f0) ∧ wr.cell? ⟨(ad.add (i * 10)).block, (ad.add (i * 10)).off + 5, none⟩ = some (.string l[i].f4.f1) ∧ wr.cell? ⟨(ad.add (i * 10)).block, (ad.add (i * 10)).off + 6, none⟩ = some (.int .i64 l[i].f4.f2) ∧ wr.cell? ⟨(ad.add (i * 10)).block, (ad.add (i * 10)).off + 7, none⟩ = some (.slice B3 l[i].f4.f3.length d3) ∧ wr.cell? ⟨(ad.add (i * 10)).block, (ad.add (i * 10)).off + 8, none⟩ = some (.slice B4 l[i].f4.f4.length d4) ∧ wr.cell? ⟨(ad.add (i * 10)).block, (ad.add (i * 10)).off + 9, none⟩ = some (.slice B5 l[i].f4.f5.length d5) ∧
      Kd.C Kd.string w0 A3 l[i].f3.length l[i].f3 ∧ Kd.C Kd.string w0 B3 l[i].f4.f3.length l[i].f4.f3 ∧ Kd.C k33 w0 B4 l[i].f4.f4.length l[i].f4.f4 ∧ Kd.C k40 w0 B5 l[i].f4.f5.length l[i].f4.f5 := by
  obtain ⟨ad, A3, c3, B3, d3, B4, d4, B5, d5, e, h0, h1, h2, h3, h4, h5, h6, h7, h8, h9, _, g3, _, g4, _, g5, _, g6⟩ := at_T40 hC (i : Int) (by omega) (by omega)
  have hx : rd_T40 l (i : Int) = l[i] := by simp [rd_T40, hi]
  rw [hx] at h0 h1 h2 h3 h4 h5 h6 h7 h8 h9 g3 g4 g5 g6
  simp only [Int.toNat_natCast] at h0 h1 h2 h3 h4 h5 h6 h7 h8 h9
  have T : ∀ {a : Addr} {u : Value}, w0.cell? a = some u → wr.cell? a = some u := fun h => (hB.cell (World.block_lt_of_cell? _ _ h)).trans h
  exact ⟨ad, A3, c3, B3, d3, B4, d4, B5, d5, e, T h0, T h1, T h2, T h3, T h4, T h5, T h6, T h7, T h8, T h9, g3, g4, g5, g6⟩
def XC (w0 : World) (e : S33) : Prop := ∀ {W : World} {pb ab hb na nh : Nat} {v : Value} {B out : List ByteArray}, FS W w0.heap.size pb ab hb v na nh (cnt B) (memI out) out → Below w0.heap.size w0 W → okE e = true → B.length + cost e ≤ 100000000000 → na + cost e ≤ 100000000000 → nh + cost e ≤ 100000000000 → out.length + cost e ≤ 100000000000 →
    ∀ {A3 A4 A5 : Option Addr} {c3 c4 c5 : Nat}, Kd.C Kd.string w0 A3 e.f3.length e.f3 → Kd.C k33 w0 A4 e.f4.length e.f4 → Kd.C k40 w0 A5 e.f5.length e.f5 →
    Calls Tryd.prog 38 #[.pointer (some ⟨pb, 0, none⟩), .agg #[.int .i64 e.f0, .string e.f1, .int .i64 e.f2, .slice A3 e.f3.length c3, .slice A4 e.f4.length c4, .slice A5 e.f5.length c5]] W fun r W' => r = .returned (.tuple #[]) ∧ St W W' w0.heap.size pb ab hb v B (fx e B out) (na + cost e) (nh + cost e)
theorem St.blk {W w' : World} {base pb ab hb : Nat} {v0 : Value} {B out : List ByteArray} {ca ch b : Nat} {o : Obj} (h : St W w' base pb ab hb v0 B out ca ch) (hb' : W.heap[b]? = some o) (hn : ¬ FP pb ab hb v0 b) : w'.heap[b]? = some o := by
  obtain ⟨v2, na2, nh2, hf, hm2, _⟩ := h
  exact (hm2.block b (Array.getElem?_eq_some_iff.1 hb').1 hn).trans hb'
theorem St.alloc {W w' w2 : World} {base pb ab hb : Nat} {v0 : Value} {B out : List ByteArray} {ca ch : Nat} (h : St W w' base pb ab hb v0 B out ca ch) (hb2 : Below w'.heap.size w' w2) : St W w2 base pb ab hb v0 B out ca ch := by
  obtain ⟨v2, na2, nh2, hf, hm2, ho, ha, hh⟩ := h
  exact ⟨v2, na2, nh2, hf.below hb2, hm2.trans (Mod.of_below hb2 (FP pb ab hb v0)) (fun _ _ hj => hj), ho, ha, hh⟩
theorem step_x {w0 Wa w5 : World} {pb ab hb na nh : Nat} {v : Value} {ga gh : ByteArray → Int} {o0 B o : List ByteArray} {ca ch : Nat} {e : S33} (hx : XC w0 e) (hF : FS Wa w0.heap.size pb ab hb v na nh ga gh o0) (hBa : Below w0.heap.size w0 Wa) (hsa : w0.heap.size ≤ Wa.heap.size) (hst : St Wa w5 w0.heap.size pb ab hb v B o ca ch) (hok : okE e = true)
    (h1 : B.length + cost e ≤ 100000000000) (h2 : ca + cost e ≤ 100000000000) (h3 : ch + cost e ≤ 100000000000) (h4 : o.length + cost e ≤ 100000000000) {A3 A4 A5 : Option Addr} (g3 : Kd.C Kd.string w0 A3 e.f3.length e.f3) (g4 : Kd.C k33 w0 A4 e.f4.length e.f4) (g5 : Kd.C k40 w0 A5 e.f5.length e.f5) (c3 c4 c5 : Nat) :
    Calls Tryd.prog 38 #[.pointer (some ⟨pb, 0, none⟩), .agg #[.int .i64 e.f0, .string e.f1, .int .i64 e.f2, .slice A3 e.f3.length c3, .slice A4 e.f4.length c4, .slice A5 e.f5.length c5]] w5 fun r W' => r = .returned (.tuple #[]) ∧ St Wa W' w0.heap.size pb ab hb v B (fx e B o) (ca + cost e) (ch + cost e) := by
  have hbw := hBa.trans (St.below hst hF hsa)
  obtain ⟨v2, na2, nh2, hf, hm, ho, ha, hh⟩ := hst
  refine (hx hf hbw hok h1 (by omega) (by omega) h4 g3 g4 g5).mono ?_
  rintro r W' ⟨rfl, h⟩
  exact ⟨rfl, (St.comp hm ho h).mono (by omega) (by omega)⟩
theorem step_b {w0 Wa w5 : World} {pb ab hb na nh : Nat} {v : Value} {ga gh : ByteArray → Int} {o0 B o : List ByteArray} {ca ch : Nat} (hF : FS Wa w0.heap.size pb ab hb v na nh ga gh o0) (hBa : Below w0.heap.size w0 Wa) (hsa : w0.heap.size ≤ Wa.heap.size) (l : List ByteArray) (hst : St Wa w5 w0.heap.size pb ab hb v (l ++ B) o ca ch) {A3 : Option Addr} (g3 : Kd.C Kd.string w0 A3 l.length l) (hok : nsz l = true) (c3 : Nat)
    (h1 : (l ++ B).length + l.length ≤ 1000000000000) (h2 : ca + l.length ≤ 1000000000000) :
    Calls Tryd.prog 55 #[.pointer (some ⟨pb, 0, none⟩), .slice A3 l.length c3, .int .i64 (-1)] w5 fun r W' => r = .returned (.tuple #[]) ∧ St Wa W' w0.heap.size pb ab hb v B o (ca + l.length) ch := by
  have hbw := hBa.trans (St.below hst hF hsa)
  obtain ⟨v2, na2, nh2, hf, hm, ho, ha, hh⟩ := hst
  refine (bind_st hf hm ho hbw l g3 hok (-1) (by decide) (addk_out l B) h1 (by omega)).mono ?_
  rintro r W' ⟨rfl, h⟩
  exact ⟨rfl, h.mono (by omega) (by omega)⟩
set_option maxHeartbeats 16000000 in
set_option maxRecDepth 100000 in
theorem expr_calls {w0 : World} : ∀ (n : Nat) (e : S33), cost e ≤ n → XC w0 e := by
  intro n
  induction n with
  | zero => intro e hc; rw [cost_eq] at hc; omega
  | succ n ih =>
    intro e hc W pb ab hb na nh v B out h hB0 hok bB ba bh bo A3 A4 A5 c3 c4 c5 hC3 hC4 hC5
    have hceq := cost_eq e
    rw [okE_eq] at hok
    simp only [Bool.and_eq_true, decide_eq_true_eq] at hok
    obtain ⟨⟨⟨hns0, hok3⟩, hok4⟩, hok5⟩ := hok
    have hns := Aside0.mk (show NS e.f1 from hns0)
    have hok3 := Aside0.mk hok3
    have hok4 := Aside0.mk hok4
    have hok5 := Aside0.mk hok5
    have hl4 := hC4.2.1
    have hl5 := hC5.2.1
    have hC3 := Aside0.mk hC3
    have hC4 := Aside0.mk hC4
    have hC5 := Aside0.mk hC5
    have hbl := Aside0.mk (below_drew1 (below_alloc (Below.refl W.heap.size W) (.cells #[.int .i64 e.f0, .string e.f1, .int .i64 e.f2, .slice A3 e.f3.length c3, .slice A4 e.f4.length c4, .slice A5 e.f5.length c5] 33)))
    have hbx : Aside0 ((W.alloc (.cells #[.int .i64 e.f0, .string e.f1, .int .i64 e.f2, .slice A3 e.f3.length c3, .slice A4 e.f4.length c4, .slice A5 e.f5.length c5] 33)).drew.heap[W.heap.size]? = some (.cells #[.int .i64 e.f0, .string e.f1, .int .i64 e.f2, .slice A3 e.f3.length c3, .slice A4 e.f4.length c4, .slice A5 e.f5.length c5] 33 (0, 0))) := ⟨blk_new W _⟩
    have hF1 := Aside0.mk (h.below hbl.out)
    have hB1 := Aside0.mk (hB0.trans (hbl.out.mono hB0.size))
    have hnb := Aside0.mk (show ¬ FP pb ab hb v W.heap.size from fun hh => by have := h.lt hh; omega)
    have hsz := Aside0.mk hB0.size
    have hcost := Aside0.mk hceq
    have hbnd := Aside0.mk (And.intro hc (And.intro bB (And.intro ba (And.intro bh bo))))
    have hone : Aside0 (fx e B out = fxA e.f5 B (fxL e.f4 (e.f3 ++ B) (one e B out))) := ⟨fx_eq e B out⟩
    have K0 := Aside0.mk ((blk_cell hbx.out 0).trans rfl)
    have K1 := Aside0.mk ((blk_cell hbx.out 1).trans rfl)
    have KA := Aside0.mk hF1.out.cells.1
    have KH := Aside0.mk hF1.out.cells.2.1
    have KL := Aside0.mk (hF1.out.am.look hns.out)
    have KM := Aside0.mk (hF1.out.hm.look hns.out)
    clear h hB0 hns0 hceq hc bB ba bh bo
    go_enter Tryd.func38, Tryd.ntmps38
    go_wp2
    by_cases y1 : e.f0 = 1
    · have q1 : (e.f0 == 1) = true := by rw [y1]; rfl
      by_cases y2 : isIn B e.f1 = false
      · have q2 : (cnt B e.f1 == 0) = true := by rw [(cnt_zero B e.f1).2 y2]; rfl
        by_cases y3 : isIn out e.f1 = false
        · have q3 : (memI out e.f1 == 0) = true := by unfold memI; rw [y3]; rfl
          refine start_ (n := 23) (S := fun w' => w'.cell? ⟨W.heap.size, 0, none⟩ = some (.int .i64 e.f0) ∧ w'.cell? ⟨W.heap.size, 1, none⟩ = some (.string e.f1) ∧ w'.cell? ⟨pb, 0, none⟩ = some (.map (some ab)) ∧ (Instr.lookup 59 (.map (some ab)) (.string e.f1) false).run Tryd.prog w' = .ok (.int .i64 (cnt B e.f1)) w' ∧ w'.cell? ⟨pb, 1, none⟩ = some (.map (some hb)) ∧ (Instr.lookup 59 (.map (some hb)) (.string e.f1) false).run Tryd.prog w' = .ok (.int .i64 (memI out e.f1)) w') (ds := []) #[false, false, false, false, false, false, false, false, false, false, false, false, false, false, false, false, false, false, false, false, false, false, false] (by kernel_rfl) rfl rfl ⟨K0.out, K1.out, KA.out, KL.out, KH.out, KM.out⟩ (fun hHeld => ?_)
          generalize (W.alloc (.cells #[.int .i64 e.f0, .string e.f1, .int .i64 e.f2, .slice A3 e.f3.length c3, .slice A4 e.f4.length c4, .slice A5 e.f5.length c5] 33)).drew = W9 at *
          refine pure_ (i := 0) (N := some 8) (v := ?_) (a' := ?_) #[true, false, false, false, false, false, false, false, false, false, false, false, false, false, false, false, false, false, false, false, false, false, false] rfl rfl (by kernel_rfl) (fun _ _ _ h => h) (Or.inl ⟨by rfl, ?_⟩) ?_ ?_
          rotate_left
          · intro w'
            go_simp
            with_reducible rfl
          rotate_left
          · simp only [Act.put, List.setIfInBounds_toArray, List.set_cons_zero, List.set_cons_succ, i64_w, i32_w]
            rfl
          refine take_ (i := 1) (N := some 9) (v := ?_) (a' := ?_) #[true, true, false, false, false, false, false, false, false, false, false, false, false, false, false, false, false, false, false, false, false, false, false] rfl rfl (by kernel_rfl) (fun _ _ _ h => h) (Or.inl ⟨by rfl, ?_⟩) hHeld ?_ ?_
          rotate_left
          · rintro w' ⟨s0, s1, s2, s3, s4, s5⟩
            go_simp
            with_reducible rfl
          rotate_left
          · simp only [Act.put, List.setIfInBounds_toArray, List.set_cons_zero, List.set_cons_succ, i64_w, i32_w]
            rfl
          refine pure_ (i := 2) (N := some 10) (v := ?_) (a' := ?_) #[true, true, true, false, false, false, false, false, false, false, false, false, false, false, false, false, false, false, false, false, false, false, false] rfl rfl (by kernel_rfl) (fun _ _ _ h => h) (Or.inl ⟨by rfl, ?_⟩) ?_ ?_
          rotate_left
          · intro w'
            go_simp
            with_reducible rfl
          rotate_left
          · simp only [Act.put, List.setIfInBounds_toArray, List.set_cons_zero, List.set_cons_succ, i64_w, i32_w]
            rfl
          refine pure_ (i := 3) (N := some 11) (v := ?_) (a' := ?_) #[true, true, true, true, false, false, false, false, false, false, false, false, false, false, false, false, false, false, false, false, false, false, false] rfl rfl (by kernel_rfl) (fun _ _ _ h => h) (Or.inl ⟨by rfl, ?_⟩) ?_ ?_
          rotate_left
          · intro w'
            go_simp
            with_reducible rfl
          rotate_left
          · simp only [Act.put, List.setIfInBounds_toArray, List.set_cons_zero, List.set_cons_succ, i64_w, i32_w]
            rfl
          refine pure_ (i := 4) (N := some 12) (v := ?_) (a' := ?_) #[true, true, true, true, true, false, false, false, false, false, false, false, false, false, false, false, false, false, false, false, false, false, false] rfl rfl (by kernel_rfl) (fun _ _ _ h => h) (Or.inl ⟨by rfl, ?_⟩) ?_ ?_
          rotate_left
          · intro w'
            go_simp
            with_reducible rfl
          rotate_left
          · simp only [Act.put, List.setIfInBounds_toArray, List.set_cons_zero, List.set_cons_succ, i64_w, i32_w]
            rfl
          refine pure_ (i := 5) (N := some 13) (v := ?_) (a' := ?_) #[true, true, true, true, true, true, false, false, false, false, false, false, false, false, false, false, false, false, false, false, false, false, false] rfl rfl (by kernel_rfl) (fun _ _ _ h => h) (Or.inl ⟨by rfl, ?_⟩) ?_ ?_
          rotate_left
          · intro w'
            go_simp
            with_reducible rfl
          rotate_left
          · simp only [Act.put, List.setIfInBounds_toArray, List.set_cons_zero, List.set_cons_succ, i64_w, i32_w]
            rfl
          refine pure_ (i := 6) (N := some 14) (v := ?_) (a' := ?_) #[true, true, true, true, true, true, true, false, false, false, false, false, false, false, false, false, false, false, false, false, false, false, false] rfl rfl (by kernel_rfl) (fun _ _ _ h => h) (Or.inl ⟨by rfl, ?_⟩) ?_ ?_
          rotate_left
          · intro w'
            go_simp
            with_reducible rfl
          rotate_left
          · simp only [Act.put, List.setIfInBounds_toArray, List.set_cons_zero, List.set_cons_succ, i64_w, i32_w]
            rfl
          refine pure_ (i := 8) (N := some 16) (v := ?_) (a' := ?_) #[true, true, true, true, true, true, true, false, true, false, false, false, false, false, false, false, false, false, false, false, false, false, false] rfl rfl (by kernel_rfl) (fun _ _ _ h => h) (Or.inl ⟨by rfl, ?_⟩) ?_ ?_
          rotate_left
          · intro w'
            go_simp
            with_reducible rfl
          rotate_left
          · simp only [Act.put, List.setIfInBounds_toArray, List.set_cons_zero, List.set_cons_succ, i64_w, i32_w]
            rfl
          refine take_ (i := 7) (N := some 15) (v := ?_) (a' := ?_) #[true, true, true, true, true, true, true, true, true, false, false, false, false, false, false, false, false, false, false, false, false, false, false] rfl rfl (by kernel_rfl) (fun _ _ _ h => h) (Or.inl ⟨by rfl, ?_⟩) hHeld ?_ ?_
          rotate_left
          · rintro w' ⟨s0, s1, s2, s3, s4, s5⟩
            go_simp
            with_reducible rfl
          rotate_left
          · simp only [Act.put, List.setIfInBounds_toArray, List.set_cons_zero, List.set_cons_succ, i64_w, i32_w]
            rfl
          refine take_ (i := 9) (N := some 17) (v := ?_) (a' := ?_) #[true, true, true, true, true, true, true, true, true, true, false, false, false, false, false, false, false, false, false, false, false, false, false] rfl rfl (by kernel_rfl) (fun _ _ _ h => h) (Or.inl ⟨by rfl, ?_⟩) hHeld ?_ ?_
          rotate_left
          · rintro w' ⟨s0, s1, s2, s3, s4, s5⟩
            go_simp
            with_reducible rfl
          rotate_left
          · simp only [Act.put, List.setIfInBounds_toArray, List.set_cons_zero, List.set_cons_succ, i64_w, i32_w]
            rfl
          refine take_ (i := 10) (N := some 18) (v := ?_) (a' := ?_) #[true, true, true, true, true, true, true, true, true, true, true, false, false, false, false, false, false, false, false, false, false, false, false] rfl rfl (by kernel_rfl) (fun _ _ _ h => h) (Or.inl ⟨by rfl, ?_⟩) hHeld ?_ ?_
          rotate_left
          · rintro w' ⟨s0, s1, s2, s3, s4, s5⟩
            go_simp
            with_reducible rfl
          rotate_left
          · simp only [Act.put, List.setIfInBounds_toArray, List.set_cons_zero, List.set_cons_succ, i64_w, i32_w]
            rfl
          refine pure_ (i := 11) (N := some 19) (v := ?_) (a' := ?_) #[true, true, true, true, true, true, true, true, true, true, true, true, false, false, false, false, false, false, false, false, false, false, false] rfl rfl (by kernel_rfl) (fun _ _ _ h => h) (Or.inl ⟨by rfl, ?_⟩) ?_ ?_
          rotate_left
          · intro w'
            go_simp
            with_reducible rfl
          rotate_left
          · simp only [Act.put, List.setIfInBounds_toArray, List.set_cons_zero, List.set_cons_succ, i64_w, i32_w]
            rfl
          refine pure_ (i := 12) (N := some 20) (v := ?_) (a' := ?_) #[true, true, true, true, true, true, true, true, true, true, true, true, true, false, false, false, false, false, false, false, false, false, false] rfl rfl (by kernel_rfl) (fun _ _ _ h => h) (Or.inl ⟨by rfl, ?_⟩) ?_ ?_
          rotate_left
          · intro w'
            go_simp
            with_reducible rfl
          rotate_left
          · simp only [Act.put, List.setIfInBounds_toArray, List.set_cons_zero, List.set_cons_succ, i64_w, i32_w]
            rfl
          refine pure_ (i := 13) (N := some 21) (v := ?_) (a' := ?_) #[true, true, true, true, true, true, true, true, true, true, true, true, true, true, false, false, false, false, false, false, false, false, false] rfl rfl (by kernel_rfl) (fun _ _ _ h => h) (Or.inl ⟨by rfl, ?_⟩) ?_ ?_
          rotate_left
          · intro w'
            go_simp
            with_reducible rfl
          rotate_left
          · simp only [Act.put, List.setIfInBounds_toArray, List.set_cons_zero, List.set_cons_succ, i64_w, i32_w]
            rfl
          refine pure_ (i := 14) (N := some 22) (v := ?_) (a' := ?_) #[true, true, true, true, true, true, true, true, true, true, true, true, true, true, true, false, false, false, false, false, false, false, false] rfl rfl (by kernel_rfl) (fun _ _ _ h => h) (Or.inl ⟨by rfl, ?_⟩) ?_ ?_
          rotate_left
          · intro w'
            go_simp
            with_reducible rfl
          rotate_left
          · simp only [Act.put, List.setIfInBounds_toArray, List.set_cons_zero, List.set_cons_succ, i64_w, i32_w]
            rfl
          refine pure_ (i := 15) (N := some 23) (v := ?_) (a' := ?_) #[true, true, true, true, true, true, true, true, true, true, true, true, true, true, true, true, false, false, false, false, false, false, false] rfl rfl (by kernel_rfl) (fun _ _ _ h => h) (Or.inl ⟨by rfl, ?_⟩) ?_ ?_
          rotate_left
          · intro w'
            go_simp
            with_reducible rfl
          rotate_left
          · simp only [Act.put, List.setIfInBounds_toArray, List.set_cons_zero, List.set_cons_succ, i64_w, i32_w]
            rfl
          refine pure_ (i := 16) (N := some 24) (v := ?_) (a' := ?_) #[true, true, true, true, true, true, true, true, true, true, true, true, true, true, true, true, true, false, false, false, false, false, false] rfl rfl (by kernel_rfl) (fun _ _ _ h => h) (Or.inl ⟨by rfl, ?_⟩) ?_ ?_
          rotate_left
          · intro w'
            go_simp
            with_reducible rfl
          rotate_left
          · simp only [Act.put, List.setIfInBounds_toArray, List.set_cons_zero, List.set_cons_succ, i64_w, i32_w]
            rfl
          refine pure_ (i := 18) (N := some 26) (v := ?_) (a' := ?_) #[true, true, true, true, true, true, true, true, true, true, true, true, true, true, true, true, true, false, true, false, false, false, false] rfl rfl (by kernel_rfl) (fun _ _ _ h => h) (Or.inl ⟨by rfl, ?_⟩) ?_ ?_
          rotate_left
          · intro w'
            go_simp
            with_reducible rfl
          rotate_left
          · simp only [Act.put, List.setIfInBounds_toArray, List.set_cons_zero, List.set_cons_succ, i64_w, i32_w]
            rfl
          refine take_ (i := 17) (N := some 25) (v := ?_) (a' := ?_) #[true, true, true, true, true, true, true, true, true, true, true, true, true, true, true, true, true, true, true, false, false, false, false] rfl rfl (by kernel_rfl) (fun _ _ _ h => h) (Or.inl ⟨by rfl, ?_⟩) hHeld ?_ ?_
          rotate_left
          · rintro w' ⟨s0, s1, s2, s3, s4, s5⟩
            go_simp
            with_reducible rfl
          rotate_left
          · simp only [Act.put, List.setIfInBounds_toArray, List.set_cons_zero, List.set_cons_succ, i64_w, i32_w]
            rfl
          refine take_ (i := 19) (N := some 27) (v := ?_) (a' := ?_) #[true, true, true, true, true, true, true, true, true, true, true, true, true, true, true, true, true, true, true, true, false, false, false] rfl rfl (by kernel_rfl) (fun _ _ _ h => h) (Or.inl ⟨by rfl, ?_⟩) hHeld ?_ ?_
          rotate_left
          · rintro w' ⟨s0, s1, s2, s3, s4, s5⟩
            go_simp
            with_reducible rfl
          rotate_left
          · simp only [Act.put, List.setIfInBounds_toArray, List.set_cons_zero, List.set_cons_succ, i64_w, i32_w]
            rfl
          refine take_ (i := 20) (N := some 28) (v := ?_) (a' := ?_) #[true, true, true, true, true, true, true, true, true, true, true, true, true, true, true, true, true, true, true, true, true, false, false] rfl rfl (by kernel_rfl) (fun _ _ _ h => h) (Or.inl ⟨by rfl, ?_⟩) hHeld ?_ ?_
          rotate_left
          · rintro w' ⟨s0, s1, s2, s3, s4, s5⟩
            go_simp
            with_reducible rfl
          rotate_left
          · simp only [Act.put, List.setIfInBounds_toArray, List.set_cons_zero, List.set_cons_succ, i64_w, i32_w]
            rfl
          refine pure_ (i := 21) (N := some 29) (v := ?_) (a' := ?_) #[true, true, true, true, true, true, true, true, true, true, true, true, true, true, true, true, true, true, true, true, true, true, false] rfl rfl (by kernel_rfl) (fun _ _ _ h => h) (Or.inl ⟨by rfl, ?_⟩) ?_ ?_
          rotate_left
          · intro w'
            go_simp
            with_reducible rfl
          rotate_left
          · simp only [Act.put, List.setIfInBounds_toArray, List.set_cons_zero, List.set_cons_succ, i64_w, i32_w]
            rfl
          refine pure_ (i := 22) (N := some 30) (v := ?_) (a' := ?_) #[true, true, true, true, true, true, true, true, true, true, true, true, true, true, true, true, true, true, true, true, true, true, true] rfl rfl (by kernel_rfl) (fun _ _ _ h => h) (Or.inl ⟨by rfl, ?_⟩) ?_ ?_
          rotate_left
          · intro w'
            go_simp
            with_reducible rfl
          rotate_left
          · simp only [Act.put, List.setIfInBounds_toArray, List.set_cons_zero, List.set_cons_succ, i64_w, i32_w]
            rfl
          refine done_ (by kernel_rfl) ?_
          have hF9 := hF1
          have hB9 := hB1
          have hbl9 := hbl
          have hbx9 := hbx
          have hnb9 := hnb
          have hbx3 := hnb
          have hsz9 : Aside0 (w0.heap.size ≤ W9.heap.size) := ⟨hB9.out.size⟩
          have hF2 : Aside0 (FS W9.drew w0.heap.size pb ab hb v na nh (cnt B) (memI out) out) := ⟨hF9.out.below (below_drew1 (Below.refl _ _))⟩
          have K1' : Aside0 (W9.drew.cell? ⟨W.heap.size, 1, none⟩ = some (.string e.f1)) := ⟨K1.out⟩
          have KH' : Aside0 (W9.drew.cell? ⟨pb, 1, none⟩ = some (.map (some hb))) := ⟨hF2.out.cells.2.1⟩
          have hM10 : Aside0 (Mod W9 W9.drew (FP pb ab hb v)) := ⟨(Mod.refl W9 (FP pb ab hb v)).drew⟩
          have ho1 : Aside0 (one e B out = out ++ [e.f1]) := ⟨by unfold one; rw [if_pos ⟨y1, y2, y3⟩]⟩
          clear hF1 hB1 hbl hbx hnb hsz K0 K1 KA KH KL KM hHeld
          go_wp2
          refine start_ (n := 7) (S := fun w' => w'.cell? ⟨W.heap.size, 1, none⟩ = some (.string e.f1) ∧ w'.cell? ⟨pb, 1, none⟩ = some (.map (some hb))) (ds := [6]) #[false, false, false, false, false, false, false] (by kernel_rfl) rfl rfl ⟨K1'.out, KH'.out⟩ (fun hHeld => ?_)
          generalize W9.drew = W10 at *
          refine pure_ (i := 0) (N := some 31) (v := ?_) (a' := ?_) #[true, false, false, false, false, false, false] rfl rfl (by kernel_rfl) (fun _ _ _ h => h) (Or.inl ⟨by rfl, ?_⟩) ?_ ?_
          rotate_left
          · intro w'
            go_simp
            with_reducible rfl
          rotate_left
          · simp only [Act.put, List.setIfInBounds_toArray, List.set_cons_zero, List.set_cons_succ, i64_w, i32_w]
            rfl
          refine pure_ (i := 1) (N := some 32) (v := ?_) (a' := ?_) #[true, true, false, false, false, false, false] rfl rfl (by kernel_rfl) (fun _ _ _ h => h) (Or.inl ⟨by rfl, ?_⟩) ?_ ?_
          rotate_left
          · intro w'
            go_simp
            with_reducible rfl
          rotate_left
          · simp only [Act.put, List.setIfInBounds_toArray, List.set_cons_zero, List.set_cons_succ, i64_w, i32_w]
            rfl
          refine pure_ (i := 2) (N := some 33) (v := ?_) (a' := ?_) #[true, true, true, false, false, false, false] rfl rfl (by kernel_rfl) (fun _ _ _ h => h) (Or.inl ⟨by rfl, ?_⟩) ?_ ?_
          rotate_left
          · intro w'
            go_simp
            with_reducible rfl
          rotate_left
          · simp only [Act.put, List.setIfInBounds_toArray, List.set_cons_zero, List.set_cons_succ, i64_w, i32_w]
            rfl
          refine pure_ (i := 4) (N := some 35) (v := ?_) (a' := ?_) #[true, true, true, false, true, false, false] rfl rfl (by kernel_rfl) (fun _ _ _ h => h) (Or.inl ⟨by rfl, ?_⟩) ?_ ?_
          rotate_left
          · intro w'
            go_simp
            with_reducible rfl
          rotate_left
          · simp only [Act.put, List.setIfInBounds_toArray, List.set_cons_zero, List.set_cons_succ, i64_w, i32_w]
            rfl
          refine take_ (i := 3) (N := some 34) (v := ?_) (a' := ?_) #[true, true, true, true, true, false, false] rfl rfl (by kernel_rfl) (fun _ _ _ h => h) (Or.inl ⟨by rfl, ?_⟩) hHeld ?_ ?_
          rotate_left
          · rintro w' ⟨s0, s1⟩
            go_simp
            with_reducible rfl
          rotate_left
          · simp only [Act.put, List.setIfInBounds_toArray, List.set_cons_zero, List.set_cons_succ, i64_w, i32_w]
            rfl
          refine take_ (i := 5) (N := some 36) (v := ?_) (a' := ?_) #[true, true, true, true, true, true, false] rfl rfl (by kernel_rfl) (fun _ _ _ h => h) (Or.inl ⟨by rfl, ?_⟩) hHeld ?_ ?_
          rotate_left
          · rintro w' ⟨s0, s1⟩
            go_simp
            with_reducible rfl
          rotate_left
          · simp only [Act.put, List.setIfInBounds_toArray, List.set_cons_zero, List.set_cons_succ, i64_w, i32_w]
            rfl
          refine last_ (i := 6) (N := none) #[true, true, true, true, true, true, true] rfl rfl (by kernel_rfl) (by decide) (fun K hK => ?_)
          obtain ⟨W7, hrun, hM7, hg7⟩ := hF2.out.hm.store (by have := hbnd.out; unfold maxLen; omega) hns.out 1
          refine skip_ (w1 := W7) (by rfl) rfl ?_ ?_
          · go_simp
          refine hK.out _ _ ?_
          clear hK K
          refine done_ (by kernel_rfl) ?_
          have hF7 := hF2.out.putH hM7 hg7
          rw [memI_upd] at hF7
          have hM7' := hM10.out.trans (Mod.of_grown hg7) (fun j _ hj => .inr (.inr (.inl hj)))
          have hbx7 := (hM7'.block W.heap.size (Array.getElem?_eq_some_iff.1 hbx9.out).1 hnb9.out).trans hbx9.out
          have hF3 : Aside0 (FS W7.drew w0.heap.size pb ab hb v na (nh + 1) (cnt B) (memI (out ++ [e.f1])) out) := ⟨hF7.below (below_drew1 (Below.refl _ _))⟩
          have K1'' : Aside0 (W7.drew.cell? ⟨W.heap.size, 1, none⟩ = some (.string e.f1)) := ⟨(blk_cell hbx7 1).trans rfl⟩
          have KV : Aside0 (W7.drew.cell? ⟨pb, 2, none⟩ = some v) := ⟨hF3.out.cells.2.2.1⟩
          have hM11 : Aside0 (Mod W9 W7.drew (FP pb ab hb v)) := ⟨hM7'.drew⟩
          have hS3 : Aside0 (w0.heap.size ≤ W7.drew.heap.size) := ⟨Nat.le_trans hsz9.out hM11.out.size⟩
          have hL3 : Aside0 ((out.length + 1) * 16 ≤ 140737488355328) := ⟨by have := hbnd.out; omega⟩
          clear hF7 hM7' hbx7 hM7 hg7 hrun K1' KH' hM10 hF2
          go_wp2
          refine start_ (n := 12) (S := fun w' => w'.cell? ⟨W.heap.size, 1, none⟩ = some (.string e.f1) ∧ w'.cell? ⟨pb, 2, none⟩ = some v) (ds := [11]) #[false, false, false, false, false, false, false, false, false, false, false, false] (by kernel_rfl) rfl rfl ⟨K1''.out, KV.out⟩ (fun hHeld => ?_)
          generalize W7.drew = W11 at *
          refine pure_ (i := 0) (N := some 37) (v := ?_) (a' := ?_) #[true, false, false, false, false, false, false, false, false, false, false, false] rfl rfl (by kernel_rfl) (fun _ _ _ h => h) (Or.inl ⟨by rfl, ?_⟩) ?_ ?_
          rotate_left
          · intro w'
            go_simp
            with_reducible rfl
          rotate_left
          · simp only [Act.put, List.setIfInBounds_toArray, List.set_cons_zero, List.set_cons_succ, i64_w, i32_w]
            rfl
          refine pure_ (i := 1) (N := some 38) (v := ?_) (a' := ?_) #[true, true, false, false, false, false, false, false, false, false, false, false] rfl rfl (by kernel_rfl) (fun _ _ _ h => h) (Or.inl ⟨by rfl, ?_⟩) ?_ ?_
          rotate_left
          · intro w'
            go_simp
            with_reducible rfl
          rotate_left
          · simp only [Act.put, List.setIfInBounds_toArray, List.set_cons_zero, List.set_cons_succ, i64_w, i32_w]
            rfl
          refine pure_ (i := 2) (N := some 39) (v := ?_) (a' := ?_) #[true, true, true, false, false, false, false, false, false, false, false, false] rfl rfl (by kernel_rfl) (fun _ _ _ h => h) (Or.inl ⟨by rfl, ?_⟩) ?_ ?_
          rotate_left
          · intro w'
            go_simp
            with_reducible rfl
          rotate_left
          · simp only [Act.put, List.setIfInBounds_toArray, List.set_cons_zero, List.set_cons_succ, i64_w, i32_w]
            rfl
          refine pure_ (i := 3) (N := some 40) (v := ?_) (a' := ?_) #[true, true, true, true, false, false, false, false, false, false, false, false] rfl rfl (by kernel_rfl) (fun _ _ _ h => h) (Or.inl ⟨by rfl, ?_⟩) ?_ ?_
          rotate_left
          · intro w'
            go_simp
            with_reducible rfl
          rotate_left
          · simp only [Act.put, List.setIfInBounds_toArray, List.set_cons_zero, List.set_cons_succ, i64_w, i32_w]
            rfl
          refine pure_ (i := 5) (N := some 42) (v := ?_) (a' := ?_) #[true, true, true, true, false, true, false, false, false, false, false, false] rfl rfl (by kernel_rfl) (fun _ _ _ h => h) (Or.inl ⟨by rfl, ?_⟩) ?_ ?_
          rotate_left
          · intro w'
            go_simp
            with_reducible rfl
          rotate_left
          · simp only [Act.put, List.setIfInBounds_toArray, List.set_cons_zero, List.set_cons_succ, i64_w, i32_w]
            rfl
          refine take_ (i := 4) (N := some 41) (v := ?_) (a' := ?_) #[true, true, true, true, true, true, false, false, false, false, false, false] rfl rfl (by kernel_rfl) (fun _ _ _ h => h) (Or.inl ⟨by rfl, ?_⟩) hHeld ?_ ?_
          rotate_left
          · rintro w' ⟨s0, s1⟩
            go_simp
            with_reducible rfl
          rotate_left
          · simp only [Act.put, List.setIfInBounds_toArray, List.set_cons_zero, List.set_cons_succ, i64_w, i32_w]
            rfl
          refine take_ (i := 6) (N := some 43) (v := ?_) (a' := ?_) #[true, true, true, true, true, true, true, false, false, false, false, false] rfl rfl (by kernel_rfl) (fun _ _ _ h => h) (Or.inl ⟨by rfl, ?_⟩) hHeld ?_ ?_
          rotate_left
          · rintro w' ⟨s0, s1⟩
            go_simp
            with_reducible rfl
          rotate_left
          · simp only [Act.put, List.setIfInBounds_toArray, List.set_cons_zero, List.set_cons_succ, i64_w, i32_w]
            rfl
          refine one_ (i := 7) (N := some 44) #[true, true, true, true, true, true, true, true, false, false, false, false] rfl rfl (by kernel_rfl) (by decide) (fun K hK => ?_)
          refine value_ (w1 := ?_) (v := ?_) (by rfl) rfl ?_ ?_
          rotate_left 2
          · go_simp
            constructor
            · rfl
            · rfl
          refine hK.out _ _ ⟨(World.cell?_alloc_lt _ _ _ (World.block_lt_of_cell? _ _ hHeld.1)).trans hHeld.1, (World.cell?_alloc_lt _ _ _ (World.block_lt_of_cell? _ _ hHeld.2)).trans hHeld.2⟩ (fun hHeld => ?_)
          clear hK K
          refine norm_ (a' := ?_) ?_ ?_
          rotate_left
          · show Act.put _ (some 44) _ = _
            simp only [Act.put, List.setIfInBounds_toArray, List.set_cons_zero, List.set_cons_succ, i64_w, i32_w]
            rfl
          refine one_ (i := 8) (N := some 45) #[true, true, true, true, true, true, true, true, true, false, false, false] rfl rfl (by kernel_rfl) (by decide) (fun K hK => ?_)
          refine Kd.R_append_step Kd.string (w0 := W11) w0.heap.size (by rfl) (.tmp 41) (.tmp 44) 22 9 (.string ⟨#[]⟩) 16 rfl Tryd.underlying22 inf9 rfl (by decide) (by decide) v out e.f1 [.string e.f1] (fun j => j ≠ pb ∧ j ≠ ab ∧ j ≠ hb) (fun _ => False) rfl rfl rfl (fun _ hk => hk.elim) ?aF ?aO ?aB ?aS ?aL ?_
          case aF => exact fun k hk => hF3.out.fresh hk
          case aO => exact hF3.out.row
          case aB => exact Below.refl _ _
          case aS => exact hS3.out
          case aL => exact hL3.out
          intro v3 w3 ho hb3 hg3 hat3
          obtain ⟨Ao, co, hv3⟩ := Kd.R_slice ho
          rw [List.length_append, List.length_singleton] at hv3
          subst hv3
          have hbk3 := (hg3.block pb (hF3.out.lt (.inl rfl)) (fun e => (hF3.out.row.1 pb e.symm).1 rfl)).trans hF3.out.blk
          have hfz3 := blk_frozen hbk3 2
          have hcz3 := (blk_cell hbk3 2).trans rfl
          have h1 := cell_own hg3 K1''.out (fun e => hbx3.out (.inr (.inr (.inr e.symm))))
          have h2 := cell_own hg3 KV.out (fun e => (hF3.out.row.1 pb e.symm).1 rfl)
          refine hK.out _ _ ⟨h1, h2⟩ (fun hHeld => ?_)
          clear hK K
          refine norm_ (a' := ?_) ?_ ?_
          rotate_left
          · show Act.put _ (some 45) _ = _
            simp only [Act.put, List.setIfInBounds_toArray, List.set_cons_zero, List.set_cons_succ, i64_w, i32_w]
            rfl
          refine pure_ (i := 9) (N := some 46) (v := ?_) (a' := ?_) #[true, true, true, true, true, true, true, true, true, true, false, false] rfl rfl (by kernel_rfl) (fun _ _ _ h => h) (Or.inl ⟨by rfl, ?_⟩) ?_ ?_
          rotate_left
          · intro w'
            go_simp
            with_reducible rfl
          rotate_left
          · simp only [Act.put, List.setIfInBounds_toArray, List.set_cons_zero, List.set_cons_succ, i64_w, i32_w]
            rfl
          refine pure_ (i := 10) (N := some 47) (v := ?_) (a' := ?_) #[true, true, true, true, true, true, true, true, true, true, true, false] rfl rfl (by kernel_rfl) (fun _ _ _ h => h) (Or.inl ⟨by rfl, ?_⟩) ?_ ?_
          rotate_left
          · intro w'
            go_simp
            with_reducible rfl
          rotate_left
          · simp only [Act.put, List.setIfInBounds_toArray, List.set_cons_zero, List.set_cons_succ, i64_w, i32_w]
            rfl
          refine last_ (i := 11) (N := none) #[true, true, true, true, true, true, true, true, true, true, true, true] rfl rfl (by kernel_rfl) (by decide) (fun K hK => ?_)
          refine skip_ (w1 := ?_) (by rfl) rfl ?_ ?_
          rotate_left
          · go_simp
            rfl
          refine hK.out _ _ ?_
          clear hK K
          refine done_ (by kernel_rfl) ?_
          have hFr : Aside0 (FS (w3.setCell ⟨pb, 2, none⟩ (.slice Ao (out.length + 1) co)) w0.heap.size pb ab hb (.slice Ao (out.length + 1) co) na (nh + 1) (cnt B) (memI (one e B out)) (one e B out)) := ⟨by rw [ho1.out]; exact hF3.out.put hS3.out ho hg3⟩
          have hMr : Aside0 (Mod W9 (w3.setCell ⟨pb, 2, none⟩ (.slice Ao (out.length + 1) co)) (FP pb ab hb v)) := ⟨(hM11.out.trans (Mod.of_own hg3) (fun j _ hj => .inr (.inr (.inr hj)))).trans (Mod.of_set _ _ _) (fun j _ hj => .inl hj)⟩
          have hOr : Aside0 (∀ j, (Value.slice Ao (out.length + 1) co).ownBlock = some j → v.ownBlock = some j ∨ W9.heap.size ≤ j) := ⟨fun j hj => by
            rcases hat3 with hh | ⟨b3, hh, hle⟩
            · exact .inl (hh ▸ hj)
            · rw [hh] at hj
              injection hj with hj
              exact .inr (hj ▸ Nat.le_trans hM11.out.size hle)⟩
          have hBr : Aside0 (Below w0.heap.size w0 (w3.setCell ⟨pb, 2, none⟩ (.slice Ao (out.length + 1) co))) := ⟨hB9.out.trans (hMr.out.below hsz9.out (fun j _ hj => hF9.out.fge hj))⟩
          have hbxc := Aside0.mk ((hMr.out.block W.heap.size (Array.getElem?_eq_some_iff.1 hbx9.out).1 hnb9.out).trans hbx9.out)
          have hnh : Aside0 (nh + 1 ≤ nh + 1) := ⟨Nat.le_refl _⟩
          have hlen1 : Aside0 ((one e B out).length ≤ out.length + 1) := ⟨by rw [ho1.out]; simp⟩
          generalize w3.setCell ⟨pb, 2, none⟩ (.slice Ao (out.length + 1) co) = Wc at *
          clear ho hg3 hat3 hbk3 hfz3 hcz3 h1 h2 K1'' KV hM11 hS3 hL3 hF3 ho1 hbx3
          obtain ⟨hn1, bB, ba, bh, bo⟩ := hbnd.out
          have hceq := hcost.out
          have hx3 := (blk_cell hbxc.out 3).trans rfl
          have CB := bind_st hFr.out hMr.out hOr.out hBr.out e.f3 hC3.out hok3.out (c := c3) 1 (by decide) (addk_in e.f3 B) (by omega) (by omega)
          go_wp2_with (first | (go_at_call 55; go_loud (with_reducible refine CB.mono ?_); rintro r w2 ⟨rfl, hst2⟩; have HS2 := Aside0.mk hst2; have hx4 := (blk_cell (St.blk hst2 hbx9.out hnb9.out) 4).trans rfl; clear hst2 CB hx3))
          clear hx4
          go_loopg [55] (e.f4.length + 1) (fun kq v55 w' => ∃ (i : Nat) (o : List ByteArray) (ca ch : Nat), v55 = .int .i64 (i : Int) ∧ i + kq = e.f4.length + 1 ∧ 1 ≤ kq ∧ Aside0 (fxL (e.f4.drop i) (e.f3 ++ B) o = fxL e.f4 (e.f3 ++ B) (one e B out)) ∧ Aside0 (okL (e.f4.drop i) = true) ∧ Aside0 (St W9 w' w0.heap.size pb ab hb v (e.f3 ++ B) o ca ch) ∧ Aside0 (ca + costL (e.f4.drop i) ≤ na + e.f3.length + costL e.f4 ∧ ch + costL (e.f4.drop i) ≤ nh + 1 + costL e.f4 ∧ o.length + costL (e.f4.drop i) ≤ out.length + 1 + costL e.f4))
          case atStart => exact ⟨0, one e B out, na + e.f3.length, nh + 1, rfl, by omega, by omega, ⟨rfl⟩, hok4, ⟨HS2.out.mono (Nat.le_refl _) hnh.out⟩, ⟨by simp, by simp, by have := hlen1.out; simp only [List.drop_zero]; omega⟩⟩
          case round =>
            obtain ⟨i, o, ca, ch, rfl, hi, hk, hs, hol, hst, hbd⟩ := hrel
            by_cases hlt : i < e.f4.length
            · have hBw := hB9.out.trans (St.below hst.out hF9.out hsz9.out)
              obtain ⟨ad, X3, d3, X4, d4, X5, d5, rfl, hv0, hv1, hv2, hv3, hv4, hv5, g3, g4, g5⟩ := at_e hBw hC4.out i hlt
              have p0 : (0 : Int) ≤ (i : Int) := by omega
              have q0 : (i : Int) < (e.f4.length : Int) := by omega
              have q1 : decide ((i : Int) < (e.f4.length : Int)) = true := decide_eq_true q0
              have hdr := costL_drop hlt
              have hcl := costL_le hlt
              have hod := okL_drop hlt hol.out
              have hsd : Aside0 (fxL (e.f4.drop (i + 1)) (e.f3 ++ B) (fx e.f4[i] (e.f3 ++ B) o) = fxL e.f4 (e.f3 ++ B) (one e B out)) := ⟨by rw [← hs.out, List.drop_eq_getElem_cons hlt]; simp only [fxL]⟩
              have hfl := fx_len e.f4[i] (e.f3 ++ B) o
              have hb2 := hbd.out
              generalize e.f4[i] = x at *
              have hal := below_alloc (Below.refl wr.heap.size wr) (.cells #[.int .i64 x.f0, .string x.f1, .int .i64 x.f2, .slice X3 x.f3.length d3, .slice X4 x.f4.length d4, .slice X5 x.f5.length d5] 33)
              have CX := step_x (ih x (by omega)) hF9.out hB9.out hsz9.out (hst.out.alloc hal) hod.1 (by rw [List.length_append]; omega) (by omega) (by omega) (by omega) g3 g4 g5 d3 d4 d5
              have hbb := Aside0.mk (And.intro hdr (And.intro hfl hb2))
              have hod2 := Aside0.mk hod.2
              clear hBw g3 g4 g5 hdr hcl hod hfl hb2 hal hceq hn1 bB ba bh bo
              go_wp2_with (first | (go_at_call 38; go_loud (with_reducible refine CX.mono ?_); rintro r w3 ⟨rfl, hst3⟩; have HS3 := Aside0.mk hst3; clear hst3 CX))
              go_roundg (gk - 1)
              case measure => omega
              case rel => exact ⟨i + 1, fx x (e.f3 ++ B) o, ca + cost x, ch + cost x, by go_num, by omega, by omega, hsd, hod2, HS3, ⟨by have := hbb.out; omega, by have := hbb.out; omega, by have := hbb.out; omega⟩⟩
            · have q1 : decide ((i : Int) < (e.f4.length : Int)) = false := decide_eq_false (by omega)
              have hd0 : e.f4.drop i = [] := List.drop_eq_nil_of_le (by omega)
              have hso : o = fxL e.f4 (e.f3 ++ B) (one e B out) := by rw [← hs.out, hd0]; simp only [fxL]
              have hb2 := hbd.out
              rw [hd0] at hb2
              simp only [costL, Nat.add_zero] at hb2
              have hBw := hB9.out.trans (St.below hst.out hF9.out hsz9.out)
              have hx3 := (blk_cell (St.blk hst.out hbx9.out hnb9.out) 3).trans rfl
              have CB := step_b hF9.out hB9.out hsz9.out e.f3 hst.out hC3.out hok3.out c3 (by rw [List.length_append]; omega) (by omega)
              have hb3 := Aside0.mk hb2
              clear hbd hb2 hd0 hBw hs hol hst hceq hn1 bB ba bh bo
              go_wp2_with (first | (go_at_call 55; go_loud (with_reducible refine CB.mono ?_); rintro r w4 ⟨rfl, hst4⟩; have HS4 := Aside0.mk hst4; have hx5 := (blk_cell (St.blk hst4 hbx9.out hnb9.out) 5).trans rfl; clear hst4 CB hx3))
              clear hx5
              go_loopg [70] (e.f5.length + 1) (fun kq v70 w' => ∃ (i : Nat) (o2 : List ByteArray) (ca3 ch3 : Nat), v70 = .int .i64 (i : Int) ∧ i + kq = e.f5.length + 1 ∧ 1 ≤ kq ∧ Aside0 (fxA (e.f5.drop i) B o2 = fxA e.f5 B o) ∧ Aside0 (okA (e.f5.drop i) = true) ∧ Aside0 (St W9 w' w0.heap.size pb ab hb v B o2 ca3 ch3) ∧ Aside0 (ca3 + costA (e.f5.drop i) ≤ ca + e.f3.length + costA e.f5 ∧ ch3 + costA (e.f5.drop i) ≤ ch + costA e.f5 ∧ o2.length + costA (e.f5.drop i) ≤ o.length + costA e.f5))
              case atStart => exact ⟨0, o, ca + e.f3.length, ch, rfl, by omega, by omega, ⟨rfl⟩, hok5, HS4, ⟨by simp, by simp, by simp⟩⟩
              case round =>
                obtain ⟨i3, o2, ca3, ch3, rfl, hi3, hk3, hs3, hol3, hst3, hbd3⟩ := hrel
                by_cases hlt3 : i3 < e.f5.length
                · have hBw := hB9.out.trans (St.below hst3.out hF9.out hsz9.out)
                  obtain ⟨ad, Y3, d3, X3, e3, X4, e4, X5, e5, rfl, hv0, hv1, hv2, hv3, hv4, hv5, hv6, hv7, hv8, hv9, g3, g4, g5, g6⟩ := at_a hBw hC5.out i3 hlt3
                  have p0 : (0 : Int) ≤ (i3 : Int) := by omega
                  have q0 : (i3 : Int) < (e.f5.length : Int) := by omega
                  have q1 : decide ((i3 : Int) < (e.f5.length : Int)) = true := decide_eq_true q0
                  have hdr := costA_drop hlt3
                  have hcl := costA_le hlt3
                  have hod := okA_drop hlt3 hol3.out
                  have hsd : Aside0 (fxA (e.f5.drop (i3 + 1)) B (fx e.f5[i3].f4 (e.f5[i3].f3 ++ B) o2) = fxA e.f5 B o) := ⟨by rw [← hs3.out, List.drop_eq_getElem_cons hlt3, fxA_cons]⟩
                  have hfl := fx_len e.f5[i3].f4 (e.f5[i3].f3 ++ B) o2
                  have hb2 := hbd3.out
                  generalize e.f5[i3] = a at *
                  obtain ⟨v5, na5, nh5, hF5, hM5, hO5, h5a, h5h⟩ := hst3.out
                  have hal := below_alloc (Below.refl wr.heap.size wr) (.cells #[.int .i64 a.f0, .string a.f1, .int .i64 a.f2, .slice Y3 a.f3.length d3, .int .i64 a.f4.f0, .string a.f4.f1, .int .i64 a.f4.f2, .slice X3 a.f4.f3.length e3, .slice X4 a.f4.f4.length e4, .slice X5 a.f4.f5.length e5] 40)
                  have hBs : w0.heap.size ≤ wr.heap.size := hBw.size
                  have hMa := hM5.trans (Mod.of_below hal (FP pb ab hb v)) (fun _ _ hj => hj)
                  have hFa := hF5.below hal
                  have hBa := hBw.trans (hal.mono hBs)
                  obtain ⟨hn1, bB, ba, bh, bo⟩ := hbnd.out
                  have hceq := hcost.out
                  have hb30 := hb3.out
                  have C1 := bind_st hFa (Mod.refl _ (FP pb ab hb v5)) (fun j hj => .inl hj) hBa a.f3 g3 hod.1.1 (c := d3) 1 (by decide) (addk_in a.f3 B) (by omega) (by omega)
                  have hbk : (wr.alloc (.cells #[.int .i64 a.f0, .string a.f1, .int .i64 a.f2, .slice Y3 a.f3.length d3, .int .i64 a.f4.f0, .string a.f4.f1, .int .i64 a.f4.f2, .slice X3 a.f4.f3.length e3, .slice X4 a.f4.f4.length e4, .slice X5 a.f4.f5.length e5] 40)).heap[wr.heap.size]? = some (.cells #[.int .i64 a.f0, .string a.f1, .int .i64 a.f2, .slice Y3 a.f3.length d3, .int .i64 a.f4.f0, .string a.f4.f1, .int .i64 a.f4.f2, .slice X3 a.f4.f3.length e3, .slice X4 a.f4.f4.length e4, .slice X5 a.f4.f5.length e5] 40 (0, 0)) := blk_new wr _
                  have hnk : ¬ FP pb ab hb v5 wr.heap.size := fun hh => by have := hF5.lt hh; omega
                  have hsa : w0.heap.size ≤ (wr.alloc (.cells #[.int .i64 a.f0, .string a.f1, .int .i64 a.f2, .slice Y3 a.f3.length d3, .int .i64 a.f4.f0, .string a.f4.f1, .int .i64 a.f4.f2, .slice X3 a.f4.f3.length e3, .slice X4 a.f4.f4.length e4, .slice X5 a.f4.f5.length e5] 40)).heap.size := Nat.le_trans hBs hal.size
                  have hMa := Aside0.mk hMa
                  have hFa := Aside0.mk hFa
                  have hBa := Aside0.mk hBa
                  have hO5 := Aside0.mk hO5
                  have hbk := Aside0.mk hbk
                  have hnk := Aside0.mk hnk
                  have hsa := Aside0.mk hsa
                  have hg := Aside0.mk (And.intro g3 (And.intro g4 (And.intro g5 g6)))
                  have hod := Aside0.mk hod
                  have hbb := Aside0.mk (And.intro hcl (And.intro hdr (And.intro hfl (And.intro hb2 (And.intro hb3.out (And.intro h5a (And.intro h5h (And.intro hcost.out hbnd.out))))))))
                  clear hBw g3 g4 g5 g6 hdr hcl hfl hb2 hF5 hM5 hal hBs h5a h5h hn1 bB ba bh bo hceq hb30
                  go_wp2_with (first | (go_at_call 55; go_loud (with_reducible refine C1.mono ?_); rintro r w5 ⟨rfl, hst5⟩; have HT5 := Aside0.mk hst5; have hw5 := St.blk hst5 hbk.out hnk.out; have hy4 := (blk_cell hw5 4).trans rfl; have hy5 := (blk_cell hw5 5).trans rfl; have hy6 := (blk_cell hw5 6).trans rfl; have hy7 := (blk_cell hw5 7).trans rfl; have hy8 := (blk_cell hw5 8).trans rfl; have hy9 := (blk_cell hw5 9).trans rfl; clear hst5 C1 hw5 hv0 hv1 hv2 hv3 hv4 hv5 hv6 hv7 hv8 hv9; have C2 := step_x (ih a.f4 (by have := hbb.out; omega)) hFa.out hBa.out hsa.out HT5.out hod.out.1.2 (by have := hbb.out; rw [List.length_append]; omega) (by have := hbb.out; omega) (by have := hbb.out; omega) (by have := hbb.out; omega) hg.out.2.1 hg.out.2.2.1 hg.out.2.2.2 e3 e4 e5) | (go_at_call 38; go_loud (with_reducible refine C2.mono ?_); rintro r w6 ⟨rfl, hst6⟩; have HT6 := Aside0.mk hst6; have hz3 := (blk_cell (St.blk hst6 hbk.out hnk.out) 3).trans rfl; clear hst6 C2 hy4 hy5 hy6 hy7 hy8 hy9; have C3 := step_b hFa.out hBa.out hsa.out a.f3 HT6.out hg.out.1 hod.out.1.1 d3 (by have := hbb.out; rw [List.length_append]; omega) (by have := hbb.out; omega)) | (go_at_call 55; go_loud (with_reducible refine C3.mono ?_); rintro r w7 ⟨rfl, hst7⟩; have HT7 := Aside0.mk (St.comp hMa.out hO5.out hst7); clear hst7 C3 hz3))
                  go_roundg (gk - 1)
                  case measure => omega
                  case rel => exact ⟨i3 + 1, fx a.f4 (a.f3 ++ B) o2, na5 + a.f3.length + cost a.f4 + a.f3.length, nh5 + cost a.f4, by go_num, by omega, by omega, hsd, ⟨hod.out.2⟩, HT7, ⟨by have := hbb.out; omega, by have := hbb.out; omega, by have := hbb.out; omega⟩⟩
                · have q1 : decide ((i3 : Int) < (e.f5.length : Int)) = false := decide_eq_false (by omega)
                  have hd0 : e.f5.drop i3 = [] := List.drop_eq_nil_of_le (by omega)
                  have hso3 : o2 = fxA e.f5 B o := by rw [← hs3.out, hd0]; simp only [fxA]
                  have hb4 := hbd3.out
                  rw [hd0] at hb4
                  simp only [costA, Nat.add_zero] at hb4
                  have hfin : Aside0 (St W wr w0.heap.size pb ab hb v B (fx e B out) (na + cost e) (nh + cost e)) := ⟨by
                    rw [hone.out, ← hso, ← hso3]
                    exact (St.comp (Mod.of_below hbl9.out _) (fun j hj => .inl hj) hst3.out).mono (by have := hb3.out; have := hcost.out; omega) (by have := hb3.out; have := hcost.out; omega)⟩
                  go_wp2
                  refine bodyPost_end (v := .tuple #[]) (by simp [results, Tryd.results38, go_sem]) rfl ?_
                  exact ⟨rfl, hfin.out⟩
        · have q3 : (memI out e.f1 == 0) = false := by
            have y3' : isIn out e.f1 = true := by simpa using y3
            unfold memI; rw [y3']; rfl
          refine start_ (n := 23) (S := fun w' => w'.cell? ⟨W.heap.size, 0, none⟩ = some (.int .i64 e.f0) ∧ w'.cell? ⟨W.heap.size, 1, none⟩ = some (.string e.f1) ∧ w'.cell? ⟨pb, 0, none⟩ = some (.map (some ab)) ∧ (Instr.lookup 59 (.map (some ab)) (.string e.f1) false).run Tryd.prog w' = .ok (.int .i64 (cnt B e.f1)) w' ∧ w'.cell? ⟨pb, 1, none⟩ = some (.map (some hb)) ∧ (Instr.lookup 59 (.map (some hb)) (.string e.f1) false).run Tryd.prog w' = .ok (.int .i64 (memI out e.f1)) w') (ds := []) #[false, false, false, false, false, false, false, false, false, false, false, false, false, false, false, false, false, false, false, false, false, false, false] (by kernel_rfl) rfl rfl ⟨K0.out, K1.out, KA.out, KL.out, KH.out, KM.out⟩ (fun hHeld => ?_)
          generalize (W.alloc (.cells #[.int .i64 e.f0, .string e.f1, .int .i64 e.f2, .slice A3 e.f3.length c3, .slice A4 e.f4.length c4, .slice A5 e.f5.length c5] 33)).drew = W9 at *
          refine pure_ (i := 0) (N := some 8) (v := ?_) (a' := ?_) #[true, false, false, false, false, false, false, false, false, false, false, false, false, false, false, false, false, false, false, false, false, false, false] rfl rfl (by kernel_rfl) (fun _ _ _ h => h) (Or.inl ⟨by rfl, ?_⟩) ?_ ?_
          rotate_left
          · intro w'
            go_simp
            with_reducible rfl
          rotate_left
          · simp only [Act.put, List.setIfInBounds_toArray, List.set_cons_zero, List.set_cons_succ, i64_w, i32_w]
            rfl
          refine take_ (i := 1) (N := some 9) (v := ?_) (a' := ?_) #[true, true, false, false, false, false, false, false, false, false, false, false, false, false, false, false, false, false, false, false, false, false, false] rfl rfl (by kernel_rfl) (fun _ _ _ h => h) (Or.inl ⟨by rfl, ?_⟩) hHeld ?_ ?_
          rotate_left
          · rintro w' ⟨s0, s1, s2, s3, s4, s5⟩
            go_simp
            with_reducible rfl
          rotate_left
          · simp only [Act.put, List.setIfInBounds_toArray, List.set_cons_zero, List.set_cons_succ, i64_w, i32_w]
            rfl
          refine pure_ (i := 2) (N := some 10) (v := ?_) (a' := ?_) #[true, true, true, false, false, false, false, false, false, false, false, false, false, false, false, false, false, false, false, false, false, false, false] rfl rfl (by kernel_rfl) (fun _ _ _ h => h) (Or.inl ⟨by rfl, ?_⟩) ?_ ?_
          rotate_left
          · intro w'
            go_simp
            with_reducible rfl
          rotate_left
          · simp only [Act.put, List.setIfInBounds_toArray, List.set_cons_zero, List.set_cons_succ, i64_w, i32_w]
            rfl
          refine pure_ (i := 3) (N := some 11) (v := ?_) (a' := ?_) #[true, true, true, true, false, false, false, false, false, false, false, false, false, false, false, false, false, false, false, false, false, false, false] rfl rfl (by kernel_rfl) (fun _ _ _ h => h) (Or.inl ⟨by rfl, ?_⟩) ?_ ?_
          rotate_left
          · intro w'
            go_simp
            with_reducible rfl
          rotate_left
          · simp only [Act.put, List.setIfInBounds_toArray, List.set_cons_zero, List.set_cons_succ, i64_w, i32_w]
            rfl
          refine pure_ (i := 4) (N := some 12) (v := ?_) (a' := ?_) #[true, true, true, true, true, false, false, false, false, false, false, false, false, false, false, false, false, false, false, false, false, false, false] rfl rfl (by kernel_rfl) (fun _ _ _ h => h) (Or.inl ⟨by rfl, ?_⟩) ?_ ?_
          rotate_left
          · intro w'
            go_simp
            with_reducible rfl
          rotate_left
          · simp only [Act.put, List.setIfInBounds_toArray, List.set_cons_zero, List.set_cons_succ, i64_w, i32_w]
            rfl
          refine pure_ (i := 5) (N := some 13) (v := ?_) (a' := ?_) #[true, true, true, true, true, true, false, false, false, false, false, false, false, false, false, false, false, false, false, false, false, false, false] rfl rfl (by kernel_rfl) (fun _ _ _ h => h) (Or.inl ⟨by rfl, ?_⟩) ?_ ?_
          rotate_left
          · intro w'
            go_simp
            with_reducible rfl
          rotate_left
          · simp only [Act.put, List.setIfInBounds_toArray, List.set_cons_zero, List.set_cons_succ, i64_w, i32_w]
            rfl
          refine pure_ (i := 6) (N := some 14) (v := ?_) (a' := ?_) #[true, true, true, true, true, true, true, false, false, false, false, false, false, false, false, false, false, false, false, false, false, false, false] rfl rfl (by kernel_rfl) (fun _ _ _ h => h) (Or.inl ⟨by rfl, ?_⟩) ?_ ?_
          rotate_left
          · intro w'
            go_simp
            with_reducible rfl
          rotate_left
          · simp only [Act.put, List.setIfInBounds_toArray, List.set_cons_zero, List.set_cons_succ, i64_w, i32_w]
            rfl
          refine pure_ (i := 8) (N := some 16) (v := ?_) (a' := ?_) #[true, true, true, true, true, true, true, false, true, false, false, false, false, false, false, false, false, false, false, false, false, false, false] rfl rfl (by kernel_rfl) (fun _ _ _ h => h) (Or.inl ⟨by rfl, ?_⟩) ?_ ?_
          rotate_left
          · intro w'
            go_simp
            with_reducible rfl
          rotate_left
          · simp only [Act.put, List.setIfInBounds_toArray, List.set_cons_zero, List.set_cons_succ, i64_w, i32_w]
            rfl
          refine take_ (i := 7) (N := some 15) (v := ?_) (a' := ?_) #[true, true, true, true, true, true, true, true, true, false, false, false, false, false, false, false, false, false, false, false, false, false, false] rfl rfl (by kernel_rfl) (fun _ _ _ h => h) (Or.inl ⟨by rfl, ?_⟩) hHeld ?_ ?_
          rotate_left
          · rintro w' ⟨s0, s1, s2, s3, s4, s5⟩
            go_simp
            with_reducible rfl
          rotate_left
          · simp only [Act.put, List.setIfInBounds_toArray, List.set_cons_zero, List.set_cons_succ, i64_w, i32_w]
            rfl
          refine take_ (i := 9) (N := some 17) (v := ?_) (a' := ?_) #[true, true, true, true, true, true, true, true, true, true, false, false, false, false, false, false, false, false, false, false, false, false, false] rfl rfl (by kernel_rfl) (fun _ _ _ h => h) (Or.inl ⟨by rfl, ?_⟩) hHeld ?_ ?_
          rotate_left
          · rintro w' ⟨s0, s1, s2, s3, s4, s5⟩
            go_simp
            with_reducible rfl
          rotate_left
          · simp only [Act.put, List.setIfInBounds_toArray, List.set_cons_zero, List.set_cons_succ, i64_w, i32_w]
            rfl
          refine take_ (i := 10) (N := some 18) (v := ?_) (a' := ?_) #[true, true, true, true, true, true, true, true, true, true, true, false, false, false, false, false, false, false, false, false, false, false, false] rfl rfl (by kernel_rfl) (fun _ _ _ h => h) (Or.inl ⟨by rfl, ?_⟩) hHeld ?_ ?_
          rotate_left
          · rintro w' ⟨s0, s1, s2, s3, s4, s5⟩
            go_simp
            with_reducible rfl
          rotate_left
          · simp only [Act.put, List.setIfInBounds_toArray, List.set_cons_zero, List.set_cons_succ, i64_w, i32_w]
            rfl
          refine pure_ (i := 11) (N := some 19) (v := ?_) (a' := ?_) #[true, true, true, true, true, true, true, true, true, true, true, true, false, false, false, false, false, false, false, false, false, false, false] rfl rfl (by kernel_rfl) (fun _ _ _ h => h) (Or.inl ⟨by rfl, ?_⟩) ?_ ?_
          rotate_left
          · intro w'
            go_simp
            with_reducible rfl
          rotate_left
          · simp only [Act.put, List.setIfInBounds_toArray, List.set_cons_zero, List.set_cons_succ, i64_w, i32_w]
            rfl
          refine pure_ (i := 12) (N := some 20) (v := ?_) (a' := ?_) #[true, true, true, true, true, true, true, true, true, true, true, true, true, false, false, false, false, false, false, false, false, false, false] rfl rfl (by kernel_rfl) (fun _ _ _ h => h) (Or.inl ⟨by rfl, ?_⟩) ?_ ?_
          rotate_left
          · intro w'
            go_simp
            with_reducible rfl
          rotate_left
          · simp only [Act.put, List.setIfInBounds_toArray, List.set_cons_zero, List.set_cons_succ, i64_w, i32_w]
            rfl
          refine pure_ (i := 13) (N := some 21) (v := ?_) (a' := ?_) #[true, true, true, true, true, true, true, true, true, true, true, true, true, true, false, false, false, false, false, false, false, false, false] rfl rfl (by kernel_rfl) (fun _ _ _ h => h) (Or.inl ⟨by rfl, ?_⟩) ?_ ?_
          rotate_left
          · intro w'
            go_simp
            with_reducible rfl
          rotate_left
          · simp only [Act.put, List.setIfInBounds_toArray, List.set_cons_zero, List.set_cons_succ, i64_w, i32_w]
            rfl
          refine pure_ (i := 14) (N := some 22) (v := ?_) (a' := ?_) #[true, true, true, true, true, true, true, true, true, true, true, true, true, true, true, false, false, false, false, false, false, false, false] rfl rfl (by kernel_rfl) (fun _ _ _ h => h) (Or.inl ⟨by rfl, ?_⟩) ?_ ?_
          rotate_left
          · intro w'
            go_simp
            with_reducible rfl
          rotate_left
          · simp only [Act.put, List.setIfInBounds_toArray, List.set_cons_zero, List.set_cons_succ, i64_w, i32_w]
            rfl
          refine pure_ (i := 15) (N := some 23) (v := ?_) (a' := ?_) #[true, true, true, true, true, true, true, true, true, true, true, true, true, true, true, true, false, false, false, false, false, false, false] rfl rfl (by kernel_rfl) (fun _ _ _ h => h) (Or.inl ⟨by rfl, ?_⟩) ?_ ?_
          rotate_left
          · intro w'
            go_simp
            with_reducible rfl
          rotate_left
          · simp only [Act.put, List.setIfInBounds_toArray, List.set_cons_zero, List.set_cons_succ, i64_w, i32_w]
            rfl
          refine pure_ (i := 16) (N := some 24) (v := ?_) (a' := ?_) #[true, true, true, true, true, true, true, true, true, true, true, true, true, true, true, true, true, false, false, false, false, false, false] rfl rfl (by kernel_rfl) (fun _ _ _ h => h) (Or.inl ⟨by rfl, ?_⟩) ?_ ?_
          rotate_left
          · intro w'
            go_simp
            with_reducible rfl
          rotate_left
          · simp only [Act.put, List.setIfInBounds_toArray, List.set_cons_zero, List.set_cons_succ, i64_w, i32_w]
            rfl
          refine pure_ (i := 18) (N := some 26) (v := ?_) (a' := ?_) #[true, true, true, true, true, true, true, true, true, true, true, true, true, true, true, true, true, false, true, false, false, false, false] rfl rfl (by kernel_rfl) (fun _ _ _ h => h) (Or.inl ⟨by rfl, ?_⟩) ?_ ?_
          rotate_left
          · intro w'
            go_simp
            with_reducible rfl
          rotate_left
          · simp only [Act.put, List.setIfInBounds_toArray, List.set_cons_zero, List.set_cons_succ, i64_w, i32_w]
            rfl
          refine take_ (i := 17) (N := some 25) (v := ?_) (a' := ?_) #[true, true, true, true, true, true, true, true, true, true, true, true, true, true, true, true, true, true, true, false, false, false, false] rfl rfl (by kernel_rfl) (fun _ _ _ h => h) (Or.inl ⟨by rfl, ?_⟩) hHeld ?_ ?_
          rotate_left
          · rintro w' ⟨s0, s1, s2, s3, s4, s5⟩
            go_simp
            with_reducible rfl
          rotate_left
          · simp only [Act.put, List.setIfInBounds_toArray, List.set_cons_zero, List.set_cons_succ, i64_w, i32_w]
            rfl
          refine take_ (i := 19) (N := some 27) (v := ?_) (a' := ?_) #[true, true, true, true, true, true, true, true, true, true, true, true, true, true, true, true, true, true, true, true, false, false, false] rfl rfl (by kernel_rfl) (fun _ _ _ h => h) (Or.inl ⟨by rfl, ?_⟩) hHeld ?_ ?_
          rotate_left
          · rintro w' ⟨s0, s1, s2, s3, s4, s5⟩
            go_simp
            with_reducible rfl
          rotate_left
          · simp only [Act.put, List.setIfInBounds_toArray, List.set_cons_zero, List.set_cons_succ, i64_w, i32_w]
            rfl
          refine take_ (i := 20) (N := some 28) (v := ?_) (a' := ?_) #[true, true, true, true, true, true, true, true, true, true, true, true, true, true, true, true, true, true, true, true, true, false, false] rfl rfl (by kernel_rfl) (fun _ _ _ h => h) (Or.inl ⟨by rfl, ?_⟩) hHeld ?_ ?_
          rotate_left
          · rintro w' ⟨s0, s1, s2, s3, s4, s5⟩
            go_simp
            with_reducible rfl
          rotate_left
          · simp only [Act.put, List.setIfInBounds_toArray, List.set_cons_zero, List.set_cons_succ, i64_w, i32_w]
            rfl
          refine pure_ (i := 21) (N := some 29) (v := ?_) (a' := ?_) #[true, true, true, true, true, true, true, true, true, true, true, true, true, true, true, true, true, true, true, true, true, true, false] rfl rfl (by kernel_rfl) (fun _ _ _ h => h) (Or.inl ⟨by rfl, ?_⟩) ?_ ?_
          rotate_left
          · intro w'
            go_simp
            with_reducible rfl
          rotate_left
          · simp only [Act.put, List.setIfInBounds_toArray, List.set_cons_zero, List.set_cons_succ, i64_w, i32_w]
            rfl
          refine pure_ (i := 22) (N := some 30) (v := ?_) (a' := ?_) #[true, true, true, true, true, true, true, true, true, true, true, true, true, true, true, true, true, true, true, true, true, true, true] rfl rfl (by kernel_rfl) (fun _ _ _ h => h) (Or.inl ⟨by rfl, ?_⟩) ?_ ?_
          rotate_left
          · intro w'
            go_simp
            with_reducible rfl
          rotate_left
          · simp only [Act.put, List.setIfInBounds_toArray, List.set_cons_zero, List.set_cons_succ, i64_w, i32_w]
            rfl
          refine done_ (by kernel_rfl) ?_
          have hF9 := hF1
          have hB9 := hB1
          have hbl9 := hbl
          have hbx9 := hbx
          have hnb9 := hnb
          have hsz9 : Aside0 (w0.heap.size ≤ W9.heap.size) := ⟨hB9.out.size⟩
          have ho1 : one e B out = out := by unfold one; rw [if_neg (by intro h; exact y3 h.2.2)]
          have hFr : Aside0 (FS W9 w0.heap.size pb ab hb v na nh (cnt B) (memI (one e B out)) (one e B out)) := ⟨by rw [ho1]; exact hF9.out⟩
          have hMr := Aside0.mk (Mod.refl W9 (FP pb ab hb v))
          have hOr : Aside0 (∀ j, v.ownBlock = some j → v.ownBlock = some j ∨ W9.heap.size ≤ j) := ⟨fun j hj => .inl hj⟩
          have hBr := hB9
          have hbxc := hbx9
          have hnh : Aside0 (nh ≤ nh + 1) := ⟨Nat.le_succ _⟩
          have hlen1 : Aside0 ((one e B out).length ≤ out.length + 1) := ⟨by rw [ho1]; omega⟩
          clear hF1 hB1 hbl hbx hnb hsz K0 K1 KA KH KL KM ho1
          clear hHeld
          obtain ⟨hn1, bB, ba, bh, bo⟩ := hbnd.out
          have hceq := hcost.out
          have hx3 := (blk_cell hbxc.out 3).trans rfl
          have CB := bind_st hFr.out hMr.out hOr.out hBr.out e.f3 hC3.out hok3.out (c := c3) 1 (by decide) (addk_in e.f3 B) (by omega) (by omega)
          go_wp2_with (first | (go_at_call 55; go_loud (with_reducible refine CB.mono ?_); rintro r w2 ⟨rfl, hst2⟩; have HS2 := Aside0.mk hst2; have hx4 := (blk_cell (St.blk hst2 hbx9.out hnb9.out) 4).trans rfl; clear hst2 CB hx3))
          clear hx4
          go_loopg [55] (e.f4.length + 1) (fun kq v55 w' => ∃ (i : Nat) (o : List ByteArray) (ca ch : Nat), v55 = .int .i64 (i : Int) ∧ i + kq = e.f4.length + 1 ∧ 1 ≤ kq ∧ Aside0 (fxL (e.f4.drop i) (e.f3 ++ B) o = fxL e.f4 (e.f3 ++ B) (one e B out)) ∧ Aside0 (okL (e.f4.drop i) = true) ∧ Aside0 (St W9 w' w0.heap.size pb ab hb v (e.f3 ++ B) o ca ch) ∧ Aside0 (ca + costL (e.f4.drop i) ≤ na + e.f3.length + costL e.f4 ∧ ch + costL (e.f4.drop i) ≤ nh + 1 + costL e.f4 ∧ o.length + costL (e.f4.drop i) ≤ out.length + 1 + costL e.f4))
          case atStart => exact ⟨0, one e B out, na + e.f3.length, nh + 1, rfl, by omega, by omega, ⟨rfl⟩, hok4, ⟨HS2.out.mono (Nat.le_refl _) hnh.out⟩, ⟨by simp, by simp, by have := hlen1.out; simp only [List.drop_zero]; omega⟩⟩
          case round =>
            obtain ⟨i, o, ca, ch, rfl, hi, hk, hs, hol, hst, hbd⟩ := hrel
            by_cases hlt : i < e.f4.length
            · have hBw := hB9.out.trans (St.below hst.out hF9.out hsz9.out)
              obtain ⟨ad, X3, d3, X4, d4, X5, d5, rfl, hv0, hv1, hv2, hv3, hv4, hv5, g3, g4, g5⟩ := at_e hBw hC4.out i hlt
              have p0 : (0 : Int) ≤ (i : Int) := by omega
              have q0 : (i : Int) < (e.f4.length : Int) := by omega
              have q1 : decide ((i : Int) < (e.f4.length : Int)) = true := decide_eq_true q0
              have hdr := costL_drop hlt
              have hcl := costL_le hlt
              have hod := okL_drop hlt hol.out
              have hsd : Aside0 (fxL (e.f4.drop (i + 1)) (e.f3 ++ B) (fx e.f4[i] (e.f3 ++ B) o) = fxL e.f4 (e.f3 ++ B) (one e B out)) := ⟨by rw [← hs.out, List.drop_eq_getElem_cons hlt]; simp only [fxL]⟩
              have hfl := fx_len e.f4[i] (e.f3 ++ B) o
              have hb2 := hbd.out
              generalize e.f4[i] = x at *
              have hal := below_alloc (Below.refl wr.heap.size wr) (.cells #[.int .i64 x.f0, .string x.f1, .int .i64 x.f2, .slice X3 x.f3.length d3, .slice X4 x.f4.length d4, .slice X5 x.f5.length d5] 33)
              have CX := step_x (ih x (by omega)) hF9.out hB9.out hsz9.out (hst.out.alloc hal) hod.1 (by rw [List.length_append]; omega) (by omega) (by omega) (by omega) g3 g4 g5 d3 d4 d5
              have hbb := Aside0.mk (And.intro hdr (And.intro hfl hb2))
              have hod2 := Aside0.mk hod.2
              clear hBw g3 g4 g5 hdr hcl hod hfl hb2 hal hceq hn1 bB ba bh bo
              go_wp2_with (first | (go_at_call 38; go_loud (with_reducible refine CX.mono ?_); rintro r w3 ⟨rfl, hst3⟩; have HS3 := Aside0.mk hst3; clear hst3 CX))
              go_roundg (gk - 1)
              case measure => omega
              case rel => exact ⟨i + 1, fx x (e.f3 ++ B) o, ca + cost x, ch + cost x, by go_num, by omega, by omega, hsd, hod2, HS3, ⟨by have := hbb.out; omega, by have := hbb.out; omega, by have := hbb.out; omega⟩⟩
            · have q1 : decide ((i : Int) < (e.f4.length : Int)) = false := decide_eq_false (by omega)
              have hd0 : e.f4.drop i = [] := List.drop_eq_nil_of_le (by omega)
              have hso : o = fxL e.f4 (e.f3 ++ B) (one e B out) := by rw [← hs.out, hd0]; simp only [fxL]
              have hb2 := hbd.out
              rw [hd0] at hb2
              simp only [costL, Nat.add_zero] at hb2
              have hBw := hB9.out.trans (St.below hst.out hF9.out hsz9.out)
              have hx3 := (blk_cell (St.blk hst.out hbx9.out hnb9.out) 3).trans rfl
              have CB := step_b hF9.out hB9.out hsz9.out e.f3 hst.out hC3.out hok3.out c3 (by rw [List.length_append]; omega) (by omega)
              have hb3 := Aside0.mk hb2
              clear hbd hb2 hd0 hBw hs hol hst hceq hn1 bB ba bh bo
              go_wp2_with (first | (go_at_call 55; go_loud (with_reducible refine CB.mono ?_); rintro r w4 ⟨rfl, hst4⟩; have HS4 := Aside0.mk hst4; have hx5 := (blk_cell (St.blk hst4 hbx9.out hnb9.out) 5).trans rfl; clear hst4 CB hx3))
              clear hx5
              go_loopg [70] (e.f5.length + 1) (fun kq v70 w' => ∃ (i : Nat) (o2 : List ByteArray) (ca3 ch3 : Nat), v70 = .int .i64 (i : Int) ∧ i + kq = e.f5.length + 1 ∧ 1 ≤ kq ∧ Aside0 (fxA (e.f5.drop i) B o2 = fxA e.f5 B o) ∧ Aside0 (okA (e.f5.drop i) = true) ∧ Aside0 (St W9 w' w0.heap.size pb ab hb v B o2 ca3 ch3) ∧ Aside0 (ca3 + costA (e.f5.drop i) ≤ ca + e.f3.length + costA e.f5 ∧ ch3 + costA (e.f5.drop i) ≤ ch + costA e.f5 ∧ o2.length + costA (e.f5.drop i) ≤ o.length + costA e.f5))
              case atStart => exact ⟨0, o, ca + e.f3.length, ch, rfl, by omega, by omega, ⟨rfl⟩, hok5, HS4, ⟨by simp, by simp, by simp⟩⟩
              case round =>
                obtain ⟨i3, o2, ca3, ch3, rfl, hi3, hk3, hs3, hol3, hst3, hbd3⟩ := hrel
                by_cases hlt3 : i3 < e.f5.length
                · have hBw := hB9.out.trans (St.below hst3.out hF9.out hsz9.out)
                  obtain ⟨ad, Y3, d3, X3, e3, X4, e4, X5, e5, rfl, hv0, hv1, hv2, hv3, hv4, hv5, hv6, hv7, hv8, hv9, g3, g4, g5, g6⟩ := at_a hBw hC5.out i3 hlt3
                  have p0 : (0 : Int) ≤ (i3 : Int) := by omega
                  have q0 : (i3 : Int) < (e.f5.length : Int) := by omega
                  have q1 : decide ((i3 : Int) < (e.f5.length : Int)) = true := decide_eq_true q0
                  have hdr := costA_drop hlt3
                  have hcl := costA_le hlt3
                  have hod := okA_drop hlt3 hol3.out
                  have hsd : Aside0 (fxA (e.f5.drop (i3 + 1)) B (fx e.f5[i3].f4 (e.f5[i3].f3 ++ B) o2) = fxA e.f5 B o) := ⟨by rw [← hs3.out, List.drop_eq_getElem_cons hlt3, fxA_cons]⟩
                  have hfl := fx_len e.f5[i3].f4 (e.f5[i3].f3 ++ B) o2
                  have hb2 := hbd3.out
                  generalize e.f5[i3] = a at *
                  obtain ⟨v5, na5, nh5, hF5, hM5, hO5, h5a, h5h⟩ := hst3.out
                  have hal := below_alloc (Below.refl wr.heap.size wr) (.cells #[.int .i64 a.f0, .string a.f1, .int .i64 a.f2, .slice Y3 a.f3.length d3, .int .i64 a.f4.f0, .string a.f4.f1, .int .i64 a.f4.f2, .slice X3 a.f4.f3.length e3, .slice X4 a.f4.f4.length e4, .slice X5 a.f4.f5.length e5] 40)
                  have hBs : w0.heap.size ≤ wr.heap.size := hBw.size
                  have hMa := hM5.trans (Mod.of_below hal (FP pb ab hb v)) (fun _ _ hj => hj)
                  have hFa := hF5.below hal
                  have hBa := hBw.trans (hal.mono hBs)
                  obtain ⟨hn1, bB, ba, bh, bo⟩ := hbnd.out
                  have hceq := hcost.out
                  have hb30 := hb3.out
                  have C1 := bind_st hFa (Mod.refl _ (FP pb ab hb v5)) (fun j hj => .inl hj) hBa a.f3 g3 hod.1.1 (c := d3) 1 (by decide) (addk_in a.f3 B) (by omega) (by omega)
                  have hbk : (wr.alloc (.cells #[.int .i64 a.f0, .string a.f1, .int .i64 a.f2, .slice Y3 a.f3.length d3, .int .i64 a.f4.f0, .string a.f4.f1, .int .i64 a.f4.f2, .slice X3 a.f4.f3.length e3, .slice X4 a.f4.f4.length e4, .slice X5 a.f4.f5.length e5] 40)).heap[wr.heap.size]? = some (.cells #[.int .i64 a.f0, .string a.f1, .int .i64 a.f2, .slice Y3 a.f3.length d3, .int .i64 a.f4.f0, .string a.f4.f1, .int .i64 a.f4.f2, .slice X3 a.f4.f3.length e3, .slice X4 a.f4.f4.length e4, .slice X5 a.f4.f5.length e5] 40 (0, 0)) := blk_new wr _
                  have hnk : ¬ FP pb ab hb v5 wr.heap.size := fun hh => by have := hF5.lt hh; omega
                  have hsa : w0.heap.size ≤ (wr.alloc (.cells #[.int .i64 a.f0, .string a.f1, .int .i64 a.f2, .slice Y3 a.f3.length d3, .int .i64 a.f4.f0, .string a.f4.f1, .int .i64 a.f4.f2, .slice X3 a.f4.f3.length e3, .slice X4 a.f4.f4.length e4, .slice X5 a.f4.f5.length e5] 40)).heap.size := Nat.le_trans hBs hal.size
                  have hMa := Aside0.mk hMa
                  have hFa := Aside0.mk hFa
                  have hBa := Aside0.mk hBa
                  have hO5 := Aside0.mk hO5
                  have hbk := Aside0.mk hbk
                  have hnk := Aside0.mk hnk
                  have hsa := Aside0.mk hsa
                  have hg := Aside0.mk (And.intro g3 (And.intro g4 (And.intro g5 g6)))
                  have hod := Aside0.mk hod
                  have hbb := Aside0.mk (And.intro hcl (And.intro hdr (And.intro hfl (And.intro hb2 (And.intro hb3.out (And.intro h5a (And.intro h5h (And.intro hcost.out hbnd.out))))))))
                  clear hBw g3 g4 g5 g6 hdr hcl hfl hb2 hF5 hM5 hal hBs h5a h5h hn1 bB ba bh bo hceq hb30
                  go_wp2_with (first | (go_at_call 55; go_loud (with_reducible refine C1.mono ?_); rintro r w5 ⟨rfl, hst5⟩; have HT5 := Aside0.mk hst5; have hw5 := St.blk hst5 hbk.out hnk.out; have hy4 := (blk_cell hw5 4).trans rfl; have hy5 := (blk_cell hw5 5).trans rfl; have hy6 := (blk_cell hw5 6).trans rfl; have hy7 := (blk_cell hw5 7).trans rfl; have hy8 := (blk_cell hw5 8).trans rfl; have hy9 := (blk_cell hw5 9).trans rfl; clear hst5 C1 hw5 hv0 hv1 hv2 hv3 hv4 hv5 hv6 hv7 hv8 hv9; have C2 := step_x (ih a.f4 (by have := hbb.out; omega)) hFa.out hBa.out hsa.out HT5.out hod.out.1.2 (by have := hbb.out; rw [List.length_append]; omega) (by have := hbb.out; omega) (by have := hbb.out; omega) (by have := hbb.out; omega) hg.out.2.1 hg.out.2.2.1 hg.out.2.2.2 e3 e4 e5) | (go_at_call 38; go_loud (with_reducible refine C2.mono ?_); rintro r w6 ⟨rfl, hst6⟩; have HT6 := Aside0.mk hst6; have hz3 := (blk_cell (St.blk hst6 hbk.out hnk.out) 3).trans rfl; clear hst6 C2 hy4 hy5 hy6 hy7 hy8 hy9; have C3 := step_b hFa.out hBa.out hsa.out a.f3 HT6.out hg.out.1 hod.out.1.1 d3 (by have := hbb.out; rw [List.length_append]; omega) (by have := hbb.out; omega)) | (go_at_call 55; go_loud (with_reducible refine C3.mono ?_); rintro r w7 ⟨rfl, hst7⟩; have HT7 := Aside0.mk (St.comp hMa.out hO5.out hst7); clear hst7 C3 hz3))
                  go_roundg (gk - 1)
                  case measure => omega
                  case rel => exact ⟨i3 + 1, fx a.f4 (a.f3 ++ B) o2, na5 + a.f3.length + cost a.f4 + a.f3.length, nh5 + cost a.f4, by go_num, by omega, by omega, hsd, ⟨hod.out.2⟩, HT7, ⟨by have := hbb.out; omega, by have := hbb.out; omega, by have := hbb.out; omega⟩⟩
                · have q1 : decide ((i3 : Int) < (e.f5.length : Int)) = false := decide_eq_false (by omega)
                  have hd0 : e.f5.drop i3 = [] := List.drop_eq_nil_of_le (by omega)
                  have hso3 : o2 = fxA e.f5 B o := by rw [← hs3.out, hd0]; simp only [fxA]
                  have hb4 := hbd3.out
                  rw [hd0] at hb4
                  simp only [costA, Nat.add_zero] at hb4
                  have hfin : Aside0 (St W wr w0.heap.size pb ab hb v B (fx e B out) (na + cost e) (nh + cost e)) := ⟨by
                    rw [hone.out, ← hso, ← hso3]
                    exact (St.comp (Mod.of_below hbl9.out _) (fun j hj => .inl hj) hst3.out).mono (by have := hb3.out; have := hcost.out; omega) (by have := hb3.out; have := hcost.out; omega)⟩
                  go_wp2
                  refine bodyPost_end (v := .tuple #[]) (by simp [results, Tryd.results38, go_sem]) rfl ?_
                  exact ⟨rfl, hfin.out⟩
      · have q2 : (cnt B e.f1 == 0) = false := by
          have : ¬ cnt B e.f1 = 0 := fun h => y2 ((cnt_zero B e.f1).1 h)
          simpa using this
        refine start_ (n := 23) (S := fun w' => w'.cell? ⟨W.heap.size, 0, none⟩ = some (.int .i64 e.f0) ∧ w'.cell? ⟨W.heap.size, 1, none⟩ = some (.string e.f1) ∧ w'.cell? ⟨pb, 0, none⟩ = some (.map (some ab)) ∧ (Instr.lookup 59 (.map (some ab)) (.string e.f1) false).run Tryd.prog w' = .ok (.int .i64 (cnt B e.f1)) w') (ds := []) #[false, false, false, false, false, false, false, false, false, false, false, false, false, false, false, false, false, false, false, false, false, false, false] (by kernel_rfl) rfl rfl ⟨K0.out, K1.out, KA.out, KL.out⟩ (fun hHeld => ?_)
        generalize (W.alloc (.cells #[.int .i64 e.f0, .string e.f1, .int .i64 e.f2, .slice A3 e.f3.length c3, .slice A4 e.f4.length c4, .slice A5 e.f5.length c5] 33)).drew = W9 at *
        refine pure_ (i := 0) (N := some 8) (v := ?_) (a' := ?_) #[true, false, false, false, false, false, false, false, false, false, false, false, false, false, false, false, false, false, false, false, false, false, false] rfl rfl (by kernel_rfl) (fun _ _ _ h => h) (Or.inl ⟨by rfl, ?_⟩) ?_ ?_
        rotate_left
        · intro w'
          go_simp
          with_reducible rfl
        rotate_left
        · simp only [Act.put, List.setIfInBounds_toArray, List.set_cons_zero, List.set_cons_succ, i64_w, i32_w]
          rfl
        refine take_ (i := 1) (N := some 9) (v := ?_) (a' := ?_) #[true, true, false, false, false, false, false, false, false, false, false, false, false, false, false, false, false, false, false, false, false, false, false] rfl rfl (by kernel_rfl) (fun _ _ _ h => h) (Or.inl ⟨by rfl, ?_⟩) hHeld ?_ ?_
        rotate_left
        · rintro w' ⟨s0, s1, s2, s3⟩
          go_simp
          with_reducible rfl
        rotate_left
        · simp only [Act.put, List.setIfInBounds_toArray, List.set_cons_zero, List.set_cons_succ, i64_w, i32_w]
          rfl
        refine pure_ (i := 2) (N := some 10) (v := ?_) (a' := ?_) #[true, true, true, false, false, false, false, false, false, false, false, false, false, false, false, false, false, false, false, false, false, false, false] rfl rfl (by kernel_rfl) (fun _ _ _ h => h) (Or.inl ⟨by rfl, ?_⟩) ?_ ?_
        rotate_left
        · intro w'
          go_simp
          with_reducible rfl
        rotate_left
        · simp only [Act.put, List.setIfInBounds_toArray, List.set_cons_zero, List.set_cons_succ, i64_w, i32_w]
          rfl
        refine pure_ (i := 3) (N := some 11) (v := ?_) (a' := ?_) #[true, true, true, true, false, false, false, false, false, false, false, false, false, false, false, false, false, false, false, false, false, false, false] rfl rfl (by kernel_rfl) (fun _ _ _ h => h) (Or.inl ⟨by rfl, ?_⟩) ?_ ?_
        rotate_left
        · intro w'
          go_simp
          with_reducible rfl
        rotate_left
        · simp only [Act.put, List.setIfInBounds_toArray, List.set_cons_zero, List.set_cons_succ, i64_w, i32_w]
          rfl
        refine pure_ (i := 4) (N := some 12) (v := ?_) (a' := ?_) #[true, true, true, true, true, false, false, false, false, false, false, false, false, false, false, false, false, false, false, false, false, false, false] rfl rfl (by kernel_rfl) (fun _ _ _ h => h) (Or.inl ⟨by rfl, ?_⟩) ?_ ?_
        rotate_left
        · intro w'
          go_simp
          with_reducible rfl
        rotate_left
        · simp only [Act.put, List.setIfInBounds_toArray, List.set_cons_zero, List.set_cons_succ, i64_w, i32_w]
          rfl
        refine pure_ (i := 5) (N := some 13) (v := ?_) (a' := ?_) #[true, true, true, true, true, true, false, false, false, false, false, false, false, false, false, false, false, false, false, false, false, false, false] rfl rfl (by kernel_rfl) (fun _ _ _ h => h) (Or.inl ⟨by rfl, ?_⟩) ?_ ?_
        rotate_left
        · intro w'
          go_simp
          with_reducible rfl
        rotate_left
        · simp only [Act.put, List.setIfInBounds_toArray, List.set_cons_zero, List.set_cons_succ, i64_w, i32_w]
          rfl
        refine pure_ (i := 6) (N := some 14) (v := ?_) (a' := ?_) #[true, true, true, true, true, true, true, false, false, false, false, false, false, false, false, false, false, false, false, false, false, false, false] rfl rfl (by kernel_rfl) (fun _ _ _ h => h) (Or.inl ⟨by rfl, ?_⟩) ?_ ?_
        rotate_left
        · intro w'
          go_simp
          with_reducible rfl
        rotate_left
        · simp only [Act.put, List.setIfInBounds_toArray, List.set_cons_zero, List.set_cons_succ, i64_w, i32_w]
          rfl
        refine pure_ (i := 8) (N := some 16) (v := ?_) (a' := ?_) #[true, true, true, true, true, true, true, false, true, false, false, false, false, false, false, false, false, false, false, false, false, false, false] rfl rfl (by kernel_rfl) (fun _ _ _ h => h) (Or.inl ⟨by rfl, ?_⟩) ?_ ?_
        rotate_left
        · intro w'
          go_simp
          with_reducible rfl
        rotate_left
        · simp only [Act.put, List.setIfInBounds_toArray, List.set_cons_zero, List.set_cons_succ, i64_w, i32_w]
          rfl
        refine take_ (i := 7) (N := some 15) (v := ?_) (a' := ?_) #[true, true, true, true, true, true, true, true, true, false, false, false, false, false, false, false, false, false, false, false, false, false, false] rfl rfl (by kernel_rfl) (fun _ _ _ h => h) (Or.inl ⟨by rfl, ?_⟩) hHeld ?_ ?_
        rotate_left
        · rintro w' ⟨s0, s1, s2, s3⟩
          go_simp
          with_reducible rfl
        rotate_left
        · simp only [Act.put, List.setIfInBounds_toArray, List.set_cons_zero, List.set_cons_succ, i64_w, i32_w]
          rfl
        refine take_ (i := 9) (N := some 17) (v := ?_) (a' := ?_) #[true, true, true, true, true, true, true, true, true, true, false, false, false, false, false, false, false, false, false, false, false, false, false] rfl rfl (by kernel_rfl) (fun _ _ _ h => h) (Or.inl ⟨by rfl, ?_⟩) hHeld ?_ ?_
        rotate_left
        · rintro w' ⟨s0, s1, s2, s3⟩
          go_simp
          with_reducible rfl
        rotate_left
        · simp only [Act.put, List.setIfInBounds_toArray, List.set_cons_zero, List.set_cons_succ, i64_w, i32_w]
          rfl
        refine take_ (i := 10) (N := some 18) (v := ?_) (a' := ?_) #[true, true, true, true, true, true, true, true, true, true, true, false, false, false, false, false, false, false, false, false, false, false, false] rfl rfl (by kernel_rfl) (fun _ _ _ h => h) (Or.inl ⟨by rfl, ?_⟩) hHeld ?_ ?_
        rotate_left
        · rintro w' ⟨s0, s1, s2, s3⟩
          go_simp
          with_reducible rfl
        rotate_left
        · simp only [Act.put, List.setIfInBounds_toArray, List.set_cons_zero, List.set_cons_succ, i64_w, i32_w]
          rfl
        refine pure_ (i := 11) (N := some 19) (v := ?_) (a' := ?_) #[true, true, true, true, true, true, true, true, true, true, true, true, false, false, false, false, false, false, false, false, false, false, false] rfl rfl (by kernel_rfl) (fun _ _ _ h => h) (Or.inl ⟨by rfl, ?_⟩) ?_ ?_
        rotate_left
        · intro w'
          go_simp
          with_reducible rfl
        rotate_left
        · simp only [Act.put, List.setIfInBounds_toArray, List.set_cons_zero, List.set_cons_succ, i64_w, i32_w]
          rfl
        refine pure_ (i := 12) (N := some 20) (v := ?_) (a' := ?_) #[true, true, true, true, true, true, true, true, true, true, true, true, true, false, false, false, false, false, false, false, false, false, false] rfl rfl (by kernel_rfl) (fun _ _ _ h => h) (Or.inl ⟨by rfl, ?_⟩) ?_ ?_
        rotate_left
        · intro w'
          go_simp
          with_reducible rfl
        rotate_left
        · simp only [Act.put, List.setIfInBounds_toArray, List.set_cons_zero, List.set_cons_succ, i64_w, i32_w]
          rfl
        refine pure_ (i := 13) (N := some 21) (v := ?_) (a' := ?_) #[true, true, true, true, true, true, true, true, true, true, true, true, true, true, false, false, false, false, false, false, false, false, false] rfl rfl (by kernel_rfl) (fun _ _ _ h => h) (Or.inl ⟨by rfl, ?_⟩) ?_ ?_
        rotate_left
        · intro w'
          go_simp
          with_reducible rfl
        rotate_left
        · simp only [Act.put, List.setIfInBounds_toArray, List.set_cons_zero, List.set_cons_succ, i64_w, i32_w]
          rfl
        refine pure_ (i := 14) (N := some 22) (v := undef) (a' := ?_) #[true, true, true, true, true, true, true, true, true, true, true, true, true, true, true, false, false, false, false, false, false, false, false] rfl rfl (by kernel_rfl) (fun _ _ _ h => h) (Or.inr ⟨by rfl, rfl⟩) ?_ ?_
        rotate_left
        · simp only [Act.put, List.setIfInBounds_toArray, List.set_cons_zero, List.set_cons_succ, i64_w, i32_w]
          rfl
        refine pure_ (i := 15) (N := some 23) (v := undef) (a' := ?_) #[true, true, true, true, true, true, true, true, true, true, true, true, true, true, true, true, false, false, false, false, false, false, false] rfl rfl (by kernel_rfl) (fun _ _ _ h => h) (Or.inr ⟨by rfl, rfl⟩) ?_ ?_
        rotate_left
        · simp only [Act.put, List.setIfInBounds_toArray, List.set_cons_zero, List.set_cons_succ, i64_w, i32_w]
          rfl
        refine pure_ (i := 16) (N := some 24) (v := undef) (a' := ?_) #[true, true, true, true, true, true, true, true, true, true, true, true, true, true, true, true, true, false, false, false, false, false, false] rfl rfl (by kernel_rfl) (fun _ _ _ h => h) (Or.inr ⟨by rfl, rfl⟩) ?_ ?_
        rotate_left
        · simp only [Act.put, List.setIfInBounds_toArray, List.set_cons_zero, List.set_cons_succ, i64_w, i32_w]
          rfl
        refine pure_ (i := 17) (N := some 25) (v := undef) (a' := ?_) #[true, true, true, true, true, true, true, true, true, true, true, true, true, true, true, true, true, true, false, false, false, false, false] rfl rfl (by kernel_rfl) (fun _ _ _ h => h) (Or.inr ⟨by rfl, rfl⟩) ?_ ?_
        rotate_left
        · simp only [Act.put, List.setIfInBounds_toArray, List.set_cons_zero, List.set_cons_succ, i64_w, i32_w]
          rfl
        refine pure_ (i := 18) (N := some 26) (v := undef) (a' := ?_) #[true, true, true, true, true, true, true, true, true, true, true, true, true, true, true, true, true, true, true, false, false, false, false] rfl rfl (by kernel_rfl) (fun _ _ _ h => h) (Or.inr ⟨by rfl, rfl⟩) ?_ ?_
        rotate_left
        · simp only [Act.put, List.setIfInBounds_toArray, List.set_cons_zero, List.set_cons_succ, i64_w, i32_w]
          rfl
        refine pure_ (i := 19) (N := some 27) (v := undef) (a' := ?_) #[true, true, true, true, true, true, true, true, true, true, true, true, true, true, true, true, true, true, true, true, false, false, false] rfl rfl (by kernel_rfl) (fun _ _ _ h => h) (Or.inr ⟨by rfl, rfl⟩) ?_ ?_
        rotate_left
        · simp only [Act.put, List.setIfInBounds_toArray, List.set_cons_zero, List.set_cons_succ, i64_w, i32_w]
          rfl
        refine pure_ (i := 20) (N := some 28) (v := undef) (a' := ?_) #[true, true, true, true, true, true, true, true, true, true, true, true, true, true, true, true, true, true, true, true, true, false, false] rfl rfl (by kernel_rfl) (fun _ _ _ h => h) (Or.inr ⟨by rfl, rfl⟩) ?_ ?_
        rotate_left
        · simp only [Act.put, List.setIfInBounds_toArray, List.set_cons_zero, List.set_cons_succ, i64_w, i32_w]
          rfl
        refine pure_ (i := 21) (N := some 29) (v := undef) (a' := ?_) #[true, true, true, true, true, true, true, true, true, true, true, true, true, true, true, true, true, true, true, true, true, true, false] rfl rfl (by kernel_rfl) (fun _ _ _ h => h) (Or.inr ⟨by rfl, rfl⟩) ?_ ?_
        rotate_left
        · simp only [Act.put, List.setIfInBounds_toArray, List.set_cons_zero, List.set_cons_succ, i64_w, i32_w]
          rfl
        refine pure_ (i := 22) (N := some 30) (v := ?_) (a' := ?_) #[true, true, true, true, true, true, true, true, true, true, true, true, true, true, true, true, true, true, true, true, true, true, true] rfl rfl (by kernel_rfl) (fun _ _ _ h => h) (Or.inl ⟨by rfl, ?_⟩) ?_ ?_
        rotate_left
        · intro w'
          go_simp
          with_reducible rfl
        rotate_left
        · simp only [Act.put, List.setIfInBounds_toArray, List.set_cons_zero, List.set_cons_succ, i64_w, i32_w]
          rfl
        refine done_ (by kernel_rfl) ?_
        have hF9 := hF1
        have hB9 := hB1
        have hbl9 := hbl
        have hbx9 := hbx
        have hnb9 := hnb
        have hsz9 : Aside0 (w0.heap.size ≤ W9.heap.size) := ⟨hB9.out.size⟩
        have ho1 : one e B out = out := by unfold one; rw [if_neg (by intro h; exact y2 h.2.1)]
        have hFr : Aside0 (FS W9 w0.heap.size pb ab hb v na nh (cnt B) (memI (one e B out)) (one e B out)) := ⟨by rw [ho1]; exact hF9.out⟩
        have hMr := Aside0.mk (Mod.refl W9 (FP pb ab hb v))
        have hOr : Aside0 (∀ j, v.ownBlock = some j → v.ownBlock = some j ∨ W9.heap.size ≤ j) := ⟨fun j hj => .inl hj⟩
        have hBr := hB9
        have hbxc := hbx9
        have hnh : Aside0 (nh ≤ nh + 1) := ⟨Nat.le_succ _⟩
        have hlen1 : Aside0 ((one e B out).length ≤ out.length + 1) := ⟨by rw [ho1]; omega⟩
        clear hF1 hB1 hbl hbx hnb hsz K0 K1 KA KH KL KM ho1
        clear hHeld
        obtain ⟨hn1, bB, ba, bh, bo⟩ := hbnd.out
        have hceq := hcost.out
        have hx3 := (blk_cell hbxc.out 3).trans rfl
        have CB := bind_st hFr.out hMr.out hOr.out hBr.out e.f3 hC3.out hok3.out (c := c3) 1 (by decide) (addk_in e.f3 B) (by omega) (by omega)
        go_wp2_with (first | (go_at_call 55; go_loud (with_reducible refine CB.mono ?_); rintro r w2 ⟨rfl, hst2⟩; have HS2 := Aside0.mk hst2; have hx4 := (blk_cell (St.blk hst2 hbx9.out hnb9.out) 4).trans rfl; clear hst2 CB hx3))
        clear hx4
        go_loopg [55] (e.f4.length + 1) (fun kq v55 w' => ∃ (i : Nat) (o : List ByteArray) (ca ch : Nat), v55 = .int .i64 (i : Int) ∧ i + kq = e.f4.length + 1 ∧ 1 ≤ kq ∧ Aside0 (fxL (e.f4.drop i) (e.f3 ++ B) o = fxL e.f4 (e.f3 ++ B) (one e B out)) ∧ Aside0 (okL (e.f4.drop i) = true) ∧ Aside0 (St W9 w' w0.heap.size pb ab hb v (e.f3 ++ B) o ca ch) ∧ Aside0 (ca + costL (e.f4.drop i) ≤ na + e.f3.length + costL e.f4 ∧ ch + costL (e.f4.drop i) ≤ nh + 1 + costL e.f4 ∧ o.length + costL (e.f4.drop i) ≤ out.length + 1 + costL e.f4))
        case atStart => exact ⟨0, one e B out, na + e.f3.length, nh + 1, rfl, by omega, by omega, ⟨rfl⟩, hok4, ⟨HS2.out.mono (Nat.le_refl _) hnh.out⟩, ⟨by simp, by simp, by have := hlen1.out; simp only [List.drop_zero]; omega⟩⟩
        case round =>
          obtain ⟨i, o, ca, ch, rfl, hi, hk, hs, hol, hst, hbd⟩ := hrel
          by_cases hlt : i < e.f4.length
          · have hBw := hB9.out.trans (St.below hst.out hF9.out hsz9.out)
            obtain ⟨ad, X3, d3, X4, d4, X5, d5, rfl, hv0, hv1, hv2, hv3, hv4, hv5, g3, g4, g5⟩ := at_e hBw hC4.out i hlt
            have p0 : (0 : Int) ≤ (i : Int) := by omega
            have q0 : (i : Int) < (e.f4.length : Int) := by omega
            have q1 : decide ((i : Int) < (e.f4.length : Int)) = true := decide_eq_true q0
            have hdr := costL_drop hlt
            have hcl := costL_le hlt
            have hod := okL_drop hlt hol.out
            have hsd : Aside0 (fxL (e.f4.drop (i + 1)) (e.f3 ++ B) (fx e.f4[i] (e.f3 ++ B) o) = fxL e.f4 (e.f3 ++ B) (one e B out)) := ⟨by rw [← hs.out, List.drop_eq_getElem_cons hlt]; simp only [fxL]⟩
            have hfl := fx_len e.f4[i] (e.f3 ++ B) o
            have hb2 := hbd.out
            generalize e.f4[i] = x at *
            have hal := below_alloc (Below.refl wr.heap.size wr) (.cells #[.int .i64 x.f0, .string x.f1, .int .i64 x.f2, .slice X3 x.f3.length d3, .slice X4 x.f4.length d4, .slice X5 x.f5.length d5] 33)
            have CX := step_x (ih x (by omega)) hF9.out hB9.out hsz9.out (hst.out.alloc hal) hod.1 (by rw [List.length_append]; omega) (by omega) (by omega) (by omega) g3 g4 g5 d3 d4 d5
            have hbb := Aside0.mk (And.intro hdr (And.intro hfl hb2))
            have hod2 := Aside0.mk hod.2
            clear hBw g3 g4 g5 hdr hcl hod hfl hb2 hal hceq hn1 bB ba bh bo
            go_wp2_with (first | (go_at_call 38; go_loud (with_reducible refine CX.mono ?_); rintro r w3 ⟨rfl, hst3⟩; have HS3 := Aside0.mk hst3; clear hst3 CX))
            go_roundg (gk - 1)
            case measure => omega
            case rel => exact ⟨i + 1, fx x (e.f3 ++ B) o, ca + cost x, ch + cost x, by go_num, by omega, by omega, hsd, hod2, HS3, ⟨by have := hbb.out; omega, by have := hbb.out; omega, by have := hbb.out; omega⟩⟩
          · have q1 : decide ((i : Int) < (e.f4.length : Int)) = false := decide_eq_false (by omega)
            have hd0 : e.f4.drop i = [] := List.drop_eq_nil_of_le (by omega)
            have hso : o = fxL e.f4 (e.f3 ++ B) (one e B out) := by rw [← hs.out, hd0]; simp only [fxL]
            have hb2 := hbd.out
            rw [hd0] at hb2
            simp only [costL, Nat.add_zero] at hb2
            have hBw := hB9.out.trans (St.below hst.out hF9.out hsz9.out)
            have hx3 := (blk_cell (St.blk hst.out hbx9.out hnb9.out) 3).trans rfl
            have CB := step_b hF9.out hB9.out hsz9.out e.f3 hst.out hC3.out hok3.out c3 (by rw [List.length_append]; omega) (by omega)
            have hb3 := Aside0.mk hb2
            clear hbd hb2 hd0 hBw hs hol hst hceq hn1 bB ba bh bo
            go_wp2_with (first | (go_at_call 55; go_loud (with_reducible refine CB.mono ?_); rintro r w4 ⟨rfl, hst4⟩; have HS4 := Aside0.mk hst4; have hx5 := (blk_cell (St.blk hst4 hbx9.out hnb9.out) 5).trans rfl; clear hst4 CB hx3))
            clear hx5
            go_loopg [70] (e.f5.length + 1) (fun kq v70 w' => ∃ (i : Nat) (o2 : List ByteArray) (ca3 ch3 : Nat), v70 = .int .i64 (i : Int) ∧ i + kq = e.f5.length + 1 ∧ 1 ≤ kq ∧ Aside0 (fxA (e.f5.drop i) B o2 = fxA e.f5 B o) ∧ Aside0 (okA (e.f5.drop i) = true) ∧ Aside0 (St W9 w' w0.heap.size pb ab hb v B o2 ca3 ch3) ∧ Aside0 (ca3 + costA (e.f5.drop i) ≤ ca + e.f3.length + costA e.f5 ∧ ch3 + costA (e.f5.drop i) ≤ ch + costA e.f5 ∧ o2.length + costA (e.f5.drop i) ≤ o.length + costA e.f5))
            case atStart => exact ⟨0, o, ca + e.f3.length, ch, rfl, by omega, by omega, ⟨rfl⟩, hok5, HS4, ⟨by simp, by simp, by simp⟩⟩
            case round =>
              obtain ⟨i3, o2, ca3, ch3, rfl, hi3, hk3, hs3, hol3, hst3, hbd3⟩ := hrel
              by_cases hlt3 : i3 < e.f5.length
              · have hBw := hB9.out.trans (St.below hst3.out hF9.out hsz9.out)
                obtain ⟨ad, Y3, d3, X3, e3, X4, e4, X5, e5, rfl, hv0, hv1, hv2, hv3, hv4, hv5, hv6, hv7, hv8, hv9, g3, g4, g5, g6⟩ := at_a hBw hC5.out i3 hlt3
                have p0 : (0 : Int) ≤ (i3 : Int) := by omega
                have q0 : (i3 : Int) < (e.f5.length : Int) := by omega
                have q1 : decide ((i3 : Int) < (e.f5.length : Int)) = true := decide_eq_true q0
                have hdr := costA_drop hlt3
                have hcl := costA_le hlt3
                have hod := okA_drop hlt3 hol3.out
                have hsd : Aside0 (fxA (e.f5.drop (i3 + 1)) B (fx e.f5[i3].f4 (e.f5[i3].f3 ++ B) o2) = fxA e.f5 B o) := ⟨by rw [← hs3.out, List.drop_eq_getElem_cons hlt3, fxA_cons]⟩
                have hfl := fx_len e.f5[i3].f4 (e.f5[i3].f3 ++ B) o2
                have hb2 := hbd3.out
                generalize e.f5[i3] = a at *
                obtain ⟨v5, na5, nh5, hF5, hM5, hO5, h5a, h5h⟩ := hst3.out
                have hal := below_alloc (Below.refl wr.heap.size wr) (.cells #[.int .i64 a.f0, .string a.f1, .int .i64 a.f2, .slice Y3 a.f3.length d3, .int .i64 a.f4.f0, .string a.f4.f1, .int .i64 a.f4.f2, .slice X3 a.f4.f3.length e3, .slice X4 a.f4.f4.length e4, .slice X5 a.f4.f5.length e5] 40)
                have hBs : w0.heap.size ≤ wr.heap.size := hBw.size
                have hMa := hM5.trans (Mod.of_below hal (FP pb ab hb v)) (fun _ _ hj => hj)
                have hFa := hF5.below hal
                have hBa := hBw.trans (hal.mono hBs)
                obtain ⟨hn1, bB, ba, bh, bo⟩ := hbnd.out
                have hceq := hcost.out
                have hb30 := hb3.out
                have C1 := bind_st hFa (Mod.refl _ (FP pb ab hb v5)) (fun j hj => .inl hj) hBa a.f3 g3 hod.1.1 (c := d3) 1 (by decide) (addk_in a.f3 B) (by omega) (by omega)
                have hbk : (wr.alloc (.cells #[.int .i64 a.f0, .string a.f1, .int .i64 a.f2, .slice Y3 a.f3.length d3, .int .i64 a.f4.f0, .string a.f4.f1, .int .i64 a.f4.f2, .slice X3 a.f4.f3.length e3, .slice X4 a.f4.f4.length e4, .slice X5 a.f4.f5.length e5] 40)).heap[wr.heap.size]? = some (.cells #[.int .i64 a.f0, .string a.f1, .int .i64 a.f2, .slice Y3 a.f3.length d3, .int .i64 a.f4.f0, .string a.f4.f1, .int .i64 a.f4.f2, .slice X3 a.f4.f3.length e3, .slice X4 a.f4.f4.length e4, .slice X5 a.f4.f5.length e5] 40 (0, 0)) := blk_new wr _
                have hnk : ¬ FP pb ab hb v5 wr.heap.size := fun hh => by have := hF5.lt hh; omega
                have hsa : w0.heap.size ≤ (wr.alloc (.cells #[.int .i64 a.f0, .string a.f1, .int .i64 a.f2, .slice Y3 a.f3.length d3, .int .i64 a.f4.f0, .string a.f4.f1, .int .i64 a.f4.f2, .slice X3 a.f4.f3.length e3, .slice X4 a.f4.f4.length e4, .slice X5 a.f4.f5.length e5] 40)).heap.size := Nat.le_trans hBs hal.size
                have hMa := Aside0.mk hMa
                have hFa := Aside0.mk hFa
                have hBa := Aside0.mk hBa
                have hO5 := Aside0.mk hO5
                have hbk := Aside0.mk hbk
                have hnk := Aside0.mk hnk
                have hsa := Aside0.mk hsa
                have hg := Aside0.mk (And.intro g3 (And.intro g4 (And.intro g5 g6)))
                have hod := Aside0.mk hod
                have hbb := Aside0.mk (And.intro hcl (And.intro hdr (And.intro hfl (And.intro hb2 (And.intro hb3.out (And.intro h5a (And.intro h5h (And.intro hcost.out hbnd.out))))))))
                clear hBw g3 g4 g5 g6 hdr hcl hfl hb2 hF5 hM5 hal hBs h5a h5h hn1 bB ba bh bo hceq hb30
                go_wp2_with (first | (go_at_call 55; go_loud (with_reducible refine C1.mono ?_); rintro r w5 ⟨rfl, hst5⟩; have HT5 := Aside0.mk hst5; have hw5 := St.blk hst5 hbk.out hnk.out; have hy4 := (blk_cell hw5 4).trans rfl; have hy5 := (blk_cell hw5 5).trans rfl; have hy6 := (blk_cell hw5 6).trans rfl; have hy7 := (blk_cell hw5 7).trans rfl; have hy8 := (blk_cell hw5 8).trans rfl; have hy9 := (blk_cell hw5 9).trans rfl; clear hst5 C1 hw5 hv0 hv1 hv2 hv3 hv4 hv5 hv6 hv7 hv8 hv9; have C2 := step_x (ih a.f4 (by have := hbb.out; omega)) hFa.out hBa.out hsa.out HT5.out hod.out.1.2 (by have := hbb.out; rw [List.length_append]; omega) (by have := hbb.out; omega) (by have := hbb.out; omega) (by have := hbb.out; omega) hg.out.2.1 hg.out.2.2.1 hg.out.2.2.2 e3 e4 e5) | (go_at_call 38; go_loud (with_reducible refine C2.mono ?_); rintro r w6 ⟨rfl, hst6⟩; have HT6 := Aside0.mk hst6; have hz3 := (blk_cell (St.blk hst6 hbk.out hnk.out) 3).trans rfl; clear hst6 C2 hy4 hy5 hy6 hy7 hy8 hy9; have C3 := step_b hFa.out hBa.out hsa.out a.f3 HT6.out hg.out.1 hod.out.1.1 d3 (by have := hbb.out; rw [List.length_append]; omega) (by have := hbb.out; omega)) | (go_at_call 55; go_loud (with_reducible refine C3.mono ?_); rintro r w7 ⟨rfl, hst7⟩; have HT7 := Aside0.mk (St.comp hMa.out hO5.out hst7); clear hst7 C3 hz3))
                go_roundg (gk - 1)
                case measure => omega
                case rel => exact ⟨i3 + 1, fx a.f4 (a.f3 ++ B) o2, na5 + a.f3.length + cost a.f4 + a.f3.length, nh5 + cost a.f4, by go_num, by omega, by omega, hsd, ⟨hod.out.2⟩, HT7, ⟨by have := hbb.out; omega, by have := hbb.out; omega, by have := hbb.out; omega⟩⟩
              · have q1 : decide ((i3 : Int) < (e.f5.length : Int)) = false := decide_eq_false (by omega)
                have hd0 : e.f5.drop i3 = [] := List.drop_eq_nil_of_le (by omega)
                have hso3 : o2 = fxA e.f5 B o := by rw [← hs3.out, hd0]; simp only [fxA]
                have hb4 := hbd3.out
                rw [hd0] at hb4
                simp only [costA, Nat.add_zero] at hb4
                have hfin : Aside0 (St W wr w0.heap.size pb ab hb v B (fx e B out) (na + cost e) (nh + cost e)) := ⟨by
                  rw [hone.out, ← hso, ← hso3]
                  exact (St.comp (Mod.of_below hbl9.out _) (fun j hj => .inl hj) hst3.out).mono (by have := hb3.out; have := hcost.out; omega) (by have := hb3.out; have := hcost.out; omega)⟩
                go_wp2
                refine bodyPost_end (v := .tuple #[]) (by simp [results, Tryd.results38, go_sem]) rfl ?_
                exact ⟨rfl, hfin.out⟩
    · have q1 : (e.f0 == 1) = false := by simpa using y1
      refine start_ (n := 23) (S := fun w' => w'.cell? ⟨W.heap.size, 0, none⟩ = some (.int .i64 e.f0)) (ds := []) #[false, false, false, false, false, false, false, false, false, false, false, false, false, false, false, false, false, false, false, false, false, false, false] (by kernel_rfl) rfl rfl (K0.out) (fun hHeld => ?_)
      generalize (W.alloc (.cells #[.int .i64 e.f0, .string e.f1, .int .i64 e.f2, .slice A3 e.f3.length c3, .slice A4 e.f4.length c4, .slice A5 e.f5.length c5] 33)).drew = W9 at *
      refine pure_ (i := 0) (N := some 8) (v := ?_) (a' := ?_) #[true, false, false, false, false, false, false, false, false, false, false, false, false, false, false, false, false, false, false, false, false, false, false] rfl rfl (by kernel_rfl) (fun _ _ _ h => h) (Or.inl ⟨by rfl, ?_⟩) ?_ ?_
      rotate_left
      · intro w'
        go_simp
        with_reducible rfl
      rotate_left
      · simp only [Act.put, List.setIfInBounds_toArray, List.set_cons_zero, List.set_cons_succ, i64_w, i32_w]
        rfl
      refine take_ (i := 1) (N := some 9) (v := ?_) (a' := ?_) #[true, true, false, false, false, false, false, false, false, false, false, false, false, false, false, false, false, false, false, false, false, false, false] rfl rfl (by kernel_rfl) (fun _ _ _ h => h) (Or.inl ⟨by rfl, ?_⟩) hHeld ?_ ?_
      rotate_left
      · intro w' s0
        go_simp
        with_reducible rfl
      rotate_left
      · simp only [Act.put, List.setIfInBounds_toArray, List.set_cons_zero, List.set_cons_succ, i64_w, i32_w]
        rfl
      refine pure_ (i := 2) (N := some 10) (v := ?_) (a' := ?_) #[true, true, true, false, false, false, false, false, false, false, false, false, false, false, false, false, false, false, false, false, false, false, false] rfl rfl (by kernel_rfl) (fun _ _ _ h => h) (Or.inl ⟨by rfl, ?_⟩) ?_ ?_
      rotate_left
      · intro w'
        go_simp
        with_reducible rfl
      rotate_left
      · simp only [Act.put, List.setIfInBounds_toArray, List.set_cons_zero, List.set_cons_succ, i64_w, i32_w]
        rfl
      refine pure_ (i := 3) (N := some 11) (v := ?_) (a' := ?_) #[true, true, true, true, false, false, false, false, false, false, false, false, false, false, false, false, false, false, false, false, false, false, false] rfl rfl (by kernel_rfl) (fun _ _ _ h => h) (Or.inl ⟨by rfl, ?_⟩) ?_ ?_
      rotate_left
      · intro w'
        go_simp
        with_reducible rfl
      rotate_left
      · simp only [Act.put, List.setIfInBounds_toArray, List.set_cons_zero, List.set_cons_succ, i64_w, i32_w]
        rfl
      refine pure_ (i := 4) (N := some 12) (v := undef) (a' := ?_) #[true, true, true, true, true, false, false, false, false, false, false, false, false, false, false, false, false, false, false, false, false, false, false] rfl rfl (by kernel_rfl) (fun _ _ _ h => h) (Or.inr ⟨by rfl, rfl⟩) ?_ ?_
      rotate_left
      · simp only [Act.put, List.setIfInBounds_toArray, List.set_cons_zero, List.set_cons_succ, i64_w, i32_w]
        rfl
      refine pure_ (i := 5) (N := some 13) (v := undef) (a' := ?_) #[true, true, true, true, true, true, false, false, false, false, false, false, false, false, false, false, false, false, false, false, false, false, false] rfl rfl (by kernel_rfl) (fun _ _ _ h => h) (Or.inr ⟨by rfl, rfl⟩) ?_ ?_
      rotate_left
      · simp only [Act.put, List.setIfInBounds_toArray, List.set_cons_zero, List.set_cons_succ, i64_w, i32_w]
        rfl
      refine pure_ (i := 6) (N := some 14) (v := undef) (a' := ?_) #[true, true, true, true, true, true, true, false, false, false, false, false, false, false, false, false, false, false, false, false, false, false, false] rfl rfl (by kernel_rfl) (fun _ _ _ h => h) (Or.inr ⟨by rfl, rfl⟩) ?_ ?_
      rotate_left
      · simp only [Act.put, List.setIfInBounds_toArray, List.set_cons_zero, List.set_cons_succ, i64_w, i32_w]
        rfl
      refine pure_ (i := 7) (N := some 15) (v := undef) (a' := ?_) #[true, true, true, true, true, true, true, true, false, false, false, false, false, false, false, false, false, false, false, false, false, false, false] rfl rfl (by kernel_rfl) (fun _ _ _ h => h) (Or.inr ⟨by rfl, rfl⟩) ?_ ?_
      rotate_left
      · simp only [Act.put, List.setIfInBounds_toArray, List.set_cons_zero, List.set_cons_succ, i64_w, i32_w]
        rfl
      refine pure_ (i := 8) (N := some 16) (v := undef) (a' := ?_) #[true, true, true, true, true, true, true, true, true, false, false, false, false, false, false, false, false, false, false, false, false, false, false] rfl rfl (by kernel_rfl) (fun _ _ _ h => h) (Or.inr ⟨by rfl, rfl⟩) ?_ ?_
      rotate_left
      · simp only [Act.put, List.setIfInBounds_toArray, List.set_cons_zero, List.set_cons_succ, i64_w, i32_w]
        rfl
      refine pure_ (i := 9) (N := some 17) (v := undef) (a' := ?_) #[true, true, true, true, true, true, true, true, true, true, false, false, false, false, false, false, false, false, false, false, false, false, false] rfl rfl (by kernel_rfl) (fun _ _ _ h => h) (Or.inr ⟨by rfl, rfl⟩) ?_ ?_
      rotate_left
      · simp only [Act.put, List.setIfInBounds_toArray, List.set_cons_zero, List.set_cons_succ, i64_w, i32_w]
        rfl
      refine pure_ (i := 10) (N := some 18) (v := undef) (a' := ?_) #[true, true, true, true, true, true, true, true, true, true, true, false, false, false, false, false, false, false, false, false, false, false, false] rfl rfl (by kernel_rfl) (fun _ _ _ h => h) (Or.inr ⟨by rfl, rfl⟩) ?_ ?_
      rotate_left
      · simp only [Act.put, List.setIfInBounds_toArray, List.set_cons_zero, List.set_cons_succ, i64_w, i32_w]
        rfl
      refine pure_ (i := 11) (N := some 19) (v := undef) (a' := ?_) #[true, true, true, true, true, true, true, true, true, true, true, true, false, false, false, false, false, false, false, false, false, false, false] rfl rfl (by kernel_rfl) (fun _ _ _ h => h) (Or.inr ⟨by rfl, rfl⟩) ?_ ?_
      rotate_left
      · simp only [Act.put, List.setIfInBounds_toArray, List.set_cons_zero, List.set_cons_succ, i64_w, i32_w]
        rfl
      refine pure_ (i := 12) (N := some 20) (v := ?_) (a' := ?_) #[true, true, true, true, true, true, true, true, true, true, true, true, true, false, false, false, false, false, false, false, false, false, false] rfl rfl (by kernel_rfl) (fun _ _ _ h => h) (Or.inl ⟨by rfl, ?_⟩) ?_ ?_
      rotate_left
      · intro w'
        go_simp
        with_reducible rfl
      rotate_left
      · simp only [Act.put, List.setIfInBounds_toArray, List.set_cons_zero, List.set_cons_succ, i64_w, i32_w]
        rfl
      refine pure_ (i := 13) (N := some 21) (v := ?_) (a' := ?_) #[true, true, true, true, true, true, true, true, true, true, true, true, true, true, false, false, false, false, false, false, false, false, false] rfl rfl (by kernel_rfl) (fun _ _ _ h => h) (Or.inl ⟨by rfl, ?_⟩) ?_ ?_
      rotate_left
      · intro w'
        go_simp
        with_reducible rfl
      rotate_left
      · simp only [Act.put, List.setIfInBounds_toArray, List.set_cons_zero, List.set_cons_succ, i64_w, i32_w]
        rfl
      refine pure_ (i := 14) (N := some 22) (v := undef) (a' := ?_) #[true, true, true, true, true, true, true, true, true, true, true, true, true, true, true, false, false, false, false, false, false, false, false] rfl rfl (by kernel_rfl) (fun _ _ _ h => h) (Or.inr ⟨by rfl, rfl⟩) ?_ ?_
      rotate_left
      · simp only [Act.put, List.setIfInBounds_toArray, List.set_cons_zero, List.set_cons_succ, i64_w, i32_w]
        rfl
      refine pure_ (i := 15) (N := some 23) (v := undef) (a' := ?_) #[true, true, true, true, true, true, true, true, true, true, true, true, true, true, true, true, false, false, false, false, false, false, false] rfl rfl (by kernel_rfl) (fun _ _ _ h => h) (Or.inr ⟨by rfl, rfl⟩) ?_ ?_
      rotate_left
      · simp only [Act.put, List.setIfInBounds_toArray, List.set_cons_zero, List.set_cons_succ, i64_w, i32_w]
        rfl
      refine pure_ (i := 16) (N := some 24) (v := undef) (a' := ?_) #[true, true, true, true, true, true, true, true, true, true, true, true, true, true, true, true, true, false, false, false, false, false, false] rfl rfl (by kernel_rfl) (fun _ _ _ h => h) (Or.inr ⟨by rfl, rfl⟩) ?_ ?_
      rotate_left
      · simp only [Act.put, List.setIfInBounds_toArray, List.set_cons_zero, List.set_cons_succ, i64_w, i32_w]
        rfl
      refine pure_ (i := 17) (N := some 25) (v := undef) (a' := ?_) #[true, true, true, true, true, true, true, true, true, true, true, true, true, true, true, true, true, true, false, false, false, false, false] rfl rfl (by kernel_rfl) (fun _ _ _ h => h) (Or.inr ⟨by rfl, rfl⟩) ?_ ?_
      rotate_left
      · simp only [Act.put, List.setIfInBounds_toArray, List.set_cons_zero, List.set_cons_succ, i64_w, i32_w]
        rfl
      refine pure_ (i := 18) (N := some 26) (v := undef) (a' := ?_) #[true, true, true, true, true, true, true, true, true, true, true, true, true, true, true, true, true, true, true, false, false, false, false] rfl rfl (by kernel_rfl) (fun _ _ _ h => h) (Or.inr ⟨by rfl, rfl⟩) ?_ ?_
      rotate_left
      · simp only [Act.put, List.setIfInBounds_toArray, List.set_cons_zero, List.set_cons_succ, i64_w, i32_w]
        rfl
      refine pure_ (i := 19) (N := some 27) (v := undef) (a' := ?_) #[true, true, true, true, true, true, true, true, true, true, true, true, true, true, true, true, true, true, true, true, false, false, false] rfl rfl (by kernel_rfl) (fun _ _ _ h => h) (Or.inr ⟨by rfl, rfl⟩) ?_ ?_
      rotate_left
      · simp only [Act.put, List.setIfInBounds_toArray, List.set_cons_zero, List.set_cons_succ, i64_w, i32_w]
        rfl
      refine pure_ (i := 20) (N := some 28) (v := undef) (a' := ?_) #[true, true, true, true, true, true, true, true, true, true, true, true, true, true, true, true, true, true, true, true, true, false, false] rfl rfl (by kernel_rfl) (fun _ _ _ h => h) (Or.inr ⟨by rfl, rfl⟩) ?_ ?_
      rotate_left
      · simp only [Act.put, List.setIfInBounds_toArray, List.set_cons_zero, List.set_cons_succ, i64_w, i32_w]
        rfl
      refine pure_ (i := 21) (N := some 29) (v := undef) (a' := ?_) #[true, true, true, true, true, true, true, true, true, true, true, true, true, true, true, true, true, true, true, true, true, true, false] rfl rfl (by kernel_rfl) (fun _ _ _ h => h) (Or.inr ⟨by rfl, rfl⟩) ?_ ?_
      rotate_left
      · simp only [Act.put, List.setIfInBounds_toArray, List.set_cons_zero, List.set_cons_succ, i64_w, i32_w]
        rfl
      refine pure_ (i := 22) (N := some 30) (v := ?_) (a' := ?_) #[true, true, true, true, true, true, true, true, true, true, true, true, true, true, true, true, true, true, true, true, true, true, true] rfl rfl (by kernel_rfl) (fun _ _ _ h => h) (Or.inl ⟨by rfl, ?_⟩) ?_ ?_
      rotate_left
      · intro w'
        go_simp
        with_reducible rfl
      rotate_left
      · simp only [Act.put, List.setIfInBounds_toArray, List.set_cons_zero, List.set_cons_succ, i64_w, i32_w]
        rfl
      refine done_ (by kernel_rfl) ?_
      have hF9 := hF1
      have hB9 := hB1
      have hbl9 := hbl
      have hbx9 := hbx
      have hnb9 := hnb
      have hsz9 : Aside0 (w0.heap.size ≤ W9.heap.size) := ⟨hB9.out.size⟩
      have ho1 : one e B out = out := by unfold one; rw [if_neg (by intro h; exact y1 h.1)]
      have hFr : Aside0 (FS W9 w0.heap.size pb ab hb v na nh (cnt B) (memI (one e B out)) (one e B out)) := ⟨by rw [ho1]; exact hF9.out⟩
      have hMr := Aside0.mk (Mod.refl W9 (FP pb ab hb v))
      have hOr : Aside0 (∀ j, v.ownBlock = some j → v.ownBlock = some j ∨ W9.heap.size ≤ j) := ⟨fun j hj => .inl hj⟩
      have hBr := hB9
      have hbxc := hbx9
      have hnh : Aside0 (nh ≤ nh + 1) := ⟨Nat.le_succ _⟩
      have hlen1 : Aside0 ((one e B out).length ≤ out.length + 1) := ⟨by rw [ho1]; omega⟩
      clear hF1 hB1 hbl hbx hnb hsz K0 K1 KA KH KL KM ho1
      clear hHeld
      obtain ⟨hn1, bB, ba, bh, bo⟩ := hbnd.out
      have hceq := hcost.out
      have hx3 := (blk_cell hbxc.out 3).trans rfl
      have CB := bind_st hFr.out hMr.out hOr.out hBr.out e.f3 hC3.out hok3.out (c := c3) 1 (by decide) (addk_in e.f3 B) (by omega) (by omega)
      go_wp2_with (first | (go_at_call 55; go_loud (with_reducible refine CB.mono ?_); rintro r w2 ⟨rfl, hst2⟩; have HS2 := Aside0.mk hst2; have hx4 := (blk_cell (St.blk hst2 hbx9.out hnb9.out) 4).trans rfl; clear hst2 CB hx3))
      clear hx4
      go_loopg [55] (e.f4.length + 1) (fun kq v55 w' => ∃ (i : Nat) (o : List ByteArray) (ca ch : Nat), v55 = .int .i64 (i : Int) ∧ i + kq = e.f4.length + 1 ∧ 1 ≤ kq ∧ Aside0 (fxL (e.f4.drop i) (e.f3 ++ B) o = fxL e.f4 (e.f3 ++ B) (one e B out)) ∧ Aside0 (okL (e.f4.drop i) = true) ∧ Aside0 (St W9 w' w0.heap.size pb ab hb v (e.f3 ++ B) o ca ch) ∧ Aside0 (ca + costL (e.f4.drop i) ≤ na + e.f3.length + costL e.f4 ∧ ch + costL (e.f4.drop i) ≤ nh + 1 + costL e.f4 ∧ o.length + costL (e.f4.drop i) ≤ out.length + 1 + costL e.f4))
      case atStart => exact ⟨0, one e B out, na + e.f3.length, nh + 1, rfl, by omega, by omega, ⟨rfl⟩, hok4, ⟨HS2.out.mono (Nat.le_refl _) hnh.out⟩, ⟨by simp, by simp, by have := hlen1.out; simp only [List.drop_zero]; omega⟩⟩
      case round =>
        obtain ⟨i, o, ca, ch, rfl, hi, hk, hs, hol, hst, hbd⟩ := hrel
        by_cases hlt : i < e.f4.length
        · have hBw := hB9.out.trans (St.below hst.out hF9.out hsz9.out)
          obtain ⟨ad, X3, d3, X4, d4, X5, d5, rfl, hv0, hv1, hv2, hv3, hv4, hv5, g3, g4, g5⟩ := at_e hBw hC4.out i hlt
          have p0 : (0 : Int) ≤ (i : Int) := by omega
          have q0 : (i : Int) < (e.f4.length : Int) := by omega
          have q1 : decide ((i : Int) < (e.f4.length : Int)) = true := decide_eq_true q0
          have hdr := costL_drop hlt
          have hcl := costL_le hlt
          have hod := okL_drop hlt hol.out
          have hsd : Aside0 (fxL (e.f4.drop (i + 1)) (e.f3 ++ B) (fx e.f4[i] (e.f3 ++ B) o) = fxL e.f4 (e.f3 ++ B) (one e B out)) := ⟨by rw [← hs.out, List.drop_eq_getElem_cons hlt]; simp only [fxL]⟩
          have hfl := fx_len e.f4[i] (e.f3 ++ B) o
          have hb2 := hbd.out
          generalize e.f4[i] = x at *
          have hal := below_alloc (Below.refl wr.heap.size wr) (.cells #[.int .i64 x.f0, .string x.f1, .int .i64 x.f2, .slice X3 x.f3.length d3, .slice X4 x.f4.length d4, .slice X5 x.f5.length d5] 33)
          have CX := step_x (ih x (by omega)) hF9.out hB9.out hsz9.out (hst.out.alloc hal) hod.1 (by rw [List.length_append]; omega) (by omega) (by omega) (by omega) g3 g4 g5 d3 d4 d5
          have hbb := Aside0.mk (And.intro hdr (And.intro hfl hb2))
          have hod2 := Aside0.mk hod.2
          clear hBw g3 g4 g5 hdr hcl hod hfl hb2 hal hceq hn1 bB ba bh bo
          go_wp2_with (first | (go_at_call 38; go_loud (with_reducible refine CX.mono ?_); rintro r w3 ⟨rfl, hst3⟩; have HS3 := Aside0.mk hst3; clear hst3 CX))
          go_roundg (gk - 1)
          case measure => omega
          case rel => exact ⟨i + 1, fx x (e.f3 ++ B) o, ca + cost x, ch + cost x, by go_num, by omega, by omega, hsd, hod2, HS3, ⟨by have := hbb.out; omega, by have := hbb.out; omega, by have := hbb.out; omega⟩⟩
        · have q1 : decide ((i : Int) < (e.f4.length : Int)) = false := decide_eq_false (by omega)
          have hd0 : e.f4.drop i = [] := List.drop_eq_nil_of_le (by omega)
          have hso : o = fxL e.f4 (e.f3 ++ B) (one e B out) := by rw [← hs.out, hd0]; simp only [fxL]
          have hb2 := hbd.out
          rw [hd0] at hb2
          simp only [costL, Nat.add_zero] at hb2
          have hBw := hB9.out.trans (St.below hst.out hF9.out hsz9.out)
          have hx3 := (blk_cell (St.blk hst.out hbx9.out hnb9.out) 3).trans rfl
          have CB := step_b hF9.out hB9.out hsz9.out e.f3 hst.out hC3.out hok3.out c3 (by rw [List.length_append]; omega) (by omega)
          have hb3 := Aside0.mk hb2
          clear hbd hb2 hd0 hBw hs hol hst hceq hn1 bB ba bh bo
          go_wp2_with (first | (go_at_call 55; go_loud (with_reducible refine CB.mono ?_); rintro r w4 ⟨rfl, hst4⟩; have HS4 := Aside0.mk hst4; have hx5 := (blk_cell (St.blk hst4 hbx9.out hnb9.out) 5).trans rfl; clear hst4 CB hx3))
          clear hx5
          go_loopg [70] (e.f5.length + 1) (fun kq v70 w' => ∃ (i : Nat) (o2 : List ByteArray) (ca3 ch3 : Nat), v70 = .int .i64 (i : Int) ∧ i + kq = e.f5.length + 1 ∧ 1 ≤ kq ∧ Aside0 (fxA (e.f5.drop i) B o2 = fxA e.f5 B o) ∧ Aside0 (okA (e.f5.drop i) = true) ∧ Aside0 (St W9 w' w0.heap.size pb ab hb v B o2 ca3 ch3) ∧ Aside0 (ca3 + costA (e.f5.drop i) ≤ ca + e.f3.length + costA e.f5 ∧ ch3 + costA (e.f5.drop i) ≤ ch + costA e.f5 ∧ o2.length + costA (e.f5.drop i) ≤ o.length + costA e.f5))
          case atStart => exact ⟨0, o, ca + e.f3.length, ch, rfl, by omega, by omega, ⟨rfl⟩, hok5, HS4, ⟨by simp, by simp, by simp⟩⟩
          case round =>
            obtain ⟨i3, o2, ca3, ch3, rfl, hi3, hk3, hs3, hol3, hst3, hbd3⟩ := hrel
            by_cases hlt3 : i3 < e.f5.length
            · have hBw := hB9.out.trans (St.below hst3.out hF9.out hsz9.out)
              obtain ⟨ad, Y3, d3, X3, e3, X4, e4, X5, e5, rfl, hv0, hv1, hv2, hv3, hv4, hv5, hv6, hv7, hv8, hv9, g3, g4, g5, g6⟩ := at_a hBw hC5.out i3 hlt3
              have p0 : (0 : Int) ≤ (i3 : Int) := by omega
              have q0 : (i3 : Int) < (e.f5.length : Int) := by omega
              have q1 : decide ((i3 : Int) < (e.f5.length : Int)) = true := decide_eq_true q0
              have hdr := costA_drop hlt3
              have hcl := costA_le hlt3
              have hod := okA_drop hlt3 hol3.out
              have hsd : Aside0 (fxA (e.f5.drop (i3 + 1)) B (fx e.f5[i3].f4 (e.f5[i3].f3 ++ B) o2) = fxA e.f5 B o) := ⟨by rw [← hs3.out, List.drop_eq_getElem_cons hlt3, fxA_cons]⟩
              have hfl := fx_len e.f5[i3].f4 (e.f5[i3].f3 ++ B) o2
              have hb2 := hbd3.out
              generalize e.f5[i3] = a at *
              obtain ⟨v5, na5, nh5, hF5, hM5, hO5, h5a, h5h⟩ := hst3.out
              have hal := below_alloc (Below.refl wr.heap.size wr) (.cells #[.int .i64 a.f0, .string a.f1, .int .i64 a.f2, .slice Y3 a.f3.length d3, .int .i64 a.f4.f0, .string a.f4.f1, .int .i64 a.f4.f2, .slice X3 a.f4.f3.length e3, .slice X4 a.f4.f4.length e4, .slice X5 a.f4.f5.length e5] 40)
              have hBs : w0.heap.size ≤ wr.heap.size := hBw.size
              have hMa := hM5.trans (Mod.of_below hal (FP pb ab hb v)) (fun _ _ hj => hj)
              have hFa := hF5.below hal
              have hBa := hBw.trans (hal.mono hBs)
              obtain ⟨hn1, bB, ba, bh, bo⟩ := hbnd.out
              have hceq := hcost.out
              have hb30 := hb3.out
              have C1 := bind_st hFa (Mod.refl _ (FP pb ab hb v5)) (fun j hj => .inl hj) hBa a.f3 g3 hod.1.1 (c := d3) 1 (by decide) (addk_in a.f3 B) (by omega) (by omega)
              have hbk : (wr.alloc (.cells #[.int .i64 a.f0, .string a.f1, .int .i64 a.f2, .slice Y3 a.f3.length d3, .int .i64 a.f4.f0, .string a.f4.f1, .int .i64 a.f4.f2, .slice X3 a.f4.f3.length e3, .slice X4 a.f4.f4.length e4, .slice X5 a.f4.f5.length e5] 40)).heap[wr.heap.size]? = some (.cells #[.int .i64 a.f0, .string a.f1, .int .i64 a.f2, .slice Y3 a.f3.length d3, .int .i64 a.f4.f0, .string a.f4.f1, .int .i64 a.f4.f2, .slice X3 a.f4.f3.length e3, .slice X4 a.f4.f4.length e4, .slice X5 a.f4.f5.length e5] 40 (0, 0)) := blk_new wr _
              have hnk : ¬ FP pb ab hb v5 wr.heap.size := fun hh => by have := hF5.lt hh; omega
              have hsa : w0.heap.size ≤ (wr.alloc (.cells #[.int .i64 a.f0, .string a.f1, .int .i64 a.f2, .slice Y3 a.f3.length d3, .int .i64 a.f4.f0, .string a.f4.f1, .int .i64 a.f4.f2, .slice X3 a.f4.f3.length e3, .slice X4 a.f4.f4.length e4, .slice X5 a.f4.f5.length e5] 40)).heap.size := Nat.le_trans hBs hal.size
              have hMa := Aside0.mk hMa
              have hFa := Aside0.mk hFa
              have hBa := Aside0.mk hBa
              have hO5 := Aside0.mk hO5
              have hbk := Aside0.mk hbk
              have hnk := Aside0.mk hnk
              have hsa := Aside0.mk hsa
              have hg := Aside0.mk (And.intro g3 (And.intro g4 (And.intro g5 g6)))
              have hod := Aside0.mk hod
              have hbb := Aside0.mk (And.intro hcl (And.intro hdr (And.intro hfl (And.intro hb2 (And.intro hb3.out (And.intro h5a (And.intro h5h (And.intro hcost.out hbnd.out))))))))
              clear hBw g3 g4 g5 g6 hdr hcl hfl hb2 hF5 hM5 hal hBs h5a h5h hn1 bB ba bh bo hceq hb30
              go_wp2_with (first | (go_at_call 55; go_loud (with_reducible refine C1.mono ?_); rintro r w5 ⟨rfl, hst5⟩; have HT5 := Aside0.mk hst5; have hw5 := St.blk hst5 hbk.out hnk.out; have hy4 := (blk_cell hw5 4).trans rfl; have hy5 := (blk_cell hw5 5).trans rfl; have hy6 := (blk_cell hw5 6).trans rfl; have hy7 := (blk_cell hw5 7).trans rfl; have hy8 := (blk_cell hw5 8).trans rfl; have hy9 := (blk_cell hw5 9).trans rfl; clear hst5 C1 hw5 hv0 hv1 hv2 hv3 hv4 hv5 hv6 hv7 hv8 hv9; have C2 := step_x (ih a.f4 (by have := hbb.out; omega)) hFa.out hBa.out hsa.out HT5.out hod.out.1.2 (by have := hbb.out; rw [List.length_append]; omega) (by have := hbb.out; omega) (by have := hbb.out; omega) (by have := hbb.out; omega) hg.out.2.1 hg.out.2.2.1 hg.out.2.2.2 e3 e4 e5) | (go_at_call 38; go_loud (with_reducible refine C2.mono ?_); rintro r w6 ⟨rfl, hst6⟩; have HT6 := Aside0.mk hst6; have hz3 := (blk_cell (St.blk hst6 hbk.out hnk.out) 3).trans rfl; clear hst6 C2 hy4 hy5 hy6 hy7 hy8 hy9; have C3 := step_b hFa.out hBa.out hsa.out a.f3 HT6.out hg.out.1 hod.out.1.1 d3 (by have := hbb.out; rw [List.length_append]; omega) (by have := hbb.out; omega)) | (go_at_call 55; go_loud (with_reducible refine C3.mono ?_); rintro r w7 ⟨rfl, hst7⟩; have HT7 := Aside0.mk (St.comp hMa.out hO5.out hst7); clear hst7 C3 hz3))
              go_roundg (gk - 1)
              case measure => omega
              case rel => exact ⟨i3 + 1, fx a.f4 (a.f3 ++ B) o2, na5 + a.f3.length + cost a.f4 + a.f3.length, nh5 + cost a.f4, by go_num, by omega, by omega, hsd, ⟨hod.out.2⟩, HT7, ⟨by have := hbb.out; omega, by have := hbb.out; omega, by have := hbb.out; omega⟩⟩
            · have q1 : decide ((i3 : Int) < (e.f5.length : Int)) = false := decide_eq_false (by omega)
              have hd0 : e.f5.drop i3 = [] := List.drop_eq_nil_of_le (by omega)
              have hso3 : o2 = fxA e.f5 B o := by rw [← hs3.out, hd0]; simp only [fxA]
              have hb4 := hbd3.out
              rw [hd0] at hb4
              simp only [costA, Nat.add_zero] at hb4
              have hfin : Aside0 (St W wr w0.heap.size pb ab hb v B (fx e B out) (na + cost e) (nh + cost e)) := ⟨by
                rw [hone.out, ← hso, ← hso3]
                exact (St.comp (Mod.of_below hbl9.out _) (fun j hj => .inl hj) hst3.out).mono (by have := hb3.out; have := hcost.out; omega) (by have := hb3.out; have := hcost.out; omega)⟩
              go_wp2
              refine bodyPost_end (v := .tuple #[]) (by simp [results, Tryd.results38, go_sem]) rfl ?_
              exact ⟨rfl, hfin.out⟩
end Go.Proofs.YtmoeekidmkhkoaaDoor.FreeA

