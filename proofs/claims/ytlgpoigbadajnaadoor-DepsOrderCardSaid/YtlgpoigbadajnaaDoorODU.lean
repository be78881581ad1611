/- Texts of the walks put together: DepU. Conditions: as each states. -/
import Derived.Test.YtlgpoigbadajnaaDoorODA
import Derived.Lib.SmallJoins
import Derived.Deep.Slices
import Derived.SizedLaws
import Derived.ChangeArms
import Derived.RowKit
namespace Go.Proofs.YtlgpoigbadajnaaDoor.DepA
open Go.ChangeShapes Go.WideShapes Go.ChangeAt Go.RowKit Go.Deep Go.Joins Go.Proofs.YtlgpoigbadajnaaDoorW.PrintWords Go.Proofs.YtlgpoigbadajnaaDoor.PDepA
set_option linter.unusedVariables false
set_option linter.unusedSimpArgs false
def B47 : Nat := 140737488351232
def BL : Nat := 10000000000000
def smallS (l : List ByteArray) : Prop := ∀ s ∈ l, s.size ≤ B47
def Ok1 (nm : ByteArray) (n : Int) (ns : List ByteArray) : Prop := nm.size ≤ B47 ∧ -9223372036854775808 ≤ n ∧ n ≤ 9223372036854775807 ∧ smallS ns
mutual
def RW : S29 → Prop
 | ⟨op, nm, n, ns, l, al⟩ => (Ok1 nm n ns ∧ ns.length ≤ BL ∧ l.length ≤ BL ∧ al.length ≤ BL) ∧ RWL l ∧ RWA al
def RWL : List S29 → Prop
 | [] => True
 | e :: l => RW e ∧ RWL l
def RWA : List S88 → Prop
 | [] => True
 | ⟨_, nm, n, ns, e⟩ :: l => (Ok1 nm n ns ∧ ns.length ≤ BL ∧ RW e) ∧ RWA l
end
theorem rwL_iff : ∀ l : List S29, RWL l ↔ ∀ x ∈ l, RW x
 | [] => by simp [RWL]
 | e :: l => by simp [RWL, rwL_iff l]
theorem rwA_iff : ∀ l : List S88, RWA l ↔ ∀ a ∈ l, Ok1 a.f1 a.f2 a.f3 ∧ a.f3.length ≤ BL ∧ RW a.f4
 | [] => by simp [RWA]
 | ⟨_, _, _, _, e⟩ :: l => by simp [RWA, rwA_iff l]
theorem rw_iff (e : S29) : RW e ↔ (Ok1 e.f1 e.f2 e.f3 ∧ e.f3.length ≤ BL ∧ e.f4.length ≤ BL ∧ e.f5.length ≤ BL) ∧ (∀ x ∈ e.f4, RW x) ∧ ∀ a ∈ e.f5, Ok1 a.f1 a.f2 a.f3 ∧ a.f3.length ≤ BL ∧ RW a.f4 := by
 obtain ⟨f0, f1, f2, f3, f4, f5⟩ := e
 simp only [RW, rwL_iff, rwA_iff]
mutual
def RT : S67 → Prop
 | ⟨nm, l⟩ => nm.size ≤ B47 ∧ l.length ≤ BL ∧ RTL l
def RTL : List S67 → Prop
 | [] => True
 | t :: l => RT t ∧ RTL l
end
theorem rtL_iff : ∀ l : List S67, RTL l ↔ ∀ x ∈ l, RT x
 | [] => by simp [RTL]
 | e :: l => by simp [RTL, rtL_iff l]
theorem rt_iff (t : S67) : RT t ↔ t.f0.size ≤ B47 ∧ t.f1.length ≤ BL ∧ ∀ x ∈ t.f1, RT x := by
 obtain ⟨f0, f1⟩ := t
 simp only [RT, rtL_iff]
def RC (c : S65) : Prop := c.f0.size ≤ B47 ∧ c.f1.length ≤ BL ∧ ∀ x ∈ c.f1, RT x
def RD (d : S56) : Prop := d.f0.size ≤ B47 ∧ (d.f1.length ≤ BL ∧ smallS d.f1) ∧ d.f2.length ≤ BL ∧ ∀ c ∈ d.f2, RC c
def RF (d : S34) : Prop := d.f0.size ≤ B47 ∧ (d.f1.length ≤ BL ∧ smallS d.f1) ∧ RW d.f2
section
variable {H : Type} {enc : TypeId × Value → H} {W : World} {base : Nat} {spare : Nat → Bool} {held : Bool}
def Sz (t : TypeId) (d : DataW H) : Prop := ∀ n ∈ DataW.weights Tryd.prog t d, n ≤ reachBytes
theorem pick {α : Type} {P : Nat → α → Prop} : ∀ (len : Nat), (∀ i, i < len → ∃ t, P i t) → ∃ l : List α, l.length = len ∧ ∀ i t, l[i]? = some t → P i t
 | 0, _ => ⟨[], rfl, fun i t h => by cases h⟩
 | len + 1, h => by
  obtain ⟨l, hl, hp⟩ := pick len (fun i hi => h i (by omega))
  obtain ⟨t, ht⟩ := h len (by omega)
  refine ⟨l ++ [t], by simp [hl], fun i u hu => ?_⟩
  by_cases hi : i < l.length
  ·rw [List.getElem?_append_left hi] at hu
   exact hp i u hu
  ·rw [List.getElem?_append_right (by omega)] at hu
   have hz : i - l.length = 0 := by
    by_cases h0 : i - l.length = 0
    ·exact h0
    ·rw [List.getElem?_eq_none (by simp; omega)] at hu; cases hu
   rw [hz] at hu
   obtain rfl := Option.some.inj hu
   obtain rfl : i = len := by omega
   exact ht
theorem add_add (a : Addr) (m n : Nat) : (a.add m).add n = a.add (m + n) := by
 unfold Addr.add
 by_cases hm : m = 0
 ·subst hm; simp
 ·by_cases hn : n = 0
  ·subst hn; simp [hm]
  ·simp [hm, hn, Nat.add_assoc]
theorem row_C {α : Type} (d : Kd α) {t : TypeId} (hd : Tryd.prog.cellsOf t = d.sz) {ad : Addr} {len : Nat} (hm : len ≤ 9223372036854775807) {l : List α} (hl : l.length = len) (h : ∀ i x, l[i]? = some x → ∃ cs, W.cells? base (ad.add (i * Tryd.prog.cellsOf t)) (Tryd.prog.cellsOf t) = some cs ∧ d.K W x cs) : d.C W (some ad) l.length l := by
 refine ⟨rfl, by omega, fun _ => ⟨ad, rfl, fun j p hj => ?_⟩⟩
 obtain ⟨cs, h1, hK⟩ := h j p hj
 refine ⟨cs, d.K_len hK, hK, fun i u hu => ?_⟩
 obtain ⟨_, _, h4⟩ := World.cells?_some h1
 have h5 := h4 i (by rw [hd]; have := (List.getElem?_eq_some_iff.1 hu).1; rw [d.K_len hK] at this; exact this)
 rw [hd, add_add] at h5
 rw [h5, hu]
theorem len8 {len cap : Nat} (h1 : len ≤ cap) (h2 : cap ≤ maxLen) : len ≤ 9223372036854775807 := by unfold maxLen at h2; omega
theorem szAll {t : TypeId} {ds : List (DataW H)} {d : DataW H} (hd : d ∈ ds) : ∀ n ∈ DataW.weights Tryd.prog t d, n ∈ DataW.weightsAll Tryd.prog t ds := by
 induction ds with
 | nil => cases hd
 | cons e r ih =>
  intro n hn
  simp only [DataW.weightsAll, List.mem_append]
  rcases List.mem_cons.1 hd with rfl | hd
  ·exact .inl hn
  ·exact .inr (ih hd n hn)
theorem sz_elem {t e : TypeId} (ht : Tryd.prog.underlying t = some (.slice e)) {el sp : List (DataW H)} (h : Sz t (.slice el sp)) {d : DataW H} (hd : d ∈ el) : Sz e d := fun n hn => h n (by
 simp only [DataW.weights, ht, List.mem_cons, List.mem_append]
 exact .inr (.inl (szAll hd n hn)))
theorem sz_len {t e : TypeId} (ht : Tryd.prog.underlying t = some (.slice e)) {el sp : List (DataW H)} (h : Sz t (.slice el sp)) : el.length * Tryd.prog.bytesOf e ≤ reachBytes := by
 have := h ((el.length + sp.length) * Tryd.prog.bytesOf e) (by simp [DataW.weights, ht])
 exact Nat.le_trans (Nat.mul_le_mul_right _ (Nat.le_add_right _ _)) this
theorem bl_of {len by_ : Nat} (h : len * by_ ≤ reachBytes) (hb : 16 ≤ by_) : len ≤ BL := by
 have h1 := Nat.mul_le_mul_left len hb
 have h2 := reachBytes_lt
 unfold BL
 omega
theorem open_sl {α : Type} (d : Kd α) {t e : TypeId} (ht : Tryd.prog.underlying t = some (.slice e)) (hd : Tryd.prog.cellsOf e = d.sz) (hby : 16 ≤ Tryd.prog.bytesOf e) (P : α → Prop) {n : Nat} {cs : List Value} {x : DataW H × List MemPlace} (h : DataW.trod enc Tryd.prog W base spare held n t cs = some x) (hs : Sz t x.1)
  (ih : ∀ q, q < n → ∀ {cs : List Value} {x : DataW H × List MemPlace}, DataW.trod enc Tryd.prog W base spare held q e cs = some x → Sz e x.1 → ∃ y : α, d.K W y cs ∧ P y) : ∃ A c l, cs = [.slice A (l : List α).length c] ∧ d.C W A l.length l ∧ l.length ≤ c ∧ l.length ≤ BL ∧ ∀ y ∈ l, P y := by
 rcases DataW.trod_slice ht h with ⟨hc, _⟩ | ⟨a, len, cap, elems, rest, q, hq, hc, hx, hb, hlc, hcm, hel, he, _, _⟩
 ·exact ⟨none, 0, [], hc, Kd.C_nil _ _, Nat.le_refl _, Nat.zero_le _, fun s hs => by cases hs⟩
 ·rw [hx] at hs
  obtain ⟨l, hl, hp⟩ := pick (P := fun i (y : α) => ∃ cs', W.cells? base (a.add (i * Tryd.prog.cellsOf e)) (Tryd.prog.cellsOf e) = some cs' ∧ d.K W y cs' ∧ P y) len (fun i hi => by
   have h1 := he i hi
   rw [List.getElem?_eq_getElem (by omega)] at h1
   obtain ⟨cs', h2, h3⟩ := Option.bind_eq_some_iff.1 h1
   obtain ⟨y, hy, hr⟩ := ih q (by omega) h3 (sz_elem ht hs (List.mem_map.2 ⟨elems[i], List.getElem_mem _, rfl⟩))
   exact ⟨y, cs', h2, hy, hr⟩)
  subst hl
  refine ⟨some a, cap, l, hc, row_C (base := base) d (t := e) hd (len8 hlc hcm) rfl (fun i y hi => ?_), hlc, ?_, fun y hy => ?_⟩
  ·obtain ⟨cs', h2, hk, _⟩ := hp i y hi
   exact ⟨_, h2, hk⟩
  ·have h1 := sz_len ht hs
   rw [List.length_map, hel] at h1
   exact bl_of h1 hby
  ·obtain ⟨i, hi, rfl⟩ := List.getElem_of_mem hy
   obtain ⟨_, _, _, hr⟩ := hp i _ (List.getElem?_eq_getElem hi)
   exact hr
theorem sz_str {s : ByteArray} (h : Sz (H := H) 9 (.lit (.string s.data.toList))) : s.size ≤ B47 := by
 have h5 := h s.data.toList.length (by simp [DataW.weights])
 rw [Array.length_toList] at h5
 exact h5
theorem int64_of {n : Int} (h : (Lit.int .i64 n).wf = true) : -9223372036854775808 ≤ n ∧ n ≤ 9223372036854775807 := by
 have := h
 simp [Lit.wf, IntKind.min, IntKind.max, IntKind.signed, IntKind.bits] at this
 omega
theorem Zu {t ty : TypeId} {fs : Array Field} (ht : Tryd.prog.underlying t = some (.struct fs)) {parts : List (DataW H)} (h : Sz t (.agg parts)) {j : Nat} {d : DataW H} (hj : parts[j]? = some d) (hf : (fs.toList.map (·.type))[j]? = some ty) : Sz ty d := fun n hn => h n (by
 simp only [DataW.weights, ht]
 exact DataW.weights_mem_each hf hj n hn)
theorem open_str {n : Nat} {cs : List Value} {x : DataW H × List MemPlace} (h : DataW.trod enc Tryd.prog W base spare held n 9 cs = some x) (hs : Sz 9 x.1) : ∃ s : ByteArray, Kd.string.K W s cs ∧ s.size ≤ B47 := by
 obtain ⟨s, rfl, hx, _⟩ := DataW.trod_string Tryd.underlying9 h
 rw [hx] at hs
 exact ⟨s, rfl, sz_str hs⟩
theorem open_ss {n : Nat} {cs : List Value} {x : DataW H × List MemPlace} (h : DataW.trod enc Tryd.prog W base spare held n 25 cs = some x) (hs : Sz 25 x.1) : ∃ A c l, cs = [.slice A (l : List ByteArray).length c] ∧ Kd.string.C W A l.length l ∧ l.length ≤ c ∧ l.length ≤ BL ∧ smallS l :=
 open_sl Kd.string Tryd.underlying25 (by kernel_rfl) (Nat.le_of_ble_eq_true (by kernel_rfl)) (fun s => s.size ≤ B47) h hs (fun q _ => open_str)
theorem list6 {cs : List Value} (h : cs.length = 6) : ∃ c0 c1 c2 c3 c4 c5, cs = [c0, c1, c2, c3, c4, c5] := by
 match cs, h with
 | [c0, c1, c2, c3, c4, c5], _ => exact ⟨c0, c1, c2, c3, c4, c5, rfl⟩
theorem list10 {cs : List Value} (h : cs.length = 10) : ∃ c0 c1 c2 c3 c4 c5 c6 c7 c8 c9, cs = [c0, c1, c2, c3, c4, c5, c6, c7, c8, c9] := by
 match cs, h with
 | [c0, c1, c2, c3, c4, c5, c6, c7, c8, c9], _ => exact ⟨c0, c1, c2, c3, c4, c5, c6, c7, c8, c9, rfl⟩
theorem list8 {cs : List Value} (h : cs.length = 8) : ∃ c0 c1 c2 c3 c4 c5 c6 c7, cs = [c0, c1, c2, c3, c4, c5, c6, c7] := by
 match cs, h with
 | [c0, c1, c2, c3, c4, c5, c6, c7], _ => exact ⟨c0, c1, c2, c3, c4, c5, c6, c7, rfl⟩
theorem list3 {cs : List Value} (h : cs.length = 3) : ∃ c0 c1 c2, cs = [c0, c1, c2] := by
 match cs, h with
 | [c0, c1, c2], _ => exact ⟨c0, c1, c2, rfl⟩
theorem list2 {cs : List Value} (h : cs.length = 2) : ∃ c0 c1, cs = [c0, c1] := by
 match cs, h with
 | [c0, c1], _ => exact ⟨c0, c1, rfl⟩
def RA (a : S88) : Prop := Ok1 a.f1 a.f2 a.f3 ∧ a.f3.length ≤ BL ∧ RW a.f4
set_option maxRecDepth 100000 in
theorem open_A {n : Nat} (ih : ∀ (m : Nat), m < n → ∀ {cs : List Value} {x : DataW H × List MemPlace}, DataW.trod enc Tryd.prog W base spare held m 29 cs = some x → Sz 29 x.1 → ∃ t : S29, k29.K W t cs ∧ RW t) {cs : List Value} {x : DataW H × List MemPlace} (h : DataW.trod enc Tryd.prog W base spare held n 88 cs = some x) (hs : Sz 88 x.1) :
  ∃ a : S88, k88.K W a cs ∧ RA a := by
 obtain ⟨xs, m, hfu, rfl, hl, hlen, hf⟩ := DataW.trod_struct Tryd.underlying88 h
 obtain ⟨c0, c1, c2, c3, c4, c5, c6, c7, c8, c9, rfl⟩ := list10 (show cs.length = 10 from hl.trans (by kernel_rfl))
 match xs, hlen with
 | [y0, y1, y2, y3, y4], _ =>
  have g0 : DataW.trod enc Tryd.prog W base spare held m 3 [c0] = some y0 := hf 0 _ rfl
  have g1 : DataW.trod enc Tryd.prog W base spare held m 9 [c1] = some y1 := hf 1 _ rfl
  have g2 : DataW.trod enc Tryd.prog W base spare held m 2 [c2] = some y2 := hf 2 _ rfl
  have g3 : DataW.trod enc Tryd.prog W base spare held m 25 [c3] = some y3 := hf 3 _ rfl
  have g4 : DataW.trod enc Tryd.prog W base spare held m 29 [c4, c5, c6, c7, c8, c9] = some y4 := hf 4 _ rfl
  obtain ⟨n0, e0, _, _⟩ := DataW.trod_int Tryd.underlying3 g0
  obtain ⟨t1, e1, s1⟩ := open_str g1 (Zu Tryd.underlying88 hs (j := 1) rfl rfl)
  obtain ⟨n2, e2, _, w2⟩ := DataW.trod_int Tryd.underlying2 g2
  obtain ⟨A3, d3, l3, e3, hC3, hc3, hb3, hsm⟩ := open_ss g3 (Zu Tryd.underlying88 hs (j := 3) rfl rfl)
  obtain ⟨t, hk, hr⟩ := ih m (by omega) g4 (Zu Tryd.underlying88 hs (j := 4) rfl rfl)
  obtain ⟨A7, d7, A8, d8, A9, d9, e4, m7, h7, m8, h8, m9, h9⟩ := k29_open hk
  have e1 : [c1] = [Value.string t1] := e1
  simp only [List.cons.injEq, and_true] at e0 e1 e2 e3 e4
  obtain ⟨rfl, rfl, rfl, rfl, rfl, rfl⟩ := e4
  subst e0 e1 e2 e3
  exact ⟨⟨n0, t1, n2, l3, t⟩, k88_mk W ⟨n0, t1, n2, l3, t⟩ hc3 hC3 m7 h7 m8 h8 m9 h9, ⟨s1, (int64_of w2).1, (int64_of w2).2, hsm⟩, hb3, hr⟩
set_option maxRecDepth 100000 in
theorem open_E : ∀ (N n : Nat), n ≤ N → ∀ {cs : List Value} {x : DataW H × List MemPlace}, DataW.trod enc Tryd.prog W base spare held n 29 cs = some x → Sz 29 x.1 → ∃ t : S29, k29.K W t cs ∧ RW t
 | 0, n, hn, cs, x, h, _ => by
  obtain rfl : n = 0 := by omega
  simp [DataW.trod] at h
 | N + 1, n, hn, cs, x, h, hs => by
  obtain ⟨xs, m, hfu, rfl, hl, hlen, hf⟩ := DataW.trod_struct Tryd.underlying29 h
  obtain ⟨c0, c1, c2, c3, c4, c5, rfl⟩ := list6 (show cs.length = 6 from hl.trans (by kernel_rfl))
  match xs, hlen with
  | [y0, y1, y2, y3, y4, y5], _ =>
   have g0 : DataW.trod enc Tryd.prog W base spare held m 3 [c0] = some y0 := hf 0 _ rfl
   have g1 : DataW.trod enc Tryd.prog W base spare held m 9 [c1] = some y1 := hf 1 _ rfl
   have g2 : DataW.trod enc Tryd.prog W base spare held m 2 [c2] = some y2 := hf 2 _ rfl
   have g3 : DataW.trod enc Tryd.prog W base spare held m 25 [c3] = some y3 := hf 3 _ rfl
   have g4 : DataW.trod enc Tryd.prog W base spare held m 26 [c4] = some y4 := hf 4 _ rfl
   have g5 : DataW.trod enc Tryd.prog W base spare held m 27 [c5] = some y5 := hf 5 _ rfl
   obtain ⟨n0, e0, _, _⟩ := DataW.trod_int Tryd.underlying3 g0
   obtain ⟨t1, e1, s1⟩ := open_str g1 (Zu Tryd.underlying29 hs (j := 1) rfl rfl)
   obtain ⟨n2, e2, _, w2⟩ := DataW.trod_int Tryd.underlying2 g2
   obtain ⟨A3, d3, l3, e3, hC3, hc3, hb3, hsm⟩ := open_ss g3 (Zu Tryd.underlying29 hs (j := 3) rfl rfl)
   have IH : ∀ (q : Nat), q < m → ∀ {cs : List Value} {x : DataW H × List MemPlace}, DataW.trod enc Tryd.prog W base spare held q 29 cs = some x → Sz 29 x.1 → ∃ t : S29, k29.K W t cs ∧ RW t := fun q hq => open_E N q (by omega)
   obtain ⟨A4, d4, l4, e4, hC4, hc4, hb4, hr4⟩ := open_sl k29 Tryd.underlying26 (by kernel_rfl) (Nat.le_of_ble_eq_true (by kernel_rfl)) RW g4 (Zu Tryd.underlying29 hs (j := 4) rfl rfl) IH
   obtain ⟨A5, d5, l5, e5, hC5, hc5, hb5, hr5⟩ := open_sl k88 Tryd.underlying27 (by kernel_rfl) (Nat.le_of_ble_eq_true (by kernel_rfl)) RA g5 (Zu Tryd.underlying29 hs (j := 5) rfl rfl) (fun q hq => open_A (n := q) (fun p hp => IH p (by omega)))
   have e1 : [c1] = [Value.string t1] := e1
   simp only [List.cons.injEq, and_true] at e0 e1 e2 e3 e4 e5
   subst e0 e1 e2 e3 e4 e5
   exact ⟨⟨n0, t1, n2, l3, l4, l5⟩, k29_mk W ⟨n0, t1, n2, l3, l4, l5⟩ hc3 hC3 hc4 hC4 hc5 hC5, (rw_iff _).2 ⟨⟨⟨s1, (int64_of w2).1, (int64_of w2).2, hsm⟩, hb3, hb4, hb5⟩, hr4, hr5⟩⟩
set_option maxRecDepth 100000 in
theorem open_T : ∀ (N n : Nat), n ≤ N → ∀ {cs : List Value} {x : DataW H × List MemPlace}, DataW.trod enc Tryd.prog W base spare held n 67 cs = some x → Sz 67 x.1 → ∃ t : S67, k67.K W t cs ∧ RT t
 | 0, n, hn, cs, x, h, _ => by
  obtain rfl : n = 0 := by omega
  simp [DataW.trod] at h
 | N + 1, n, hn, cs, x, h, hs => by
  obtain ⟨xs, m, hfu, rfl, hl, hlen, hf⟩ := DataW.trod_struct Tryd.underlying67 h
  obtain ⟨c0, c1, rfl⟩ := list2 (show cs.length = 2 from hl.trans (by kernel_rfl))
  match xs, hlen with
  | [y0, y1], _ =>
   have g0 : DataW.trod enc Tryd.prog W base spare held m 9 [c0] = some y0 := hf 0 _ rfl
   have g1 : DataW.trod enc Tryd.prog W base spare held m 63 [c1] = some y1 := hf 1 _ rfl
   obtain ⟨t0, e0, s0⟩ := open_str g0 (Zu Tryd.underlying67 hs (j := 0) rfl rfl)
   obtain ⟨A1, d1, l1, e1, hC1, hc1, hb1, hr1⟩ := open_sl k67 Tryd.underlying63 (by kernel_rfl) (Nat.le_of_ble_eq_true (by kernel_rfl)) RT g1 (Zu Tryd.underlying67 hs (j := 1) rfl rfl) (fun q hq => open_T N q (by omega))
   have e0 : [c0] = [Value.string t0] := e0
   simp only [List.cons.injEq, and_true] at e0 e1
   subst e0 e1
   exact ⟨⟨t0, l1⟩, k67_mk W ⟨t0, l1⟩ hc1 hC1, (rt_iff _).2 ⟨s0, hb1, hr1⟩⟩
set_option maxRecDepth 100000 in
theorem open_Cs {n : Nat} {cs : List Value} {x : DataW H × List MemPlace} (h : DataW.trod enc Tryd.prog W base spare held n 65 cs = some x) (hs : Sz 65 x.1) : ∃ c : S65, k65.K W c cs ∧ RC c := by
 obtain ⟨xs, m, hfu, rfl, hl, hlen, hf⟩ := DataW.trod_struct Tryd.underlying65 h
 obtain ⟨c0, c1, rfl⟩ := list2 (show cs.length = 2 from hl.trans (by kernel_rfl))
 match xs, hlen with
 | [y0, y1], _ =>
  have g0 : DataW.trod enc Tryd.prog W base spare held m 9 [c0] = some y0 := hf 0 _ rfl
  have g1 : DataW.trod enc Tryd.prog W base spare held m 63 [c1] = some y1 := hf 1 _ rfl
  obtain ⟨t0, e0, s0⟩ := open_str g0 (Zu Tryd.underlying65 hs (j := 0) rfl rfl)
  obtain ⟨A1, d1, l1, e1, hC1, hc1, hb1, hr1⟩ := open_sl k67 Tryd.underlying63 (by kernel_rfl) (Nat.le_of_ble_eq_true (by kernel_rfl)) RT g1 (Zu Tryd.underlying65 hs (j := 1) rfl rfl) (fun q hq => open_T q q (Nat.le_refl _))
  have e0 : [c0] = [Value.string t0] := e0
  simp only [List.cons.injEq, and_true] at e0 e1
  subst e0 e1
  exact ⟨⟨t0, l1⟩, k65_mk W ⟨t0, l1⟩ hc1 hC1, s0, hb1, hr1⟩
set_option maxRecDepth 100000 in
theorem open_Dt {n : Nat} {cs : List Value} {x : DataW H × List MemPlace} (h : DataW.trod enc Tryd.prog W base spare held n 56 cs = some x) (hs : Sz 56 x.1) : ∃ c : S56, k56.K W c cs ∧ RD c := by
 obtain ⟨xs, m, hfu, rfl, hl, hlen, hf⟩ := DataW.trod_struct Tryd.underlying56 h
 obtain ⟨c0, c1, c2, rfl⟩ := list3 (show cs.length = 3 from hl.trans (by kernel_rfl))
 match xs, hlen with
 | [y0, y1, y2], _ =>
  have g0 : DataW.trod enc Tryd.prog W base spare held m 9 [c0] = some y0 := hf 0 _ rfl
  have g1 : DataW.trod enc Tryd.prog W base spare held m 25 [c1] = some y1 := hf 1 _ rfl
  have g2 : DataW.trod enc Tryd.prog W base spare held m 54 [c2] = some y2 := hf 2 _ rfl
  obtain ⟨t0, e0, s0⟩ := open_str g0 (Zu Tryd.underlying56 hs (j := 0) rfl rfl)
  obtain ⟨A1, d1, l1, e1, hC1, hc1, hb1, hr1⟩ := open_ss g1 (Zu Tryd.underlying56 hs (j := 1) rfl rfl)
  obtain ⟨A2, d2, l2, e2, hC2, hc2, hb2, hr2⟩ := open_sl k65 Tryd.underlying54 (by kernel_rfl) (Nat.le_of_ble_eq_true (by kernel_rfl)) RC g2 (Zu Tryd.underlying56 hs (j := 2) rfl rfl) (fun q hq => open_Cs)
  have e0 : [c0] = [Value.string t0] := e0
  simp only [List.cons.injEq, and_true] at e0 e1 e2
  subst e0 e1 e2
  exact ⟨⟨t0, l1, l2⟩, k56_mk W ⟨t0, l1, l2⟩ hc1 hC1 hc2 hC2, s0, ⟨hb1, hr1⟩, hb2, hr2⟩
set_option maxRecDepth 100000 in
theorem open_Df {n : Nat} {cs : List Value} {x : DataW H × List MemPlace} (h : DataW.trod enc Tryd.prog W base spare held n 34 cs = some x) (hs : Sz 34 x.1) : ∃ c : S34, k34.K W c cs ∧ RF c := by
 obtain ⟨xs, m, hfu, rfl, hl, hlen, hf⟩ := DataW.trod_struct Tryd.underlying34 h
 obtain ⟨c0, c1, c2, c3, c4, c5, c6, c7, rfl⟩ := list8 (show cs.length = 8 from hl.trans (by kernel_rfl))
 match xs, hlen with
 | [y0, y1, y2], _ =>
  have g0 : DataW.trod enc Tryd.prog W base spare held m 9 [c0] = some y0 := hf 0 _ rfl
  have g1 : DataW.trod enc Tryd.prog W base spare held m 25 [c1] = some y1 := hf 1 _ rfl
  have g2 : DataW.trod enc Tryd.prog W base spare held m 29 [c2, c3, c4, c5, c6, c7] = some y2 := hf 2 _ rfl
  obtain ⟨t0, e0, s0⟩ := open_str g0 (Zu Tryd.underlying34 hs (j := 0) rfl rfl)
  obtain ⟨A1, d1, l1, e1, hC1, hc1, hb1, hr1⟩ := open_ss g1 (Zu Tryd.underlying34 hs (j := 1) rfl rfl)
  obtain ⟨t, hk, hr⟩ := open_E m m (Nat.le_refl _) g2 (Zu Tryd.underlying34 hs (j := 2) rfl rfl)
  obtain ⟨A7, d7, A8, d8, A9, d9, e4, m7, h7, m8, h8, m9, h9⟩ := k29_open hk
  have e0 : [c0] = [Value.string t0] := e0
  simp only [List.cons.injEq, and_true] at e0 e1 e4
  obtain ⟨rfl, rfl, rfl, rfl, rfl, rfl⟩ := e4
  subst e0 e1
  exact ⟨⟨t0, l1, t⟩, k34_mk W ⟨t0, l1, t⟩ hc1 hC1 m7 h7 m8 h8 m9 h9, s0, ⟨hb1, hr1⟩, hr⟩
set_option maxRecDepth 100000 in
theorem arg_P {ts : List TypeId} {ds : List (DataW H)} {j : Nat} {r : Reach} {b0 : Nat} {v : Value} {d : DataW H} {p : List MemPlace} (hsz : (DataW.weightsEach Tryd.prog ts ds).all (· ≤ reachBytes) = true) (ht : ts[j]? = some 38) (hd : ds[j]? = some d)
  (hv : Value.okWide Tryd.prog W r b0 38 v) (h : DataW.Trod enc Tryd.prog W base spare held 38 v d p) : ∃ (ls : List S56) (fs : List S34) (Ad Af : Option Addr) (cd cf : Nat), v = .agg #[.slice Ad ls.length cd, .slice Af fs.length cf] ∧ k56.C W Ad ls.length ls ∧ ls.length ≤ cd ∧ k34.C W Af fs.length fs ∧ fs.length ≤ cf ∧ (ls.length ≤ BL ∧ ∀ x ∈ ls, RD x) ∧ fs.length ≤ BL ∧ ∀ x ∈ fs, RF x := by
 obtain ⟨cs, rfl, hs⟩ := okWide_struct Tryd.underlying38 hv
 obtain ⟨fuel, hf⟩ := h
 have hz : Sz 38 d := fun n hn => by
  have h1 := List.all_eq_true.1 hsz n (DataW.weights_mem_each ht hd n hn)
  simpa using h1
 have hf2 : DataW.trod enc Tryd.prog W base spare held fuel 38 cs.toList = some (d, p) := hf
 clear hf
 obtain ⟨xs, m, hfu, hx, hl, hlen, hq⟩ := DataW.trod_struct Tryd.underlying38 hf2
 clear hf2
 obtain rfl := (Prod.mk.inj hx).1
 clear hx
 have hl : cs.toList.length = 2 := hl.trans (by kernel_rfl)
 obtain ⟨c0, c1, hc⟩ := list2 hl
 match xs, hlen with
 | [y0, y1], _ =>
  rw [hc] at hq
  have g0 : DataW.trod enc Tryd.prog W base spare held m 36 [c0] = some y0 := hq 0 _ rfl
  have g1 : DataW.trod enc Tryd.prog W base spare held m 24 [c1] = some y1 := hq 1 _ rfl
  obtain ⟨A0, d0, l0, e0, hC0, hc0, hb0, hr0⟩ := open_sl k56 Tryd.underlying36 (by kernel_rfl) (Nat.le_of_ble_eq_true (by kernel_rfl)) RD g0 (Zu Tryd.underlying38 hz (j := 0) rfl rfl) (fun q hq => open_Dt)
  obtain ⟨A1, d1, l1, e1, hC1, hc1, hb1, hr1⟩ := open_sl k34 Tryd.underlying24 (by kernel_rfl) (Nat.le_of_ble_eq_true (by kernel_rfl)) RF g1 (Zu Tryd.underlying38 hz (j := 1) rfl rfl) (fun q hq => open_Df)
  simp only [List.cons.injEq, and_true] at e0 e1
  subst e0 e1
  refine ⟨l0, l1, A0, A1, d0, d1, ?_, hC0, hc0, hC1, hc1, ⟨hb0, hr0⟩, hb1, hr1⟩
  have h2 : cs = [Value.slice A0 l0.length d0, .slice A1 l1.length d1].toArray := by rw [← hc]
  rw [h2]
end
end Go.Proofs.YtlgpoigbadajnaaDoor.DepA
