/- How an expression that came in reads: facts on the data of a row's arguments. No condition. -/
import Derived.Test.YtmoeekidmkhkoaaDoorSFreeLR
import Derived.Test.YtmoeekidmkhkoaaDoorSRowStr
namespace Go.Proofs.YtmoeekidmkhkoaaDoor.RowE
open Go.ChangeShapes Go.WideShapes Go.ChangeAt Go.RowKit Go.Deep Go.Joins Go.Proofs.YtmoeekidmkhkoaaDoorW.PrintWords Go.Proofs.YtmoeekidmkhkoaaDoor.PFreeA Go.Proofs.YtmoeekidmkhkoaaDoor.FreeA
set_option linter.unusedVariables false
set_option linter.unusedSimpArgs false
variable {H : Type} {enc : TypeId × Value → H} {W : World} {base : Nat} {spare : Nat → Bool} {held : Bool}
def Sz (t : TypeId) (d : DataW H) : Prop := ∀ n ∈ DataW.weights Tryd.prog t d, n ≤ reachBytes
theorem pick {α : Type} {P : Nat → α → Prop} : ∀ (len : Nat), (∀ i, i < len → ∃ t, P i t) → ∃ l : List α, l.length = len ∧ ∀ i t, l[i]? = some t → P i t
 | 0, _ => ⟨[], rfl, fun i t h => by cases h⟩
 | len + 1, h => by
  obtain ⟨l, hl, hp⟩ := pick len (fun i hi => h i (by omega))
  obtain ⟨t, ht⟩ := h len (by omega)
  refine ⟨l ++ [t], by simp [hl], fun i u hu => ?_⟩
  by_cases hi : i < l.length
  ·rw [List.getElem?_append_left hi] at hu
   exact hp i u hu
  ·rw [List.getElem?_append_right (by omega)] at hu
   have hz : i - l.length = 0 := by
    by_cases h0 : i - l.length = 0
    ·exact h0
    ·rw [List.getElem?_eq_none (by simp; omega)] at hu; cases hu
   rw [hz] at hu
   obtain rfl := Option.some.inj hu
   obtain rfl : i = len := by omega
   exact ht
theorem add_add (a : Addr) (m n : Nat) : (a.add m).add n = a.add (m + n) := by
 unfold Addr.add
 by_cases hm : m = 0
 ·subst hm; simp
 ·by_cases hn : n = 0
  ·subst hn; simp [hm]
  ·simp [hm, hn, Nat.add_assoc]
theorem row_C {α : Type} (d : Kd α) {t : TypeId} (hd : Tryd.prog.cellsOf t = d.sz) {ad : Addr} {len : Nat} (hm : len ≤ 9223372036854775807) {l : List α} (hl : l.length = len) (h : ∀ i x, l[i]? = some x → ∃ cs, W.cells? base (ad.add (i * Tryd.prog.cellsOf t)) (Tryd.prog.cellsOf t) = some cs ∧ d.K W x cs) : d.C W (some ad) l.length l := by
 refine ⟨rfl, by omega, fun _ => ⟨ad, rfl, fun j p hj => ?_⟩⟩
 obtain ⟨cs, h1, hK⟩ := h j p hj
 refine ⟨cs, d.K_len hK, hK, fun i u hu => ?_⟩
 obtain ⟨_, _, h4⟩ := World.cells?_some h1
 have h5 := h4 i (by rw [hd]; have := (List.getElem?_eq_some_iff.1 hu).1; rw [d.K_len hK] at this; exact this)
 rw [hd, add_add] at h5
 rw [h5, hu]
theorem len8 {len cap : Nat} (h1 : len ≤ cap) (h2 : cap ≤ maxLen) : len ≤ 9223372036854775807 := by unfold maxLen at h2; omega
theorem szAll {t : TypeId} {ds : List (DataW H)} {d : DataW H} (hd : d ∈ ds) : ∀ n ∈ DataW.weights Tryd.prog t d, n ∈ DataW.weightsAll Tryd.prog t ds := by
 induction ds with
 | nil => cases hd
 | cons e r ih =>
  intro n hn
  simp only [DataW.weightsAll, List.mem_append]
  rcases List.mem_cons.1 hd with rfl | hd
  ·exact .inl hn
  ·exact .inr (ih hd n hn)
theorem sz_elem {t e : TypeId} (ht : Tryd.prog.underlying t = some (.slice e)) {el sp : List (DataW H)} (h : Sz t (.slice el sp)) {d : DataW H} (hd : d ∈ el) : Sz e d := fun n hn => h n (by
 simp only [DataW.weights, ht, List.mem_cons, List.mem_append]
 exact .inr (.inl (szAll hd n hn)))
theorem sz_len {t e : TypeId} (ht : Tryd.prog.underlying t = some (.slice e)) {el sp : List (DataW H)} (h : Sz t (.slice el sp)) : el.length * Tryd.prog.bytesOf e ≤ reachBytes := by
 have := h ((el.length + sp.length) * Tryd.prog.bytesOf e) (by simp [DataW.weights, ht])
 exact Nat.le_trans (Nat.mul_le_mul_right _ (Nat.le_add_right _ _)) this
theorem open_ss {n : Nat} {cs : List Value} {x : DataW H × List MemPlace} (h : DataW.trod enc Tryd.prog W base spare held n 22 cs = some x) (hs : Sz 22 x.1) : ∃ A c l, cs = [.slice A (l : List ByteArray).length c] ∧ Kd.string.C W A l.length l ∧ l.length ≤ c ∧ l.length ≤ BL ∧ small l B47 := by
 rcases DataW.trod_slice Tryd.underlying22 h with ⟨rfl, _⟩ | ⟨a, len, cap, elems, rest, m, _, rfl, rfl, hb, hlc, hcm, hel, he, _, _⟩
 ·exact ⟨none, 0, [], rfl, Kd.C_nil _ _, Nat.le_refl _, Nat.zero_le _, fun s hs => by cases hs⟩
 ·obtain ⟨l, hl, hp⟩ := pick (P := fun i (s : ByteArray) => W.cells? base (a.add (i * Tryd.prog.cellsOf 9)) (Tryd.prog.cellsOf 9) = some [.string s] ∧ s.size ≤ B47) len (fun i hi => by
   have h1 := he i hi
   rw [List.getElem?_eq_getElem (by omega)] at h1
   obtain ⟨cs', h2, h3⟩ := Option.bind_eq_some_iff.1 h1
   obtain ⟨s, rfl, hx, _⟩ := DataW.trod_string Tryd.underlying9 h3
   refine ⟨s, h2, ?_⟩
   have h4 := sz_elem Tryd.underlying22 hs (List.mem_map.2 ⟨elems[i], List.getElem_mem _, rfl⟩)
   rw [hx] at h4
   have h5 := h4 s.data.toList.length (by simp [DataW.weights])
   rw [Array.length_toList] at h5
   exact h5)
  subst hl
  refine ⟨some a, cap, l, rfl, row_C (base := base) Kd.string (t := 9) (by kernel_rfl) (len8 hlc hcm) rfl (fun i s hi => ⟨_, (hp i s hi).1, rfl⟩), hlc, ?_, fun s hs' => ?_⟩
  ·have h1 := sz_len Tryd.underlying22 hs
   rw [List.length_map, hel, show Tryd.prog.bytesOf 9 = 16 by kernel_rfl] at h1
   have h2 := reachBytes_lt
   unfold BL
   omega
  ·obtain ⟨i, hi, rfl⟩ := List.getElem_of_mem hs'
   exact (hp i _ (List.getElem?_eq_getElem hi)).2
def ECells (t : S33) (A3 A4 A5 : Option Addr) (c3 c4 c5 : Nat) : List Value := [.int .i64 t.f0, .string t.f1, .int .i64 t.f2, .slice A3 t.f3.length c3, .slice A4 t.f4.length c4, .slice A5 t.f5.length c5]
def OpenE (W : World) (cs : List Value) (t : S33) : Prop := ∃ A3 A4 A5 c3 c4 c5, cs = ECells t A3 A4 A5 c3 c4 c5 ∧ Kd.string.C W A3 t.f3.length t.f3 ∧ t.f3.length ≤ c3 ∧ k33.C W A4 t.f4.length t.f4 ∧ t.f4.length ≤ c4 ∧ k40.C W A5 t.f5.length t.f5 ∧ t.f5.length ≤ c5
theorem int64_of {n : Int} (h : (Lit.int .i64 n).wf = true) : -9223372036854775808 ≤ n ∧ n ≤ 9223372036854775807 := by
 have := h
 simp [Lit.wf, IntKind.min, IntKind.max, IntKind.signed, IntKind.bits] at this
 omega
theorem sz_part {t ty : TypeId} {fs : Array Field} (ht : Tryd.prog.underlying t = some (.struct fs)) {parts : List (DataW H)} (h : Sz t (.agg parts)) {j : Nat} {d : DataW H} (hj : parts[j]? = some d) (hf : (fs.toList.map (·.type))[j]? = some ty) : Sz ty d := fun n hn => h n (by
 simp only [DataW.weights, ht]
 exact DataW.weights_mem_each hf hj n hn)
theorem sz_str {s : ByteArray} (h : Sz (H := H) 9 (.lit (.string s.data.toList))) : s.size ≤ B47 := by
 have h5 := h s.data.toList.length (by simp [DataW.weights])
 rw [Array.length_toList] at h5
 exact h5
theorem bl_of {len by_ : Nat} (h : len * by_ ≤ reachBytes) (hb : 16 ≤ by_) : len ≤ BL := by
 have h1 := Nat.mul_le_mul_left len hb
 have h2 := reachBytes_lt
 unfold BL
 omega
def OpenA (W : World) (cs : List Value) (a : S40) : Prop := ∃ A3 c3 A7 A8 A9 c7 c8 c9, cs = [.int .i64 a.f0, .string a.f1, .int .i64 a.f2, .slice A3 a.f3.length c3] ++ ECells a.f4 A7 A8 A9 c7 c8 c9 ∧ Kd.string.C W A3 a.f3.length a.f3 ∧ a.f3.length ≤ c3 ∧ Kd.string.C W A7 a.f4.f3.length a.f4.f3 ∧ a.f4.f3.length ≤ c7 ∧ k33.C W A8 a.f4.f4.length a.f4.f4 ∧ a.f4.f4.length ≤ c8 ∧ k40.C W A9 a.f4.f5.length a.f4.f5 ∧ a.f4.f5.length ≤ c9
theorem list6 {cs : List Value} (h : cs.length = 6) : ∃ c0 c1 c2 c3 c4 c5, cs = [c0, c1, c2, c3, c4, c5] := by
 match cs, h with
 | [c0, c1, c2, c3, c4, c5], _ => exact ⟨c0, c1, c2, c3, c4, c5, rfl⟩
theorem list10 {cs : List Value} (h : cs.length = 10) : ∃ c0 c1 c2 c3 c4 c5 c6 c7 c8 c9, cs = [c0, c1, c2, c3, c4, c5, c6, c7, c8, c9] := by
 match cs, h with
 | [c0, c1, c2, c3, c4, c5, c6, c7, c8, c9], _ => exact ⟨c0, c1, c2, c3, c4, c5, c6, c7, c8, c9, rfl⟩
set_option maxRecDepth 100000 in
theorem open_A {n : Nat} (ih : ∀ (m : Nat), m < n → ∀ {cs : List Value} {x : DataW H × List MemPlace}, DataW.trod enc Tryd.prog W base spare held m 33 cs = some x → Sz 33 x.1 → ∃ t : S33, OpenE W cs t ∧ RW t) {cs : List Value} {x : DataW H × List MemPlace} (h : DataW.trod enc Tryd.prog W base spare held n 40 cs = some x) (hs : Sz 40 x.1) :
  ∃ a : S40, OpenA W cs a ∧ Ok1 a.f1 a.f2 a.f3 ∧ a.f3.length ≤ BL ∧ RW a.f4 := by
 obtain ⟨xs, m, hfu, rfl, hl, hlen, hf⟩ := DataW.trod_struct Tryd.underlying40 h
 obtain ⟨c0, c1, c2, c3, c4, c5, c6, c7, c8, c9, rfl⟩ := list10 (show cs.length = 10 from hl.trans (by kernel_rfl))
 match xs, hlen with
 | [y0, y1, y2, y3, y4], _ =>
  have g0 : DataW.trod enc Tryd.prog W base spare held m 3 [c0] = some y0 := hf 0 _ rfl
  have g1 : DataW.trod enc Tryd.prog W base spare held m 9 [c1] = some y1 := hf 1 _ rfl
  have g2 : DataW.trod enc Tryd.prog W base spare held m 2 [c2] = some y2 := hf 2 _ rfl
  have g3 : DataW.trod enc Tryd.prog W base spare held m 22 [c3] = some y3 := hf 3 _ rfl
  have g4 : DataW.trod enc Tryd.prog W base spare held m 33 [c4, c5, c6, c7, c8, c9] = some y4 := hf 4 _ rfl
  have s1 : Sz 9 y1.1 := sz_part Tryd.underlying40 hs (j := 1) rfl rfl
  have s3 : Sz 22 y3.1 := sz_part Tryd.underlying40 hs (j := 3) rfl rfl
  have s4 : Sz 33 y4.1 := sz_part Tryd.underlying40 hs (j := 4) rfl rfl
  obtain ⟨n0, e0, _, _⟩ := DataW.trod_int Tryd.underlying3 g0
  obtain ⟨t1, e1, z1, _⟩ := DataW.trod_string Tryd.underlying9 g1
  obtain ⟨n2, e2, _, w2⟩ := DataW.trod_int Tryd.underlying2 g2
  obtain ⟨A3, d3, l3, e3, hC3, hc3, hb3, hsm⟩ := open_ss g3 s3
  obtain ⟨t, ⟨A7, A8, A9, d7, d8, d9, e4, h7, m7, h8, m8, h9, m9⟩, hr⟩ := ih m (by omega) g4 s4
  rw [z1] at s1
  simp only [List.cons.injEq, and_true] at e0 e1 e2 e3
  subst e0 e1 e2 e3
  refine ⟨⟨n0, t1, n2, l3, t⟩, ⟨A3, d3, A7, A8, A9, d7, d8, d9, ?_, hC3, hc3, h7, m7, h8, m8, h9, m9⟩, ⟨sz_str s1, (int64_of w2).1, (int64_of w2).2, hsm⟩, hb3, hr⟩
  show _ = [Value.int .i64 n0, .string t1, .int .i64 n2, .slice A3 l3.length d3] ++ ECells t A7 A8 A9 d7 d8 d9
  rw [← e4]
  rfl
set_option maxRecDepth 100000 in
theorem open_E : ∀ (N n : Nat), n ≤ N → ∀ {cs : List Value} {x : DataW H × List MemPlace}, DataW.trod enc Tryd.prog W base spare held n 33 cs = some x → Sz 33 x.1 → ∃ t : S33, OpenE W cs t ∧ RW t
 | 0, n, hn, cs, x, h, _ => by
  obtain rfl : n = 0 := by omega
  simp [DataW.trod] at h
 | N + 1, n, hn, cs, x, h, hs => by
  obtain ⟨xs, m, hfu, rfl, hl, hlen, hf⟩ := DataW.trod_struct Tryd.underlying33 h
  obtain ⟨c0, c1, c2, c3, c4, c5, rfl⟩ := list6 (show cs.length = 6 from hl.trans (by kernel_rfl))
  match xs, hlen with
  | [y0, y1, y2, y3, y4, y5], _ =>
   have g0 : DataW.trod enc Tryd.prog W base spare held m 3 [c0] = some y0 := hf 0 _ rfl
   have g1 : DataW.trod enc Tryd.prog W base spare held m 9 [c1] = some y1 := hf 1 _ rfl
   have g2 : DataW.trod enc Tryd.prog W base spare held m 2 [c2] = some y2 := hf 2 _ rfl
   have g3 : DataW.trod enc Tryd.prog W base spare held m 22 [c3] = some y3 := hf 3 _ rfl
   have g4 : DataW.trod enc Tryd.prog W base spare held m 30 [c4] = some y4 := hf 4 _ rfl
   have g5 : DataW.trod enc Tryd.prog W base spare held m 31 [c5] = some y5 := hf 5 _ rfl
   have s1 : Sz 9 y1.1 := sz_part Tryd.underlying33 hs (j := 1) rfl rfl
   have s3 : Sz 22 y3.1 := sz_part Tryd.underlying33 hs (j := 3) rfl rfl
   have s4 : Sz 30 y4.1 := sz_part Tryd.underlying33 hs (j := 4) rfl rfl
   have s5 : Sz 31 y5.1 := sz_part Tryd.underlying33 hs (j := 5) rfl rfl
   obtain ⟨n0, e0, _, _⟩ := DataW.trod_int Tryd.underlying3 g0
   obtain ⟨t1, e1, z1, _⟩ := DataW.trod_string Tryd.underlying9 g1
   obtain ⟨n2, e2, _, w2⟩ := DataW.trod_int Tryd.underlying2 g2
   obtain ⟨A3, d3, l3, e3, hC3, hc3, hb3, hsm⟩ := open_ss g3 s3
   have IH : ∀ (q : Nat), q < m → ∀ {cs : List Value} {x : DataW H × List MemPlace}, DataW.trod enc Tryd.prog W base spare held q 33 cs = some x → Sz 33 x.1 → ∃ t : S33, OpenE W cs t ∧ RW t := fun q hq => open_E N q (by omega)
   have H4 : ∃ A c l, [c4] = [Value.slice A (l : List S33).length c] ∧ k33.C W A l.length l ∧ l.length ≤ c ∧ l.length ≤ BL ∧ ∀ t ∈ l, RW t := by
    rcases DataW.trod_slice Tryd.underlying30 g4 with ⟨hc, _⟩ | ⟨a, len, cap, elems, rest, q, hq, hc, hx, hb, hlc, hcm, hel, he, _, _⟩
    ·exact ⟨none, 0, [], hc, Kd.C_nil _ _, Nat.le_refl _, Nat.zero_le _, fun s hs => by cases hs⟩
    ·rw [hx] at s4
     obtain ⟨l, hl, hp⟩ := pick (P := fun i (t : S33) => ∃ cs', W.cells? base (a.add (i * Tryd.prog.cellsOf 33)) (Tryd.prog.cellsOf 33) = some cs' ∧ OpenE W cs' t ∧ RW t) len (fun i hi => by
      have h1 := he i hi
      rw [List.getElem?_eq_getElem (by omega)] at h1
      obtain ⟨cs', h2, h3⟩ := Option.bind_eq_some_iff.1 h1
      obtain ⟨t, ht, hr⟩ := IH q (by omega) h3 (sz_elem Tryd.underlying30 s4 (List.mem_map.2 ⟨elems[i], List.getElem_mem _, rfl⟩))
      exact ⟨t, cs', h2, ht, hr⟩)
     subst hl
     refine ⟨some a, cap, l, hc, row_C (base := base) k33 (t := 33) (by kernel_rfl) (len8 hlc hcm) rfl (fun i t hi => ?_), hlc, ?_, fun t ht => ?_⟩
     ·obtain ⟨cs', h2, ⟨A3, A4, A5, c3, c4, c5, rfl, p3, q3, p4, q4, p5, q5⟩, _⟩ := hp i t hi
      exact ⟨_, h2, k33_mk W t q3 p3 q4 p4 q5 p5⟩
     ·have h1 := sz_len Tryd.underlying30 s4
      rw [List.length_map, hel] at h1
      exact bl_of h1 (Nat.le_of_ble_eq_true (by kernel_rfl))
     ·obtain ⟨i, hi, rfl⟩ := List.getElem_of_mem ht
      obtain ⟨_, _, _, hr⟩ := hp i _ (List.getElem?_eq_getElem hi)
      exact hr
   have H5 : ∃ A c l, [c5] = [Value.slice A (l : List S40).length c] ∧ k40.C W A l.length l ∧ l.length ≤ c ∧ l.length ≤ BL ∧ ∀ a ∈ l, Ok1 a.f1 a.f2 a.f3 ∧ a.f3.length ≤ BL ∧ RW a.f4 := by
    rcases DataW.trod_slice Tryd.underlying31 g5 with ⟨hc, _⟩ | ⟨a, len, cap, elems, rest, q, hq, hc, hx, hb, hlc, hcm, hel, he, _, _⟩
    ·exact ⟨none, 0, [], hc, Kd.C_nil _ _, Nat.le_refl _, Nat.zero_le _, fun s hs => by cases hs⟩
    ·rw [hx] at s5
     obtain ⟨l, hl, hp⟩ := pick (P := fun i (t : S40) => ∃ cs', W.cells? base (a.add (i * Tryd.prog.cellsOf 40)) (Tryd.prog.cellsOf 40) = some cs' ∧ OpenA W cs' t ∧ Ok1 t.f1 t.f2 t.f3 ∧ t.f3.length ≤ BL ∧ RW t.f4) len (fun i hi => by
      have h1 := he i hi
      rw [List.getElem?_eq_getElem (by omega)] at h1
      obtain ⟨cs', h2, h3⟩ := Option.bind_eq_some_iff.1 h1
      obtain ⟨t, ht, hr⟩ := open_A (n := q) (fun p hp => IH p (by omega)) h3 (sz_elem Tryd.underlying31 s5 (List.mem_map.2 ⟨elems[i], List.getElem_mem _, rfl⟩))
      exact ⟨t, cs', h2, ht, hr⟩)
     subst hl
     refine ⟨some a, cap, l, hc, row_C (base := base) k40 (t := 40) (by kernel_rfl) (len8 hlc hcm) rfl (fun i t hi => ?_), hlc, ?_, fun t ht => ?_⟩
     ·obtain ⟨cs', h2, ⟨A3, c3, A7, A8, A9, c7, c8, c9, rfl, p3, q3, p7, q7, p8, q8, p9, q9⟩, _⟩ := hp i t hi
      exact ⟨_, h2, k40_mk W t q3 p3 q7 p7 q8 p8 q9 p9⟩
     ·have h1 := sz_len Tryd.underlying31 s5
      rw [List.length_map, hel] at h1
      exact bl_of h1 (Nat.le_of_ble_eq_true (by kernel_rfl))
     ·obtain ⟨i, hi, rfl⟩ := List.getElem_of_mem ht
      obtain ⟨_, _, _, hr⟩ := hp i _ (List.getElem?_eq_getElem hi)
      exact hr
   obtain ⟨A4, d4, l4, e4, hC4, hc4, hb4, hr4⟩ := H4
   obtain ⟨A5, d5, l5, e5, hC5, hc5, hb5, hr5⟩ := H5
   rw [z1] at s1
   simp only [List.cons.injEq, and_true] at e0 e1 e2 e3 e4 e5
   subst e0 e1 e2 e3 e4 e5
   exact ⟨⟨n0, t1, n2, l3, l4, l5⟩, ⟨A3, A4, A5, d3, d4, d5, rfl, hC3, hc3, hC4, hc4, hC5, hc5⟩, (rw_iff _).2 ⟨⟨⟨sz_str s1, (int64_of w2).1, (int64_of w2).2, hsm⟩, hb3, hb4, hb5⟩, hr4, hr5⟩⟩
theorem arg_st33 {ts : List TypeId} {ds : List (DataW H)} {j : Nat} {r : Reach} {b0 : Nat} {v : Value} {d : DataW H} {p : List MemPlace} (hsz : (DataW.weightsEach Tryd.prog ts ds).all (· ≤ reachBytes) = true) (ht : ts[j]? = some 33) (hd : ds[j]? = some d)
  (hv : Value.okWide Tryd.prog W r b0 33 v) (h : DataW.Trod enc Tryd.prog W base spare held 33 v d p) : ∃ (t : S33) (A3 A4 A5 : Option Addr) (c3 c4 c5 : Nat), v = .agg #[.int .i64 t.f0, .string t.f1, .int .i64 t.f2, .slice A3 t.f3.length c3, .slice A4 t.f4.length c4, .slice A5 t.f5.length c5] ∧ Kd.string.C W A3 t.f3.length t.f3 ∧ t.f3.length ≤ c3 ∧ k33.C W A4 t.f4.length t.f4 ∧ t.f4.length ≤ c4 ∧ k40.C W A5 t.f5.length t.f5 ∧ t.f5.length ≤ c5 ∧ RW t := by
 obtain ⟨cs, rfl, hs⟩ := okWide_struct Tryd.underlying33 hv
 obtain ⟨fuel, hf⟩ := h
 have hz : Sz 33 d := fun n hn => by
  have h1 := List.all_eq_true.1 hsz n (DataW.weights_mem_each ht hd n hn)
  simpa using h1
 obtain ⟨t, ⟨A3, A4, A5, c3, c4, c5, hc, h3, m3, h4, m4, h5, m5⟩, hr⟩ := open_E fuel fuel (Nat.le_refl _) hf hz
 refine ⟨t, A3, A4, A5, c3, c4, c5, ?_, h3, m3, h4, m4, h5, m5, hr⟩
 have : cs.toList = ECells t A3 A4 A5 c3 c4 c5 := hc
 have h2 : cs = (ECells t A3 A4 A5 c3 c4 c5).toArray := by rw [← this]
 rw [h2]
 rfl
end Go.Proofs.YtmoeekidmkhkoaaDoor.RowE

