/- Nodes that are made: gristmillref5.ws, altNode. No condition beyond those that each states. -/
import Derived.Test.YtmoeekidmkhkoaaDoorFreeE
import Derived.Test.YtmoeekidmkhkoaaDoorFreeB
import Derived.Test.YtmoeekidmkhkoaaDoorWRepsOne
namespace Go.Proofs.YtmoeekidmkhkoaaDoor.FreeA
open Go.RowKit Go.Proofs.YtmoeekidmkhkoaaDoorW.PrintWords Go.Proofs.YtmoeekidmkhkoaaDoorW.PrintLast Go.Proofs.YtmoeekidmkhkoaaDoorW.PrintMore Go.Proofs.YtmoeekidmkhkoaaDoor.PFreeA
set_option linter.unusedVariables false
set_option linter.unusedSimpArgs false
theorem add_i (b i : Nat) : (⟨b, 0, none⟩ : Addr).add i = ⟨b, i, none⟩ := by
  unfold Addr.add
  split
  · rename_i h; subst h; rfl
  · simp
theorem C_cells {α : Type} {d : Kd α} {W : World} {b : Nat} {cs : Array Value} {e : TypeId} (hb : W.heap[b]? = some (.cells cs e (0, 0))) {xs : List α} (h : Reps (d.K W) d.sz xs cs.toList) (hm : xs.length ≤ 9223372036854775807) : d.C W (some ⟨b, 0, none⟩) xs.length xs := by
  refine ⟨rfl, hm, fun _ => ⟨_, rfl, fun j p hj => ?_⟩⟩
  have hK := h.2 j p hj
  refine ⟨(cs.toList.drop (j * d.sz)).take d.sz, d.K_len hK, hK, fun i u hu => ?_⟩
  rw [add_i, blk_cell hb]
  rw [List.getElem?_take] at hu
  split at hu
  · rw [List.getElem?_drop] at hu
    rw [← Array.getElem?_toList]
    exact hu
  · cases hu
theorem info56 : (Tryd.prog.info? 56).map (fun i => (i.zero, i.size, i.bytes)) = some (some (.agg #[.string ⟨#[]⟩, .slice none 0 0, .int .i64 0]), 3, 48) := by kernel_rfl
def NL (W : World) (b : Nat) (A : Option Addr) (n : Nat) : Prop := ∃ xs : List S56, Kd.F k56 W (fun k => b ≤ k) A n xs
theorem NL.nil (W : World) (b : Nat) : NL W b none 0 := ⟨[], Kd.F_nil _ _ _⟩
theorem NL.below {W W1 : World} {b n : Nat} {A : Option Addr} (h : NL W b A n) (hb : Below W.heap.size W W1) : NL W1 b A n := h.elim fun xs h => ⟨xs, Kd.F_below h hb⟩
theorem NL.mono {W : World} {b b' n : Nat} {A : Option Addr} (h : NL W b A n) (hb : b' ≤ b) : NL W b' A n := h.elim fun xs h => ⟨xs, Kd.F_mono h (fun k hk => Nat.le_trans hb hk)⟩
theorem NL.far {W : World} {b n : Nat} {A : Option Addr} (h : NL W b A n) {p : Addr} (hp : p.block < b) (v : Value) : NL (W.setCell p v) b A n := h.elim fun xs h => ⟨xs, Kd.F_far h (fun k hk => by omega) v⟩
theorem NL.bound {W : World} {b n : Nat} {A : Option Addr} (h : NL W b A n) : ∃ xs : List S56, xs.length = n ∧ Kd.F k56 W (fun k => b ≤ k ∧ k < W.heap.size) A n xs := h.elim fun xs h => ⟨xs, Kd.F_len h, Kd.F_bound h⟩
theorem nodeK {W : World} {ok : Nat → Prop} {A : Option Addr} {n c : Nat} {xs : List S56} (h : Kd.F k56 W ok A n xs) (hc : n ≤ c) (s : ByteArray) : Kd.FK k56 W ok ⟨s, xs, 0⟩ [.string s, .slice A n c, .int .i64 0] := by
  intro W' hW
  have hl := Kd.F_len h
  subst hl
  exact k56_mk W' ⟨s, xs, 0⟩ hc (h W' hW)
theorem NL.one {W : World} {b blk : Nat} {s1 : ByteArray} {A1 : Option Addr} {n1 c1 : Nat} (hb : W.heap[blk]? = some (.cells #[.string s1, .slice A1 n1 c1, .int .i64 0] 56 (0, 0))) (hk : b ≤ blk) (h1 : NL W b A1 n1) (hc1 : n1 ≤ c1) : NL W b (some ⟨blk, 0, none⟩) 1 := by
  obtain ⟨x1, h1⟩ := h1
  refine ⟨[⟨s1, x1, 0⟩], fun W' hW => ?_⟩
  have hlt := (Array.getElem?_eq_some_iff.1 hb).1
  exact C_cells ((hW blk hk hlt).trans hb) (Reps.c3 (nodeK h1 hc1 s1 W' hW) (Reps.none _ _)) (by simp)
theorem NL.two {W : World} {b blk : Nat} {s1 s2 : ByteArray} {A1 A2 : Option Addr} {n1 c1 n2 c2 : Nat} (hb : W.heap[blk]? = some (.cells #[.string s1, .slice A1 n1 c1, .int .i64 0, .string s2, .slice A2 n2 c2, .int .i64 0] 56 (0, 0))) (hk : b ≤ blk) (h1 : NL W b A1 n1) (hc1 : n1 ≤ c1) (h2 : NL W b A2 n2) (hc2 : n2 ≤ c2) : NL W b (some ⟨blk, 0, none⟩) 2 := by
  obtain ⟨x1, h1⟩ := h1
  obtain ⟨x2, h2⟩ := h2
  refine ⟨[⟨s1, x1, 0⟩, ⟨s2, x2, 0⟩], fun W' hW => ?_⟩
  have hlt := (Array.getElem?_eq_some_iff.1 hb).1
  exact C_cells ((hW blk hk hlt).trans hb) (Reps.c3 (nodeK h1 hc1 s1 W' hW) (Reps.c3 (nodeK h2 hc2 s2 W' hW) (Reps.none _ _))) (by simp)
theorem NL.three {W : World} {b blk : Nat} {s1 s2 s3 : ByteArray} {A1 A2 A3 : Option Addr} {n1 c1 n2 c2 n3 c3 : Nat} (hb : W.heap[blk]? = some (.cells #[.string s1, .slice A1 n1 c1, .int .i64 0, .string s2, .slice A2 n2 c2, .int .i64 0, .string s3, .slice A3 n3 c3, .int .i64 0] 56 (0, 0))) (hk : b ≤ blk) (h1 : NL W b A1 n1) (hc1 : n1 ≤ c1) (h2 : NL W b A2 n2) (hc2 : n2 ≤ c2) (h3 : NL W b A3 n3) (hc3 : n3 ≤ c3) : NL W b (some ⟨blk, 0, none⟩) 3 := by
  obtain ⟨x1, h1⟩ := h1
  obtain ⟨x2, h2⟩ := h2
  obtain ⟨x3, h3⟩ := h3
  refine ⟨[⟨s1, x1, 0⟩, ⟨s2, x2, 0⟩, ⟨s3, x3, 0⟩], fun W' hW => ?_⟩
  have hlt := (Array.getElem?_eq_some_iff.1 hb).1
  exact C_cells ((hW blk hk hlt).trans hb) (Reps.c3 (nodeK h1 hc1 s1 W' hW) (Reps.c3 (nodeK h2 hc2 s2 W' hW) (Reps.c3 (nodeK h3 hc3 s3 W' hW) (Reps.none _ _)))) (by simp)
def NX (W : World) (b : Nat) (x : Option Nat) (A : Option Addr) (n : Nat) : Prop := ∃ xs : List S56, Kd.F k56 W (fun k => b ≤ k ∧ some k ≠ x) A n xs
theorem NX.below {W W1 : World} {b n : Nat} {x : Option Nat} {A : Option Addr} (h : NX W b x A n) (hb : Below W.heap.size W W1) : NX W1 b x A n := h.elim fun xs h => ⟨xs, Kd.F_below h hb⟩
theorem NX.far {W : World} {b n : Nat} {x : Option Nat} {A : Option Addr} (h : NX W b x A n) {p : Addr} (hp : p.block < b ∨ some p.block = x) (v : Value) : NX (W.setCell p v) b x A n := h.elim fun xs h => ⟨xs, Kd.F_far h (fun k hk e => by subst e; rcases hp with hp | hp; have := hk.1; omega; exact hk.2 hp) v⟩
theorem NX.list {W : World} {b n : Nat} {x : Option Nat} {A : Option Addr} (h : NX W b x A n) : NL W b A n := h.elim fun xs h => ⟨xs, Kd.F_mono h (fun k hk => hk.1)⟩
def NR (W : World) (b : Nat) (x : Option Nat) (A : Option Addr) (n c : Nat) : Prop := ∃ xs : List S56, xs.length = n ∧ Kd.N k56 56 W b (fun k => b ≤ k ∧ some k ≠ x) (.slice A n c) xs
theorem NR.nil (W : World) (b : Nat) (x : Option Nat) : NR W b x none 0 0 := ⟨[], rfl, Kd.N_nil _ _ _ _ _⟩
theorem NR.below {W W1 : World} {b n c : Nat} {x : Option Nat} {A : Option Addr} (h : NR W b x A n c) (hb : Below W.heap.size W W1) : NR W1 b x A n c := h.elim fun xs h => ⟨xs, h.1, Kd.N_below h.2 hb⟩
theorem NR.far {W : World} {b n c : Nat} {x : Option Nat} {A : Option Addr} (h : NR W b x A n c) {p : Addr} (hp : p.block < b ∨ some p.block = x) (v : Value) : NR (W.setCell p v) b x A n c := h.elim fun xs h => ⟨xs, h.1, Kd.N_far h.2 (fun k hk e => by subst e; rcases hp with hp | hp; have := hk.1; omega; exact hk.2 hp) v⟩
theorem NR.lt {W : World} {b n c : Nat} {x : Option Nat} {A : Option Addr} (h : NR W b x A n c) : ∀ k, (Value.slice A n c).ownBlock = some k → k < W.heap.size := h.elim fun xs h => Kd.N_lt h.2
theorem NR.ne {W : World} {b n c x : Nat} {A : Option Addr} (h : NR W b (some x) A n c) : some x ≠ (Value.slice A n c).ownBlock := fun e => h.elim fun xs h => (h.2.1 x e.symm).2 rfl
theorem NR.keep {W W1 : World} {b n c x : Nat} {A : Option Addr} (h : NR W b (some x) A n c) (hg : W.grownBy W1 (Value.slice A n c).ownBlock) (hx : x < W.heap.size) : W1.heap[x]? = W.heap[x]? := hg.block x hx (NR.ne h)
theorem NR.list {W : World} {b n c : Nat} {x : Option Nat} {A : Option Addr} (h : NR W b x A n c) : NX W b x A n ∧ n ≤ c := by
  obtain ⟨xs, hl, h⟩ := h
  exact ⟨⟨xs, Kd.N_F h⟩, (Kd.N_reads' h).2.1⟩
theorem NR.lit {W : World} {b : Nat} {x : Option Nat} {xs : List S56} {inner : List Value} {okp : Nat → Prop} (hrep : Reps (Kd.FK k56 W okp) k56.sz xs inner) (hok : ∀ k, okp k → b ≤ k ∧ some k ≠ x) (hfresh : b ≤ W.heap.size ∧ some W.heap.size ≠ x) (hm : xs.length ≤ 9223372036854775807) :
    NR (W.alloc (.cells inner.toArray 56)) b x (some ⟨W.heap.size, 0, none⟩) xs.length xs.length := by
  have hrep' := Kd.reps_raw hrep (fun y c hk => ⟨k56.K_len (Kd.FK_now hk), k56.K_one (Kd.FK_now hk)⟩)
  have hR : (Kd.raw k56.sz).R 56 (W.alloc (.cells inner.toArray 56)) b (fun k => k = W.heap.size) (.slice (some ⟨W.heap.size, 0, none⟩) xs.length xs.length) (Kd.chunks k56.sz xs.length inner) := by
    refine ⟨fun k hk => ?_, inner, ?_, hrep'⟩
    · have : W.heap.size = k := by simpa [Value.ownBlock] using hk
      exact this.symm
    · rw [Kd.chunks_length]
      have h2 := World.ownsRow_lit (base := b) (e := 56) (size := k56.sz) W inner.toArray xs.length hfresh.1 (by simpa [maxLen] using hm) (by simpa using hrep.1)
      have h3 : (W.alloc (.cells inner.toArray 56)).ownsRow b 56 k56.sz (.slice (some ⟨W.heap.size, 0, none⟩) xs.length xs.length) xs.length inner := by simpa using h2
      exact h3
  exact ⟨xs, rfl, Kd.N_made hR (World.grownBy_alloc W _ none) ⟨W.heap.size, by simp [Value.ownBlock], Nat.le_refl _⟩ (Kd.chunks_length _ _ _) (fun j y c hy hc => by rw [Kd.chunks_get hc]; exact hrep.2 j y hy) hok hfresh⟩
theorem NR.lit1 {W : World} {b q : Nat} {x : Option Nat} {s1 : ByteArray} {A1 : Option Addr} {n1 c1 : Nat} (h1 : NL W q A1 n1) (hc1 : n1 ≤ c1) (hbq : b ≤ q) (hxq : ∀ y, x = some y → y < q ∨ W.heap.size < y) (hb : b ≤ W.heap.size) (hx : some W.heap.size ≠ x) :
    NR (W.alloc (.cells #[.string s1, .slice A1 n1 c1, .int .i64 0] 56)) b x (some ⟨W.heap.size, 0, none⟩) 1 1 := by
  obtain ⟨ys, hy⟩ := h1
  exact NR.lit (xs := [⟨s1, ys, 0⟩]) (inner := [.string s1, .slice A1 n1 c1, .int .i64 0]) (okp := fun k => q ≤ k ∧ k < W.heap.size) (Reps.c3 (nodeK (Kd.F_bound hy) hc1 s1) (Reps.none _ _)) (fun k hk => ⟨Nat.le_trans hbq hk.1, fun e => by have := hxq k e.symm; omega⟩) ⟨hb, hx⟩ (by simp)
section
variable {P : Program} {ops : Array Oper} {rest : List Oper} {o : Oper} {a : Act} {Q : Exit → Act → World → Prop} {Kc : Act → World → Prop}
theorem app_list {w0 W : World} (b : Nat) (hgd : o.guard = none) (s x : Operand) (ho : o.op = .call { callee := .builtin .append, args := #[s, x], argTypes := #[54, 54] }) {A A1 : Option Addr} {x0 : Option Nat} {n c n1 c1 q : Nat} {s1 : ByteArray}
    (hs : a.eval s = .slice A n c) (hx : a.eval x = .slice (some ⟨W.heap.size, 0, none⟩) 1 1) (HO : NR W b x0 A n c) (h1 : NL W q A1 n1) (hc1 : n1 ≤ c1) (hq : ∀ k, (Value.slice A n c).ownBlock = some k → k < q) (hbq : b ≤ q) (hxq : ∀ y, x0 = some y → y < q ∧ y < W.heap.size) (HB : Below b w0 W) (hbase : b ≤ W.heap.size) (hl : n ≤ 2000000000000)
    (h : ∀ A3 c3 w3, NR w3 b x0 A3 (n + 1) c3 → Below b w0 w3 → W.grownBy w3 (Value.slice A n c).ownBlock → wpList Tryd.prog ops Q rest (a.put o.dst (.slice A3 (n + 1) c3)) w3) :
    wpList Tryd.prog ops Q (o :: rest) a (W.alloc (.cells #[.string s1, .slice A1 n1 c1, .int .i64 0] 56)) := by
  obtain ⟨xs, hxs, HN⟩ := HO
  obtain ⟨ys, hy⟩ := h1
  refine Kd.N_append k56 (w0 := w0) b hgd s x 54 56 _ 48 ho Tryd.underlying54 info56 rfl (by decide) (by decide) (.slice A n c) xs ⟨s1, ys, 0⟩ [.string s1, .slice A1 n1 c1, .int .i64 0] (fun k => b ≤ k ∧ some k ≠ x0) (fun k => q ≤ k) hs hx (nodeK hy hc1 s1) (fun k hk => ⟨⟨Nat.le_trans hbq hk, fun e => by have := (hxq k e.symm).1; omega⟩, fun e => by have := hq k e.symm; omega⟩) (fun k hk => ⟨Nat.le_trans hbase hk, fun e => by have := (hxq k e.symm).2; omega⟩) HN HB hbase (by rw [hxs]; omega) ?_
  intro v1 w1 hn hb hg hat
  obtain ⟨A3, c3, hv⟩ := Kd.N_slice hn
  have hl3 : (xs ++ [(⟨s1, ys, 0⟩ : S56)]).length = n + 1 := by simp [hxs]
  rw [hl3] at hv
  subst hv
  exact h A3 c3 w1 ⟨_, hl3, hn⟩ hb hg
theorem app_step {w0 W : World} (b : Nat) (hw : Region.wanted o (yielded ops a.tmps) = true) (s x : Operand) (ho : o.op = .call { callee := .builtin .append, args := #[s, x], argTypes := #[54, 54] }) {A A1 : Option Addr} {x0 : Option Nat} {n c n1 c1 q : Nat} {s1 : ByteArray}
    (hs : a.eval s = .slice A n c) (hx : a.eval x = .slice (some ⟨W.heap.size, 0, none⟩) 1 1) (HO : NR W b x0 A n c) (h1 : NL W q A1 n1) (hc1 : n1 ≤ c1) (hq : ∀ k, (Value.slice A n c).ownBlock = some k → k < q) (hbq : b ≤ q) (hxq : ∀ y, x0 = some y → y < q ∧ y < W.heap.size) (HB : Below b w0 W) (hbase : b ≤ W.heap.size) (hl : n ≤ 2000000000000)
    (h : ∀ A3 c3 w3, NR w3 b x0 A3 (n + 1) c3 → Below b w0 w3 → W.grownBy w3 (Value.slice A n c).ownBlock → Kc (a.put o.dst (.slice A3 (n + 1) c3)) w3) :
    if Region.wanted o (yielded ops a.tmps) = true then Oper.wp Tryd.prog o a (W.alloc (.cells #[.string s1, .slice A1 n1 c1, .int .i64 0] 56)) Kc Q else Kc (a.put o.dst undef) (W.alloc (.cells #[.string s1, .slice A1 n1 c1, .int .i64 0] 56)) := by
  obtain ⟨xs, hxs, HN⟩ := HO
  obtain ⟨ys, hy⟩ := h1
  refine Kd.N_append_step k56 (w0 := w0) b hw s x 54 56 _ 48 ho Tryd.underlying54 info56 rfl (by decide) (by decide) (.slice A n c) xs ⟨s1, ys, 0⟩ [.string s1, .slice A1 n1 c1, .int .i64 0] (fun k => b ≤ k ∧ some k ≠ x0) (fun k => q ≤ k) hs hx (nodeK hy hc1 s1) (fun k hk => ⟨⟨Nat.le_trans hbq hk, fun e => by have := (hxq k e.symm).1; omega⟩, fun e => by have := hq k e.symm; omega⟩) (fun k hk => ⟨Nat.le_trans hbase hk, fun e => by have := (hxq k e.symm).2; omega⟩) HN HB hbase (by rw [hxs]; omega) ?_
  intro v1 w1 hn hb hg hat
  obtain ⟨A3, c3, hv⟩ := Kd.N_slice hn
  have hl3 : (xs ++ [(⟨s1, ys, 0⟩ : S56)]).length = n + 1 := by simp [hxs]
  rw [hl3] at hv
  subst hv
  exact h A3 c3 w1 ⟨_, hl3, hn⟩ hb hg
theorem apps_step {w0 W : World} (b : Nat) (hw : Region.wanted o (yielded ops a.tmps) = true) (s x : Operand) (ho : o.op = .call { callee := .builtin .append, args := #[s, x], argTypes := #[54, 54] }) {A A1 : Option Addr} {x0 : Option Nat} {n c n1 c1 q : Nat}
    (hs : a.eval s = .slice A n c) (hx : a.eval x = .slice A1 n1 c1) (HO : NR W b x0 A n c) (h1 : NL W q A1 n1) (hq : ∀ k, (Value.slice A n c).ownBlock = some k → k < q) (hbq : b ≤ q) (hxq : ∀ y, x0 = some y → y < q ∧ y < W.heap.size) (HB : Below b w0 W) (hbase : b ≤ W.heap.size) (hl : n + n1 ≤ 2000000000000)
    (h : ∀ A3 c3 w3, NR w3 b x0 A3 (n + n1) c3 → Below b w0 w3 → W.grownBy w3 (Value.slice A n c).ownBlock → Kc (a.put o.dst (.slice A3 (n + n1) c3)) w3) :
    if Region.wanted o (yielded ops a.tmps) = true then Oper.wp Tryd.prog o a W Kc Q else Kc (a.put o.dst undef) W := by
  obtain ⟨xs, hxs, HN⟩ := HO
  obtain ⟨ys, hy⟩ := h1
  have hyl := Kd.F_len hy
  refine Kd.N_append_rows_step k56 (w0 := w0) b hw s x 54 56 _ 48 ho Tryd.underlying54 info56 rfl (by decide) (by decide) (.slice A n c) xs ys A1 n1 c1 (fun k => b ≤ k ∧ some k ≠ x0) (fun k => q ≤ k) hs hx HN hy (fun k hk => ⟨⟨Nat.le_trans hbq hk, fun e => by have := (hxq k e.symm).1; omega⟩, fun e => by have := hq k e.symm; omega⟩) (fun k hk => ⟨Nat.le_trans hbase hk, fun e => by have := (hxq k e.symm).2; omega⟩) HB hbase (by rw [hxs]; omega) ?_
  intro v1 w1 hn hb hg hat
  obtain ⟨A3, c3, hv⟩ := Kd.N_slice hn
  have hl3 : (xs ++ ys).length = n + n1 := by simp [hxs, hyl]
  rw [hl3] at hv
  subst hv
  exact h A3 c3 w1 ⟨_, hl3, hn⟩ hb hg
end
set_option maxHeartbeats 4000000 in
set_option maxRecDepth 100000 in
theorem ws_calls (l : List ByteArray) (w : World) (hl : l.length ≤ 1000000000000) {A : Option Addr} {c : Nat} (hC : Kd.C Kd.string w A l.length l) :
    Calls Tryd.prog 53 #[.slice A l.length c] w fun e w' => ∃ A1 c1, e = .returned (.slice A1 l.length c1) ∧ l.length ≤ c1 ∧ NL w' w.heap.size A1 l.length ∧ Below w.heap.size w w' := by
  have hR : Aside0 (NR w w.heap.size none none 0 0) := ⟨NR.nil _ _ _⟩
  have hB : Aside0 (Below w.heap.size w w) := ⟨Below.refl _ _⟩
  have hC9 := Aside0.mk hC
  clear hC
  go_enter Tryd.func53, Tryd.ntmps53
  go_wp2
  go_loopg [3, 4] (l.length + 1) (fun kq v3 v4 w' => ∃ (i : Nat) (A1 : Option Addr) (c1 : Nat), v3 = .slice A1 i c1 ∧ v4 = .int .i64 (i : Int) ∧ i + kq = l.length + 1 ∧ 1 ≤ kq ∧ Aside0 (NR w' w.heap.size none A1 i c1) ∧ Aside0 (Below w.heap.size w w'))
  case atStart => exact ⟨0, none, 0, rfl, rfl, by omega, by omega, hR, hB⟩
  case round =>
    clear hR hB
    obtain ⟨i, A1, c1, rfl, rfl, hi, hk, hRr, hBr⟩ := hrel
    by_cases hlt : i < l.length
    · obtain ⟨ad, rfl, hv⟩ := at_str (Kd.C_below hC9.out hBr.out) i hlt hlt
      have p0 : (0 : Int) ≤ (i : Int) := by omega
      have q0 : (i : Int) < (l.length : Int) := by omega
      have q1 : decide ((i : Int) < (l.length : Int)) = true := decide_eq_true q0
      have hwj : wrap64 ((i : Int) + 1) = (i : Int) + 1 := by unfold wrap64; omega
      generalize l[i] = s at *
      go_wp2_with (first | (go_at_call 49; go_loud (with_reducible refine (w_calls s wr).mono ?_); rintro e w2 ⟨rfl, hb2⟩; have hb2 := Aside0.mk hb2) | ((with_reducible refine gate_builtin (b := .append) (xs := #[.tmp 11, .tmp 17]) rfl ?_); at_builtin; go_loud (refine app_list (w0 := w) w.heap.size rfl (.tmp 11) (.tmp 17) rfl (x0 := Option.none) (A := A1) (n := i) (c := c1) (q := w2.heap.size) (s1 := s) (A1 := none) (n1 := 0) (c1 := 0) rfl rfl ?aR ?aN ?aC ?aK ?aQ ?aX ?aB ?aS ?aL ?_); (case aR => exact NR.below hRr.out hb2.out); (case aN => exact NL.nil _ _); (case aC => exact Nat.le_refl _); (case aK => exact NR.lt (NR.below hRr.out hb2.out)); (case aQ => exact Nat.le_trans hBr.out.size hb2.out.size); (case aX => exact fun y hy => by cases hy); (case aB => exact below_step hBr.out hb2.out); (case aS => exact Nat.le_trans hBr.out.size hb2.out.size); (case aL => omega); intro A3 c3 w3 hr3 hb3 hg3; clear hg3; have hr3 := Aside0.mk hr3; have hb3 := Aside0.mk hb3))
      go_roundg (gk - 1)
      case measure => omega
      case rel => exact ⟨i + 1, A3, c3, rfl, rfl, by omega, by omega, hr3, hb3⟩
    · have q1 : decide ((i : Int) < (l.length : Int)) = false := decide_eq_false (by omega)
      have hil : i = l.length := by omega
      subst hil
      have hfin := Aside0.mk hRr.out.list
      go_wp2
      go_ret
      exact ⟨_, _, rfl, hfin.out.2, hfin.out.1.list, hBr.out⟩
end Go.Proofs.YtmoeekidmkhkoaaDoor.FreeA

