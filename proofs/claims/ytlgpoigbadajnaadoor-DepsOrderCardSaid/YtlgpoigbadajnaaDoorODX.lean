/- Texts of the walks put together: DepV, DepW, DepX, DepY, DepZ. Conditions: as each states. -/
import Derived.Test.YtlgpoigbadajnaaDoorODU
import Derived.Test.YtlgpoigbadajnaaDoorOWAll
import Derived.Test.YtlgpoigbadajnaaDoorOPX
import Derived.Test.YtlgpoigbadajnaaDoorOShelfE
import Derived.Test.YtlgpoigbadajnaaDoorRows
import Derived.Lib.AppendIntMem
import Derived.Lib.LaidTab
import Derived.WalkSmall
import Derived.BigCall
import Derived.BigGuard
import Derived.Lib.ItoaMem
import Derived.Lib.ItoaWalk
namespace Go.Proofs.YtlgpoigbadajnaaDoor.DepA
open Go.RowKit Go.Proofs.YtlgpoigbadajnaaDoorW.PrintWords Go.Proofs.YtlgpoigbadajnaaDoorW.PrintLast Go.Proofs.YtlgpoigbadajnaaDoorW.PrintMore Go.Proofs.YtlgpoigbadajnaaDoor.PDepA
set_option linter.unusedVariables false
set_option linter.unusedSimpArgs false
theorem ZL {α : Type} {d : Kd α} {W : World} {b : Nat} {cs : Array Value} {e : TypeId} (hb : W.heap[b]? = some (.cells cs e (0, 0))) {xs : List α} (h : QB (d.K W) d.sz xs cs.toList) (hm : xs.length ≤ 9223372036854775807) : d.C W (some ⟨b, 0, none⟩) xs.length xs := by
 refine ⟨rfl, hm, fun _ => ⟨_, rfl, fun j p hj => ?_⟩⟩
 have hK := h.2 j p hj
 refine ⟨(cs.toList.drop (j * d.sz)).take d.sz, d.K_len hK, hK, fun i u hu => ?_⟩
 rw [add_i, Qa hb]
 rw [List.getElem?_take] at hu
 split at hu
 ·rw [List.getElem?_drop] at hu
  rw [← Array.getElem?_toList]
  exact hu
 ·cases hu
theorem take_snoc {α : Type} {l : List α} {i : Nat} {x : α} (h : l[i]? = some x) : l.take i ++ [x] = l.take (i + 1) := by
 rw [List.take_add_one, h]
 rfl
abbrev NdT := Vm
theorem infoNd : (Tryd.prog.info? 109).map (fun i => (i.zero, i.size, i.bytes)) = some (some (.agg #[.string ⟨#[]⟩, .slice none 0 0, .int .i64 0]), 3, 48) := by kernel_rfl
def NL (W : World) (b : Nat) (A : Option Addr) (n : Nat) (xs : List NdT) : Prop := xs.length = n ∧ Kd.F k109 W (fun k => b ≤ k) A n xs
section
variable {W W1 : World} {b b' n n1 n2 n3 c c1 c2 c3 : Nat} {A A1 A2 A3 : Option Addr} {xs x1 x2 x3 : List NdT} {x : Option Nat} {s1 s2 s3 : ByteArray}
theorem NL.nil (W : World) (b : Nat) : NL W b none 0 [] := ⟨rfl, Kd.F_nil _ _ _⟩
theorem NL.below (h : NL W b A n xs) (hb : Below W.heap.size W W1) : NL W1 b A n xs := ⟨h.1, Kd.F_below h.2 hb⟩
theorem NL.mono (h : NL W b A n xs) (hb : b' ≤ b) : NL W b' A n xs := ⟨h.1, Kd.F_mono h.2 (fun k hk => Nat.le_trans hb hk)⟩
theorem NL.far (h : NL W b A n xs) {p : Addr} (hp : p.block < b) (v : Value) : NL (W.setCell p v) b A n xs := ⟨h.1, Kd.F_far h.2 (fun k hk => by omega) v⟩
theorem nodeK {ok : Nat → Prop} (h : Kd.F k109 W ok A n xs) (hc : n ≤ c) (s : ByteArray) : Kd.FK k109 W ok ⟨s, xs, 0⟩ [.string s, .slice A n c, .int .i64 0] := by
 intro W' hW
 have hl := Kd.F_len h
 subst hl
 exact k109_mk W' ⟨s, xs, 0⟩ hc (h W' hW)
theorem NL.one {blk : Nat} (hb : W.heap[blk]? = some (.cells #[.string s1, .slice A1 n1 c1, .int .i64 0] 109 (0, 0))) (hk : b ≤ blk) (h1 : NL W b A1 n1 x1) (hc1 : n1 ≤ c1) : NL W b (some ⟨blk, 0, none⟩) 1 [⟨s1, x1, 0⟩] := by
 refine ⟨rfl, fun W' hW => ?_⟩
 have hlt := (Array.getElem?_eq_some_iff.1 hb).1
 exact ZL ((hW blk hk hlt).trans hb) (QB.c3 (nodeK h1.2 hc1 s1 W' hW) (QB.none _ _)) (by simp)
theorem NL.two {blk : Nat} (hb : W.heap[blk]? = some (.cells #[.string s1, .slice A1 n1 c1, .int .i64 0, .string s2, .slice A2 n2 c2, .int .i64 0] 109 (0, 0))) (hk : b ≤ blk) (h1 : NL W b A1 n1 x1) (hc1 : n1 ≤ c1) (h2 : NL W b A2 n2 x2) (hc2 : n2 ≤ c2) : NL W b (some ⟨blk, 0, none⟩) 2 [⟨s1, x1, 0⟩, ⟨s2, x2, 0⟩] := by
 refine ⟨rfl, fun W' hW => ?_⟩
 have hlt := (Array.getElem?_eq_some_iff.1 hb).1
 exact ZL ((hW blk hk hlt).trans hb) (QB.c3 (nodeK h1.2 hc1 s1 W' hW) (QB.c3 (nodeK h2.2 hc2 s2 W' hW) (QB.none _ _))) (by simp)
theorem NL.three {blk : Nat} (hb : W.heap[blk]? = some (.cells #[.string s1, .slice A1 n1 c1, .int .i64 0, .string s2, .slice A2 n2 c2, .int .i64 0, .string s3, .slice A3 n3 c3, .int .i64 0] 109 (0, 0))) (hk : b ≤ blk) (h1 : NL W b A1 n1 x1) (hc1 : n1 ≤ c1) (h2 : NL W b A2 n2 x2) (hc2 : n2 ≤ c2) (h3 : NL W b A3 n3 x3) (hc3 : n3 ≤ c3) : NL W b (some ⟨blk, 0, none⟩) 3 [⟨s1, x1, 0⟩, ⟨s2, x2, 0⟩, ⟨s3, x3, 0⟩] := by
 refine ⟨rfl, fun W' hW => ?_⟩
 have hlt := (Array.getElem?_eq_some_iff.1 hb).1
 exact ZL ((hW blk hk hlt).trans hb) (QB.c3 (nodeK h1.2 hc1 s1 W' hW) (QB.c3 (nodeK h2.2 hc2 s2 W' hW) (QB.c3 (nodeK h3.2 hc3 s3 W' hW) (QB.none _ _)))) (by simp)
def NX (W : World) (b : Nat) (x : Option Nat) (A : Option Addr) (n : Nat) (xs : List NdT) : Prop := xs.length = n ∧ Kd.F k109 W (fun k => b ≤ k ∧ some k ≠ x) A n xs
theorem NX.below (h : NX W b x A n xs) (hb : Below W.heap.size W W1) : NX W1 b x A n xs := ⟨h.1, Kd.F_below h.2 hb⟩
theorem NX.far (h : NX W b x A n xs) {p : Addr} (hp : p.block < b ∨ some p.block = x) (v : Value) : NX (W.setCell p v) b x A n xs := ⟨h.1, Kd.F_far h.2 (fun k hk e => by subst e; rcases hp with hp | hp; have := hk.1; omega; exact hk.2 hp) v⟩
theorem NX.list (h : NX W b x A n xs) : NL W b A n xs := ⟨h.1, Kd.F_mono h.2 (fun k hk => hk.1)⟩
def NR (W : World) (b : Nat) (x : Option Nat) (A : Option Addr) (n c : Nat) (xs : List NdT) : Prop := xs.length = n ∧ Kd.N k109 109 W b (fun k => b ≤ k ∧ some k ≠ x) (.slice A n c) xs
theorem NR.nil (W : World) (b : Nat) (x : Option Nat) : NR W b x none 0 0 [] := ⟨rfl, Kd.N_nil _ _ _ _ _⟩
theorem NR.below (h : NR W b x A n c xs) (hb : Below W.heap.size W W1) : NR W1 b x A n c xs := ⟨h.1, Kd.Vf h.2 hb⟩
theorem NR.far (h : NR W b x A n c xs) {p : Addr} (hp : p.block < b ∨ some p.block = x) (v : Value) : NR (W.setCell p v) b x A n c xs := ⟨h.1, Kd.N_far h.2 (fun k hk e => by subst e; rcases hp with hp | hp; have := hk.1; omega; exact hk.2 hp) v⟩
theorem NR.lt (h : NR W b x A n c xs) : ∀ k, (Value.slice A n c).ownBlock = some k → k < W.heap.size := Kd.N_lt h.2
theorem NR.ne {y : Nat} (h : NR W b (some y) A n c xs) : some y ≠ (Value.slice A n c).ownBlock := fun e => (h.2.1 y e.symm).2 rfl
theorem NR.keep {y : Nat} (h : NR W b (some y) A n c xs) (hg : W.grownBy W1 (Value.slice A n c).ownBlock) (hx : y < W.heap.size) : W1.heap[y]? = W.heap[y]? := hg.block y hx (NR.ne h)
theorem NR.list (h : NR W b x A n c xs) : NX W b x A n xs ∧ n ≤ c := ⟨⟨h.1, Kd.N_F h.2⟩, (Kd.N_reads' h.2).2.1⟩
theorem NR.lit {inner : List Value} {okp : Nat → Prop} (hrep : QB (Kd.FK k109 W okp) k109.sz xs inner) (hok : ∀ k, okp k → b ≤ k ∧ some k ≠ x) (hfresh : b ≤ W.heap.size ∧ some W.heap.size ≠ x) (hm : xs.length ≤ 9223372036854775807) :
  NR (W.alloc (.cells inner.toArray 109)) b x (some ⟨W.heap.size, 0, none⟩) xs.length xs.length xs := by
 have hrep' := Kd.reps_raw hrep (fun y c hk => ⟨k109.K_len (Kd.FK_now hk), k109.K_one (Kd.FK_now hk)⟩)
 have hR : (Kd.raw k109.sz).R 109 (W.alloc (.cells inner.toArray 109)) b (fun k => k = W.heap.size) (.slice (some ⟨W.heap.size, 0, none⟩) xs.length xs.length) (Kd.chunks k109.sz xs.length inner) := by
  refine ⟨fun k hk => ?_, inner, ?_, hrep'⟩
  ·have : W.heap.size = k := by simpa [Value.ownBlock] using hk
   exact this.symm
  ·rw [Kd.QU]
   have h2 := World.ownsRow_lit (base := b) (e := 109) (size := k109.sz) W inner.toArray xs.length hfresh.1 (by simpa [maxLen] using hm) (by simpa using hrep.1)
   have h3 : (W.alloc (.cells inner.toArray 109)).ownsRow b 109 k109.sz (.slice (some ⟨W.heap.size, 0, none⟩) xs.length xs.length) xs.length inner := by simpa using h2
   exact h3
 exact ⟨rfl, Kd.N_made hR (World.grownBy_alloc W _ none) ⟨W.heap.size, by simp [Value.ownBlock], Nat.le_refl _⟩ (Kd.QU _ _ _) (fun j y c hy hc => by rw [Kd.chunks_get hc]; exact hrep.2 j y hy) hok hfresh⟩
theorem NR.lit1 {q : Nat} (h1 : NL W q A1 n1 x1) (hc1 : n1 ≤ c1) (hbq : b ≤ q) (hxq : ∀ y, x = some y → y < q ∨ W.heap.size < y) (hb : b ≤ W.heap.size) (hx : some W.heap.size ≠ x) :
  NR (W.alloc (.cells #[.string s1, .slice A1 n1 c1, .int .i64 0] 109)) b x (some ⟨W.heap.size, 0, none⟩) 1 1 [⟨s1, x1, 0⟩] :=
 NR.lit (xs := [⟨s1, x1, 0⟩]) (inner := [.string s1, .slice A1 n1 c1, .int .i64 0]) (okp := fun k => q ≤ k ∧ k < W.heap.size) (QB.c3 (nodeK (Kd.F_bound h1.2) hc1 s1) (QB.none _ _)) (fun k hk => ⟨Nat.le_trans hbq hk.1, fun e => by have := hxq k e.symm; omega⟩) ⟨hb, hx⟩ (by simp)
variable {P : Program} {ops : Array Oper} {rest : List Oper} {o : Oper} {a : Act} {Q : Exit → Act → World → Prop} {Kc : Act → World → Prop}
theorem app_list {w0 : World} (b : Nat) (hgd : o.guard = none) (s x : Operand) (ho : o.op = .call { callee := .builtin .append, args := #[s, x], argTypes := #[107, 107] }) {x0 : Option Nat} {q : Nat}
  (hs : a.eval s = .slice A n c) (hx : a.eval x = .slice (some ⟨W.heap.size, 0, none⟩) 1 1) (HO : NR W b x0 A n c xs) (h1 : NL W q A1 n1 x1) (hc1 : n1 ≤ c1) (hq : ∀ k, (Value.slice A n c).ownBlock = some k → k < q) (hbq : b ≤ q) (hxq : ∀ y, x0 = some y → y < q ∧ y < W.heap.size) (HB : Below b w0 W) (hbase : b ≤ W.heap.size) (hl : n ≤ 2000000000000)
  (h : ∀ A3 c3 w3, NR w3 b x0 A3 (n + 1) c3 (xs ++ [⟨s1, x1, 0⟩]) → Below b w0 w3 → W.grownBy w3 (Value.slice A n c).ownBlock → wpList Tryd.prog ops Q rest (a.put o.dst (.slice A3 (n + 1) c3)) w3) :
  wpList Tryd.prog ops Q (o :: rest) a (W.alloc (.cells #[.string s1, .slice A1 n1 c1, .int .i64 0] 109)) := by
 refine Kd.N_append k109 (w0 := w0) b hgd s x 107 109 _ 48 ho Tryd.underlying107 infoNd rfl (by decide) (by decide) (.slice A n c) xs ⟨s1, x1, 0⟩ [.string s1, .slice A1 n1 c1, .int .i64 0] (fun k => b ≤ k ∧ some k ≠ x0) (fun k => q ≤ k) hs hx (nodeK h1.2 hc1 s1) (fun k hk => ⟨⟨Nat.le_trans hbq hk, fun e => by have := (hxq k e.symm).1; omega⟩, fun e => by have := hq k e.symm; omega⟩) (fun k hk => ⟨Nat.le_trans hbase hk, fun e => by have := (hxq k e.symm).2; omega⟩) HO.2 HB hbase (by rw [HO.1]; omega) ?_
 intro v1 w1 hn hb hg hat
 obtain ⟨A3, c3, hv⟩ := Kd.N_slice hn
 have hl3 : (xs ++ [(⟨s1, x1, 0⟩ : NdT)]).length = n + 1 := by simp [HO.1]
 rw [hl3] at hv
 subst hv
 exact h A3 c3 w1 ⟨hl3, hn⟩ hb hg
theorem ZX {w0 : World} (b : Nat) (hw : Region.wanted o (yielded ops a.tmps) = true) (s x : Operand) (ho : o.op = .call { callee := .builtin .append, args := #[s, x], argTypes := #[107, 107] }) {x0 : Option Nat} {q : Nat}
  (hs : a.eval s = .slice A n c) (hx : a.eval x = .slice (some ⟨W.heap.size, 0, none⟩) 1 1) (HO : NR W b x0 A n c xs) (h1 : NL W q A1 n1 x1) (hc1 : n1 ≤ c1) (hq : ∀ k, (Value.slice A n c).ownBlock = some k → k < q) (hbq : b ≤ q) (hxq : ∀ y, x0 = some y → y < q ∧ y < W.heap.size) (HB : Below b w0 W) (hbase : b ≤ W.heap.size) (hl : n ≤ 2000000000000)
  (h : ∀ A3 c3 w3, NR w3 b x0 A3 (n + 1) c3 (xs ++ [⟨s1, x1, 0⟩]) → Below b w0 w3 → W.grownBy w3 (Value.slice A n c).ownBlock → Kc (a.put o.dst (.slice A3 (n + 1) c3)) w3) :
  if Region.wanted o (yielded ops a.tmps) = true then Oper.wp Tryd.prog o a (W.alloc (.cells #[.string s1, .slice A1 n1 c1, .int .i64 0] 109)) Kc Q else Kc (a.put o.dst undef) (W.alloc (.cells #[.string s1, .slice A1 n1 c1, .int .i64 0] 109)) := by
 refine Kd.N_append_step k109 (w0 := w0) b hw s x 107 109 _ 48 ho Tryd.underlying107 infoNd rfl (by decide) (by decide) (.slice A n c) xs ⟨s1, x1, 0⟩ [.string s1, .slice A1 n1 c1, .int .i64 0] (fun k => b ≤ k ∧ some k ≠ x0) (fun k => q ≤ k) hs hx (nodeK h1.2 hc1 s1) (fun k hk => ⟨⟨Nat.le_trans hbq hk, fun e => by have := (hxq k e.symm).1; omega⟩, fun e => by have := hq k e.symm; omega⟩) (fun k hk => ⟨Nat.le_trans hbase hk, fun e => by have := (hxq k e.symm).2; omega⟩) HO.2 HB hbase (by rw [HO.1]; omega) ?_
 intro v1 w1 hn hb hg hat
 obtain ⟨A3, c3, hv⟩ := Kd.N_slice hn
 have hl3 : (xs ++ [(⟨s1, x1, 0⟩ : NdT)]).length = n + 1 := by simp [HO.1]
 rw [hl3] at hv
 subst hv
 exact h A3 c3 w1 ⟨hl3, hn⟩ hb hg
theorem apps_step {w0 : World} (b : Nat) (hw : Region.wanted o (yielded ops a.tmps) = true) (s x : Operand) (ho : o.op = .call { callee := .builtin .append, args := #[s, x], argTypes := #[107, 107] }) {x0 : Option Nat} {q : Nat}
  (hs : a.eval s = .slice A n c) (hx : a.eval x = .slice A1 n1 c1) (HO : NR W b x0 A n c xs) (h1 : NL W q A1 n1 x1) (hq : ∀ k, (Value.slice A n c).ownBlock = some k → k < q) (hbq : b ≤ q) (hxq : ∀ y, x0 = some y → y < q ∧ y < W.heap.size) (HB : Below b w0 W) (hbase : b ≤ W.heap.size) (hl : n + n1 ≤ 2000000000000)
  (h : ∀ A3 c3 w3, NR w3 b x0 A3 (n + n1) c3 (xs ++ x1) → Below b w0 w3 → W.grownBy w3 (Value.slice A n c).ownBlock → Kc (a.put o.dst (.slice A3 (n + n1) c3)) w3) :
  if Region.wanted o (yielded ops a.tmps) = true then Oper.wp Tryd.prog o a W Kc Q else Kc (a.put o.dst undef) W := by
 refine Kd.Z5 k109 (w0 := w0) b hw s x 107 109 _ 48 ho Tryd.underlying107 infoNd rfl (by decide) (by decide) (.slice A n c) xs x1 A1 n1 c1 (fun k => b ≤ k ∧ some k ≠ x0) (fun k => q ≤ k) hs hx HO.2 h1.2 (fun k hk => ⟨⟨Nat.le_trans hbq hk, fun e => by have := (hxq k e.symm).1; omega⟩, fun e => by have := hq k e.symm; omega⟩) (fun k hk => ⟨Nat.le_trans hbase hk, fun e => by have := (hxq k e.symm).2; omega⟩) HB hbase (by rw [HO.1]; omega) ?_
 intro v1 w1 hn hb hg hat
 obtain ⟨A3, c3, hv⟩ := Kd.N_slice hn
 have hl3 : (xs ++ x1).length = n + n1 := by simp [HO.1, h1.1]
 rw [hl3] at hv
 subst hv
 exact h A3 c3 w1 ⟨hl3, hn⟩ hb hg
end
theorem QV (s : ByteArray) (w : World) : Calls Tryd.prog 82 #[.string s] w fun e w' => e = .returned (.agg #[.string s, .slice none 0 0, .int .i64 0]) ∧ Below w.heap.size w w' := by
 go_enter Tryd.func82, Tryd.ntmps82
 go_wp2
 refine bodyPost_ret (v := .agg #[.string s, .slice none 0 0, .int .i64 0]) (by simp [results, Tryd.results82, go_sem]) rfl ⟨rfl, Qd (Below.refl _ _) _⟩
theorem Z7 (A : Option Addr) (n c : Nat) (w : World) : Calls Tryd.prog 81 #[.slice A n c] w fun e w' => e = .returned (.agg #[.string ⟨#[]⟩, .slice A n c, .int .i64 0]) ∧ Below w.heap.size w w' := by
 go_enter Tryd.func81, Tryd.ntmps81
 go_wp2
 refine bodyPost_ret (v := .agg #[.string ⟨#[]⟩, .slice A n c, .int .i64 0]) (by simp [results, Tryd.results81, go_sem]) rfl ⟨rfl, Qd (Below.refl _ _) _⟩
def wN (s : ByteArray) : NdT := ⟨s, [], 0⟩
set_option maxHeartbeats 4000000 in
set_option maxRecDepth 100000 in
theorem ws_calls (l : List ByteArray) (w : World) (hl : l.length ≤ 1000000000000) {A : Option Addr} {c : Nat} (hC : Kd.C Kd.string w A l.length l) :
  Calls Tryd.prog 83 #[.slice A l.length c] w fun e w' => ∃ A1 c1, e = .returned (.slice A1 l.length c1) ∧ l.length ≤ c1 ∧ NL w' w.heap.size A1 l.length (l.map wN) ∧ Below w.heap.size w w' := by
 have hR : Qb (NR w w.heap.size none none 0 0 []) := ⟨NR.nil _ _ _⟩
 have hB : Qb (Below w.heap.size w w) := ⟨Below.refl _ _⟩
 have hC9 := Qb.mk hC
 clear hC
 go_enter Tryd.func83, Tryd.ntmps83
 go_wp2
 go_loopg [3, 4] (l.length + 1) (fun kq v3 v4 w' => ∃ (i : Nat) (A1 : Option Addr) (c1 : Nat), v3 = .slice A1 i c1 ∧ v4 = .int .i64 (i : Int) ∧ i + kq = l.length + 1 ∧ 1 ≤ kq ∧ Qb (NR w' w.heap.size none A1 i c1 ((l.map wN).take i)) ∧ Qb (Below w.heap.size w w'))
 case atStart => exact ⟨0, none, 0, rfl, rfl, by omega, by omega, hR, hB⟩
 case round =>
  clear hR hB
  obtain ⟨i, A1, c1, rfl, rfl, hi, hk, hRr, hBr⟩ := hrel
  by_cases hlt : i < l.length
  ·obtain ⟨ad, rfl, hv⟩ := at_str (Kd.Qj hC9.out hBr.out) i hlt hlt
   have hxi : l[i]? = some l[i] := List.getElem?_eq_getElem hlt
   have p0 : (0 : Int) ≤ (i : Int) := by omega
   have q0 : (i : Int) < (l.length : Int) := by omega
   have q1 : decide ((i : Int) < (l.length : Int)) = true := decide_eq_true q0
   have hwj : wrap64 ((i : Int) + 1) = (i : Int) + 1 := by unfold wrap64; omega
   generalize l[i] = s at *
   have hzi : Qb ((l.map wN)[i]? = some (wN s)) := ⟨by rw [List.getElem?_map, hxi]; rfl⟩
   clear hxi
   go_wp2_with (first | (go_at_call 82; go_loud (with_reducible refine (QV s wr).mono ?_); rintro e w2 ⟨rfl, hb2⟩; have hb2 := Qb.mk hb2) | ((with_reducible refine Zi (b := .append) (xs := #[.tmp 11, .tmp 17]) rfl ?_); at_builtin; go_loud (refine app_list (w0 := w) w.heap.size rfl (.tmp 11) (.tmp 17) rfl (x0 := Option.none) (A := A1) (n := i) (c := c1) (xs := (l.map wN).take i) (x1 := []) (q := w2.heap.size) (s1 := s) (A1 := none) (n1 := 0) (c1 := 0) rfl rfl ?aR ?aN ?aC ?aK ?aQ ?aX ?aB ?aS ?aL ?_); (case aR => exact NR.below hRr.out hb2.out); (case aN => exact NL.nil _ _); (case aC => exact Nat.le_refl _); (case aK => exact NR.lt (NR.below hRr.out hb2.out)); (case aQ => exact Nat.le_trans hBr.out.size hb2.out.size); (case aX => exact fun y hy => by cases hy); (case aB => exact Qe hBr.out hb2.out); (case aS => exact Nat.le_trans hBr.out.size hb2.out.size); (case aL => omega); intro A3 c3 w3 hr3 hb3 hg3; clear hg3; have hr3 : Qb (NR w3 w.heap.size none A3 (i + 1) c3 ((l.map wN).take (i + 1))) := ⟨take_snoc hzi.out ▸ hr3⟩; have hb3 := Qb.mk hb3))
   go_roundg (gk - 1)
   case measure => omega
   case rel => exact ⟨i + 1, A3, c3, rfl, rfl, by omega, by omega, hr3, hb3⟩
  ·have q1 : decide ((i : Int) < (l.length : Int)) = false := decide_eq_false (by omega)
   have hil : i = l.length := by omega
   subst hil
   have hfin := Qb.mk hRr.out.list
   go_wp2
   go_ret
   exact ⟨_, _, rfl, hfin.out.2, by have h := hfin.out.1.list; rw [List.take_of_length_le (by simp)] at h; exact h, hBr.out⟩
structure GN (W : World) (b xb : Nat) (s : ByteArray) (A : Option Addr) (n c : Nat) (xs : List NdT) : Prop where
 ho : W.heap[xb]? = some (.cells #[.string s, .slice A n c, .int .i64 0] 109 (0, 0))
 hr : NR W b (some xb) A n c xs
section
variable {W W1 : World} {b xb n c m c6 : Nat} {s : ByteArray} {A A6 : Option Addr} {xs xs' : List NdT}
theorem GN.lt (h : GN W b xb s A n c xs) : xb < W.heap.size := (Array.getElem?_eq_some_iff.1 h.ho).1
theorem GN.below (h : GN W b xb s A n c xs) (hb : Below W.heap.size W W1) : GN W1 b xb s A n c xs := ⟨Qc h.ho hb, NR.below h.hr hb⟩
theorem GN.at (h : GN W b xb s A n c xs) (hg : W.grownBy W1 (Value.slice A n c).ownBlock) : W1.heap[xb]? = some (.cells #[.string s, .slice A n c, .int .i64 0] 109 (0, 0)) := (NR.keep h.hr hg h.lt).trans h.ho
theorem GN.app (h : GN W b xb s A n c xs) (hg : W.grownBy W1 (Value.slice A n c).ownBlock) (h6 : NR W1 b (some xb) A6 m c6 xs') : GN (W1.setCell ⟨xb, 1, none⟩ (.slice A6 m c6)) b xb s A6 m c6 xs' := ⟨QP (h.at hg) 1 _ rfl, NR.far h6 (.inr rfl) _⟩
end
theorem below3 {b : Nat} {W W1 : World} (h : Below b W W1) {q : Nat} (hq : b ≤ q) (v0 v1 v2 : Value) : Below b W (((W1.setCell ⟨q, 0, none⟩ v0).setCell ⟨q, 1, none⟩ v1).setCell ⟨q, 2, none⟩ v2) := ((h.setCell (p := ⟨q, 0, none⟩) hq _).setCell (p := ⟨q, 1, none⟩) hq _).setCell (p := ⟨q, 2, none⟩) hq _
theorem NL.far3 {W : World} {b n : Nat} {A : Option Addr} {xs : List NdT} (h : NL W b A n xs) {q : Nat} (hq : q < b) (v0 v1 v2 : Value) : NL (((W.setCell ⟨q, 0, none⟩ v0).setCell ⟨q, 1, none⟩ v1).setCell ⟨q, 2, none⟩ v2) b A n xs := ((h.far (p := ⟨q, 0, none⟩) hq _).far (p := ⟨q, 1, none⟩) hq _).far (p := ⟨q, 2, none⟩) hq _
theorem wr1 (i : Nat) (h : i ≤ 1000000000000000) : wrap64 ((i : Int) + 1) = ((i + 1 : Nat) : Int) := by unfold wrap64; omega
theorem nd_eta (z : NdT) (h : z.f2 = 0) : (⟨z.f0, z.f1, 0⟩ : NdT) = z := by obtain ⟨a, b, c⟩ := z; subst h; rfl
mutual
/-- A type's node. -/
def tN : S67 → NdT
 | ⟨nm, l⟩ => if l.length = 0 then wN nm else ⟨⟨#[]⟩, wN nm :: tNL l, 0⟩
def tNL : List S67 → List NdT
 | [] => []
 | t :: l => tN t :: tNL l
end
theorem tNL_map : ∀ l : List S67, tNL l = l.map tN
 | [] => by simp [tNL]
 | t :: l => by simp [tNL, tNL_map l]
mutual
def Zo : S67 → Nat
 | ⟨_, l⟩ => 1 + Zg l
def Zg : List S67 → Nat
 | [] => 0
 | t :: l => Zo t + Zg l
end
theorem tcost_mem : ∀ {l : List S67} {t : S67}, t ∈ l → Zo t ≤ Zg l
 | [], _, h => by cases h
 | a :: l, t, h => by
  simp only [Zg]
  rcases List.mem_cons.1 h with rfl | h
  ·omega
  ·have := tcost_mem h; omega
theorem tlen : ∀ l : List S67, l.length ≤ Zg l
 | [] => Nat.zero_le _
 | ⟨_, _⟩ :: l => by simp only [Zg, Zo, List.length_cons]; have := tlen l; omega
theorem elemT {W : World} {A : Option Addr} {n : Nat} {l : List S67} (hC : k67.C W A n l) (i : Nat) {x : S67} (hx : l[i]? = some x) : ∃ ad A1 c1, A = some ad ∧ (W.cell? (ad.add (i * 2)) = some (.string x.f0) ∧ W.cell? ⟨(ad.add (i * 2)).block, (ad.add (i * 2)).off + 1, none⟩ = some (.slice A1 x.f1.length c1)) ∧ x.f1.length ≤ c1 ∧ k67.C W A1 x.f1.length x.f1 := by
 have hi := (List.getElem?_eq_some_iff.1 hx).1
 obtain ⟨ad, A1, c1, e, h0, h1, l1, g1⟩ := at_T67 hC (i : Int) (by omega) (by have := hC.1; omega)
 have hr : rd_T67 l (i : Int) = x := by
  unfold rd_T67
  rw [Int.toNat_natCast, List.getD_eq_getElem?_getD, hx]
  rfl
 rw [hr] at h0 h1 l1 g1
 rw [Int.toNat_natCast] at h0 h1
 exact ⟨ad, A1, c1, e, ⟨h0, h1⟩, l1, g1⟩
def TN (t : S67) : Prop := ∀ (w : World) {A : Option Addr} {c : Nat}, k67.C w A t.f1.length t.f1 →
 Calls Tryd.prog 84 #[.agg #[.string t.f0, .slice A t.f1.length c]] w fun r w' => ∃ A1 n c1, r = .returned (.agg #[.string (tN t).f0, .slice A1 n c1, .int .i64 0]) ∧ n ≤ c1 ∧ NL w' w.heap.size A1 n (tN t).f1 ∧ Below w.heap.size w w'
theorem TN.at {t : S67} {z : NdT} (h : TN t) (hz : tN t = z) (w : World) {A : Option Addr} {c : Nat} (hC : k67.C w A t.f1.length t.f1) :
 Calls Tryd.prog 84 #[.agg #[.string t.f0, .slice A t.f1.length c]] w fun r w' => ∃ A1 n c1, r = .returned (.agg #[.string z.f0, .slice A1 n c1, .int .i64 0]) ∧ n ≤ c1 ∧ NL w' w.heap.size A1 n z.f1 ∧ Below w.heap.size w w' := by
 subst hz
 exact h w hC
theorem tN_f2 (t : S67) : (tN t).f2 = 0 := by
 obtain ⟨nm, l⟩ := t
 simp only [tN]
 split <;> rfl
set_option maxHeartbeats 8000000 in
set_option maxRecDepth 100000 in
theorem typeNode_step (t : S67) (hl : t.f1.length ≤ 100000000000) (ih : ∀ x ∈ t.f1, TN x) : TN t := by
 intro w A c hC
 have E : ∀ W : World, ∀ o : Obj, (W.alloc o).heap.size = W.heap.size + 1 := fun W o => Array.size_push _
 obtain ⟨nm, l⟩ := t
 dsimp only at hl ih hC ⊢
 obtain ⟨W0, hW0⟩ : ∃ W0, (w.alloc (.cells #[.string nm, .slice A l.length c] 67)).alloc (.cells #[.string ⟨#[]⟩, .slice none 0 0, .int .i64 0] 109) = W0 := ⟨_, rfl⟩
 have hB0 : Qb (Below w.heap.size w W0) := ⟨by rw [← hW0]; exact Qd (Qd (Below.refl _ _) _) _⟩
 have hbx : Qb (W0.heap[w.heap.size]? = some (.cells #[.string nm, .slice A l.length c] 67 (0, 0))) := ⟨by rw [← hW0]; exact (Below.heap_alloc _ _ _ (by rw [E]; omega)).trans (Qv w _)⟩
 have hrx : Qb (W0.heap[w.heap.size + 1]? = some (.cells #[.string ⟨#[]⟩, .slice none 0 0, .int .i64 0] 109 (0, 0))) := ⟨by rw [← hW0]; rw [← E w]; exact Qv _ _⟩
 have hsz : Qb (W0.heap.size = w.heap.size + 1 + 1) := ⟨by rw [← hW0, E, E]⟩
 have k0 := (Qa hbx.out 0).trans rfl
 have k1 := (Qa hbx.out 1).trans rfl
 have hC0 := Qb.mk (Kd.Qj hC hB0.out)
 have hih := Qb.mk ih
 have hl9 := Qb.mk hl
 clear hC ih hl
 obtain ⟨z0, hz0⟩ : ∃ b, ((l.length : Int) == 0) = b := ⟨_, rfl⟩
 cases z0 with
 | true =>
  have hl0 : l.length = 0 := by have := eq_of_beq hz0; omega
  have hz : tN ⟨nm, l⟩ = wN nm := by rw [tN, if_pos hl0]
  rw [hz]
  clear hz
  obtain rfl := List.eq_nil_of_length_eq_zero hl0
  simp only [List.length_nil] at hW0 hbx k1
  have T1 : True := trivial
  go_enter Tryd.func84, Tryd.ntmps84
  go_wp2_with (first | (clear T1; go_at_call 82; (try rw [hW0]); go_loud (with_reducible refine (QV nm W0).mono ?_); rintro e' w1 ⟨rfl, hb1⟩; have HB1 := Qb.mk hb1; clear k0 k1; have r0 := (Qa (Qc hrx.out hb1) 0).trans rfl; have y0 := Qg (Qc hrx.out hb1) 0; have r1 := (Qa (Qc hrx.out hb1) 1).trans rfl; have y1 := Qg (Qc hrx.out hb1) 1; have r2 := (Qa (Qc hrx.out hb1) 2).trans rfl; have y2 := Qg (Qc hrx.out hb1) 2; clear hb1; skip))
  refine bodyPost_ret (v := .agg #[.string nm, .slice none 0 0, .int .i64 0]) (by simp [results, Tryd.results84, go_sem, *]) rfl ⟨none, 0, 0, rfl, Nat.le_refl _, ?_, ?_⟩
  ·exact (NL.far3 (q := w.heap.size + 1) (NL.nil _ W0.heap.size) (by have := hsz.out; omega) _ _ _).mono hB0.out.size
  ·exact below3 (q := w.heap.size + 1) (hB0.out.trans (HB1.out.mono hB0.out.size)) (by omega) _ _ _
 | false =>
  have hl0 : ¬ l.length = 0 := fun h => by rw [h] at hz0; cases hz0
  have hz : tN ⟨nm, l⟩ = ⟨⟨#[]⟩, wN nm :: l.map tN, 0⟩ := by rw [tN, if_neg hl0, tNL_map]
  rw [hz]
  clear hz
  have T1 : True := trivial
  go_enter Tryd.func84, Tryd.ntmps84
  go_wp2_with (first | (clear T1; go_at_call 82; (try rw [hW0]); go_loud (with_reducible refine (QV nm W0).mono ?_); rintro e' w1 ⟨rfl, hb1⟩; have HB1 := Qb.mk hb1; clear hb1 k0 k1; have T2 : True := trivial) | (clear T2; go_at_call 81; go_loud (with_reducible refine (Z7 _ _ _ _).mono ?_); rintro e' w3 ⟨rfl, hb3⟩; have HB3 := Qb.mk hb3; clear hb3; skip))
  obtain ⟨xb, hxb⟩ : ∃ xb, w3.heap.size = xb := ⟨_, rfl⟩
  obtain ⟨rb, hrb⟩ : ∃ rb, w1.heap.size = rb := ⟨_, rfl⟩
  have hrl : rb < xb ∧ W0.heap.size ≤ rb := by have h1 := HB3.out.size; rw [E] at h1; have h2 := HB1.out.size; omega
  obtain ⟨Wx, hWx⟩ : ∃ Wx, w3.alloc (.cells #[.string ⟨#[]⟩, .slice (some ⟨rb, 0, none⟩) 1 1, .int .i64 0] 109) = Wx := ⟨_, rfl⟩
  have hB3' : Below W0.heap.size W0 w3 := Qe (Qd HB1.out _) HB3.out
  have hBx : Qb (Below W0.heap.size W0 Wx) := ⟨by rw [← hWx]; exact Qd hB3' _⟩
  have hr0 : NR Wx W0.heap.size (some xb) (some ⟨rb, 0, none⟩) 1 1 [wN nm] := by have h1 : NR (w1.alloc (.cells #[.string nm, .slice none 0 0, .int .i64 0] 109)) W0.heap.size (some xb) (some ⟨w1.heap.size, 0, none⟩) 1 1 [wN nm] := NR.lit1 (q := W0.heap.size) (NL.nil _ _) (Nat.le_refl _) (Nat.le_refl _) (fun y hy => .inr (by obtain rfl := Option.some.inj hy; omega)) HB1.out.size (fun e => by have := Option.some.inj e; omega); rw [hrb] at h1; rw [← hWx]; exact NR.below (NR.below h1 HB3.out) (Qd (Below.refl _ _) _)
  have hGx : Qb (GN Wx W0.heap.size xb ⟨#[]⟩ (some ⟨rb, 0, none⟩) (0 + 1) 1 (wN nm :: (l.map tN).take 0)) := ⟨⟨by rw [← hWx, ← hxb]; exact Qv _ _, hr0⟩⟩
  have hxs : Qb (W0.heap.size ≤ xb) := ⟨by omega⟩
  rw [hrb, hxb, hWx]
  clear hWx hxb hrb hB3' hrl hr0 HB1 HB3 hW0
  go_loopg [4] (l.length + 1) (fun kq v4 w' => ∃ (i c : Nat) (A : Option Addr), v4 = .int .i64 (i : Int) ∧ i + kq = l.length + 1 ∧ 1 ≤ kq ∧ Qb (GN w' W0.heap.size xb ⟨#[]⟩ A (i + 1) c (wN nm :: (l.map tN).take i)) ∧ Qb (Below W0.heap.size W0 w'))
  case atStart => exact ⟨0, 1, some ⟨rb, 0, none⟩, rfl, by omega, by omega, hGx, hBx⟩
  case round =>
   clear hGx hBx
   obtain ⟨i, cr, Ar, rfl, hi, hk, hG, hB⟩ := hrel
   have k1 := (Qa (Qc hbx.out hB.out) 1).trans rfl
   by_cases hlt : i < l.length
   ·have hxi : l[i]? = some l[i] := List.getElem?_eq_getElem hlt
    have hx := hih.out _ (List.getElem_mem hlt)
    generalize l[i] = x at hxi hx
    obtain ⟨z, hz⟩ : ∃ z, tN x = z := ⟨_, rfl⟩
    have hz2 : z.f2 = 0 := by rw [← hz]; exact tN_f2 x
    have hzi : (l.map tN)[i]? = some z := by rw [List.getElem?_map, hxi]; exact congrArg some hz
    obtain ⟨ad, P1, q1', rfl, he, _, hCx⟩ := elemT (Kd.Qj hC0.out hB.out) i hxi
    have CX := Qb.mk (fun (W : World) (hb : Below wr.heap.size wr W) => hx.at hz W (c := q1') (Kd.Qj hCx hb))
    have p0 : (0 : Int) ≤ (i : Int) := by omega
    have p1 : (i : Int) < (l.length : Int) := by omega
    have q1 : decide ((i : Int) < (l.length : Int)) = true := decide_eq_true p1
    have hjn : Value.int .i64 (wrap64 ((i : Int) + 1)) = .int .i64 ((i + 1 : Nat) : Int) := by rw [wr1 i (by have := hl9.out; omega)]
    have hi7 : i + 1 + (gk - 1) = l.length + 1 ∧ 1 ≤ gk - 1 ∧ gk - 1 < gk := by omega
    have hms : Qb (i ≤ 100000000000) := ⟨by have := hl9.out; omega⟩
    clear hx hCx hz hxi
    have hzi := Qb.mk hzi
    have hz2 := Qb.mk hz2
    have he := Qb.mk he
    go_wp2
    have HB_ : Below wr.heap.size wr wr.drew := Qi (Below.refl _ _)
    refine QZ (n := 12) (S := fun w' => w'.cell? ⟨xb, 1, none⟩ = some (.slice Ar (i + 1) cr) ∧ w'.cell? ⟨w.heap.size, 1, none⟩ = some (.slice (some ad) l.length c) ∧ w'.cell? (ad.add (i * 2)) = some (.string x.f0) ∧ w'.cell? ⟨(ad.add (i * 2)).block, (ad.add (i * 2)).off + 1, none⟩ = some (.slice P1 x.f1.length q1')) (ds := [9, 11]) (bm 12 0) (by kernel_rfl) rfl rfl ⟨(Qa (Qc hG.out.ho HB_) 1).trans rfl, (Qa (Qc (Qc hbx.out hB.out) HB_) 1).trans rfl, (HB_.cell (World.block_lt_of_cell? _ _ he.out.1)).trans he.out.1, (HB_.cell (World.block_lt_of_cell? _ _ he.out.2)).trans he.out.2⟩ (fun hHeld => ?_)
    generalize wr.drew = W9 at *
    refine Q4 (i := 0) (N := some 24) (v := ?_) (a' := ?_) (bm 12 1) rfl rfl (by kernel_rfl) (fun _ _ _ h => h) (Or.inl ⟨by rfl, ?_⟩) ?_ ?_
    rotate_left
    ·intro w'
     go_simp
     with_reducible rfl
    rotate_left
    ·simp only [Act.put, sA, sB, sC, Qk, Ql]
     rfl
    refine Q4 (i := 2) (N := some 26) (v := ?_) (a' := ?_) (bm 12 5) rfl rfl (by kernel_rfl) (fun _ _ _ h => h) (Or.inl ⟨by rfl, ?_⟩) ?_ ?_
    rotate_left
    ·intro w'
     go_simp
     with_reducible rfl
    rotate_left
    ·simp only [Act.put, sA, sB, sC, Qk, Ql]
     rfl
    refine Q4 (i := 4) (N := some 28) (v := ?_) (a' := ?_) (bm 12 21) rfl rfl (by kernel_rfl) (fun _ _ _ h => h) (Or.inl ⟨by rfl, ?_⟩) ?_ ?_
    rotate_left
    ·intro w'
     go_simp
     with_reducible rfl
    rotate_left
    ·simp only [Act.put, sA, sB, sC, Qk, Ql]
     rfl
    refine QE (i := 1) (N := some 25) (v := ?_) (a' := ?_) (bm 12 23) rfl rfl (by kernel_rfl) (fun _ _ _ h => h) (Or.inl ⟨by rfl, ?_⟩) hHeld ?_ ?_
    rotate_left
    ·rintro w' ⟨s0, s1, s2, s3⟩
     go_simp
     with_reducible rfl
    rotate_left
    ·simp only [Act.put, sA, sB, sC, Qk, Ql]
     rfl
    refine QE (i := 3) (N := some 27) (v := ?_) (a' := ?_) (bm 12 31) rfl rfl (by kernel_rfl) (fun _ _ _ h => h) (Or.inl ⟨by rfl, ?_⟩) hHeld ?_ ?_
    rotate_left
    ·rintro w' ⟨s0, s1, s2, s3⟩
     go_simp
     with_reducible rfl
    rotate_left
    ·simp only [Act.put, sA, sB, sC, Qk, Ql]
     rfl
    refine Q4 (i := 5) (N := some 29) (v := ?_) (a' := ?_) (bm 12 63) rfl rfl (by kernel_rfl) (fun _ _ _ h => h) (Or.inl ⟨by rfl, ?_⟩) ?_ ?_
    rotate_left
    ·intro w'
     go_simp
     with_reducible rfl
    rotate_left
    ·simp only [Act.put, sA, sB, sC, Qk, Ql]
     rfl
    refine QE (i := 6) (N := some 30) (v := ?_) (a' := ?_) (bm 12 127) rfl rfl (by kernel_rfl) (fun _ _ _ h => h) (Or.inl ⟨by rfl, ?_⟩) hHeld ?_ ?_
    rotate_left
    ·rintro w' ⟨s0, s1, s2, s3⟩
     go_simp
     with_reducible rfl
    rotate_left
    ·simp only [Act.put, sA, sB, sC, Qk, Ql]
     rfl
    refine QQ (i := 7) (N := some 31) (bm 12 255) rfl rfl (by kernel_rfl) (by decide) (fun K hK => ?_)
    refine QI Tryd.func84 (by kernel_rfl) rfl #[.agg #[.string x.f0, .slice P1 x.f1.length q1']] (by rfl) rfl rfl (by simp only [List.map_toArray, List.map_cons, List.map_nil]; rfl) ?_
    (with_reducible refine (CX.out W9 HB_).mono ?_)
    rintro e w5 ⟨Z1, zn, zc, rfl, hzc, hzn, hbq5⟩
    refine ⟨_, rfl, ?_⟩
    have HB5 := Qe HB_ hbq5
    have hG5 := hG.out.below HB5
    refine hK.out _ _ ⟨(Qa (Qc hG.out.ho HB5) 1).trans rfl, (Qa (Qc (Qc hbx.out hB.out) HB5) 1).trans rfl, (HB5.cell (World.block_lt_of_cell? _ _ he.out.1)).trans he.out.1, (HB5.cell (World.block_lt_of_cell? _ _ he.out.2)).trans he.out.2⟩ (fun hHeld => ?_)
    clear hK K
    refine Qq (a' := ?_) ?_ ?_
    rotate_left
    ·show Act.put _ (some 31) _ = _
     simp only [Act.put, sA, sB, sC, Qk, Ql]
     rfl
    refine QQ (i := 8) (N := some 32) (bm 12 511) rfl rfl (by kernel_rfl) (by decide) (fun K hK => ?_)
    refine QM (w1 := ?_) (v := ?_) (by rfl) rfl ?_ ?_
    rotate_left 2
    ·go_simp
     constructor
     ·rfl
     ·rfl
    have HB6 := Qd HB5 (.cells #[.string z.f0, .slice Z1 zn zc, .int .i64 0] 109)
    refine hK.out _ _ ⟨(Qa (Qc hG.out.ho HB6) 1).trans rfl, (Qa (Qc (Qc hbx.out hB.out) HB6) 1).trans rfl, (HB6.cell (World.block_lt_of_cell? _ _ he.out.1)).trans he.out.1, (HB6.cell (World.block_lt_of_cell? _ _ he.out.2)).trans he.out.2⟩ (fun hHeld => ?_)
    clear hK K
    refine Qq (a' := ?_) ?_ ?_
    rotate_left
    ·show Act.put _ (some 32) _ = _
     simp only [Act.put, sA, sB, sC, Qk, Ql]
     rfl
    refine Zw (i := 9) (N := some 33) (bm 12 1023) rfl rfl (by kernel_rfl) (by decide) (fun K hK => ?_)
    refine ZX (w0 := w5) W0.heap.size (by rfl) (.tmp 25) (.tmp 32) rfl (A := Ar) (n := i + 1) (c := cr) (xs := wN nm :: (l.map tN).take i) (x0 := some xb) (q := W9.heap.size) (s1 := z.f0) (A1 := Z1) (n1 := zn) (c1 := zc) (x1 := z.f1) rfl rfl hG5.hr hzn hzc ?_ ?_ ?_ (Below.refl _ _) ?_ ?_ ?_
    ·intro k hk; have h1 := NR.lt hG.out.hr k hk; have h2 := HB_.size; omega
    ·have h1 := hB.out.size; have h2 := HB_.size; omega
    ·intro y hy; obtain rfl := Option.some.inj hy; have h1 := hG.out.lt; have h2 := HB_.size; have h3 := HB5.size; omega
    ·have h1 := hB.out.size; have h2 := HB5.size; omega
    ·have h1 := hms.out; omega
    intro A6 c6 w6 hr6 hb6 hg6
    have hcz := (Qa (hG5.at hg6) 1).trans rfl
    have hfz := Qg (hG5.at hg6) 1
    refine hK.out _ _ ?_
    clear hK K
    refine Qq (a' := ?_) ?_ ?_
    rotate_left
    ·show Act.put _ (some 33) _ = _
     simp only [Act.put, sA, sB, sC, Qk, Ql]
     rfl
    refine Q4 (i := 10) (N := some 34) (v := ?_) (a' := ?_) (bm 12 2047) rfl rfl (by kernel_rfl) (fun _ _ _ h => h) (Or.inl ⟨by rfl, ?_⟩) ?_ ?_
    rotate_left
    ·intro w'
     go_simp
     with_reducible rfl
    rotate_left
    ·simp only [Act.put, sA, sB, sC, Qk, Ql]
     rfl
    refine Zw (i := 11) (N := none) (bm 12 4095) rfl rfl (by kernel_rfl) (by decide) (fun K hK => ?_)
    refine Vk (w1 := ?_) (by rfl) rfl ?_ ?_
    rotate_left
    ·go_simp
     rfl
    refine hK.out _ _ ?_
    clear hK K
    refine Zx (by kernel_rfl) ?_
    clear hHeld
    obtain ⟨W7, hW7⟩ : ∃ W7, w6.setCell ⟨xb, 1, none⟩ (.slice A6 (i + 1 + 1) c6) = W7 := ⟨_, rfl⟩
    have hG7 : Qb (GN W7 W0.heap.size xb ⟨#[]⟩ A6 (i + 1 + 1) c6 (wN nm :: (l.map tN).take (i + 1))) := ⟨by rw [← hW7]; refine hG5.app hg6 ?_; have h := hr6; rw [List.cons_append, nd_eta z hz2.out, take_snoc hzi.out] at h; exact h⟩
    have hB7 : Qb (Below W0.heap.size W0 W7) := ⟨by rw [← hW7]; exact ((hB.out.trans (HB5.mono hB.out.size)).trans hb6).setCell (p := ⟨xb, 1, none⟩) hxs.out _⟩
    rw [hW7]
    clear hW7 hcz hfz hr6 hb6 hg6 hG5 HB5 HB6 HB_ hzn hbq5
    go_wp2
    go_roundg (gk - 1)
    case measure => exact hi7.2.2
    case rel => exact ⟨i + 1, c6, A6, by first | exact hjn | rfl, hi7.1, hi7.2.1, hG7, hB7⟩
   ·obtain rfl : i = l.length := by omega
    have q1 : decide ((l.length : Int) < (l.length : Int)) = false := decide_eq_false (by omega)
    have o0 := (Qa hG.out.ho 0).trans rfl
    have o1 := (Qa hG.out.ho 1).trans rfl
    have o2 := (Qa hG.out.ho 2).trans rfl
    have hro := Qc hrx.out hB.out
    have r0 := (Qa hro 0).trans rfl
    have r1 := (Qa hro 1).trans rfl
    have r2 := (Qa hro 2).trans rfl
    have y0 := Qg hro 0
    have y1 := Qg hro 1
    have y2 := Qg hro 2
    have hfin := Qb.mk hG.out.hr.list
    clear hi hk
    go_wp2
    have hNf : NL wr W0.heap.size Ar (l.length + 1) (wN nm :: l.map tN) := by have h := hfin.out.1.list; rw [List.take_of_length_le (by simp)] at h; exact h
    refine bodyPost_ret (v := .agg #[.string ⟨#[]⟩, .slice Ar (l.length + 1) cr, .int .i64 0]) (by simp [results, Tryd.results84, go_sem, *]) rfl ⟨Ar, l.length + 1, cr, rfl, hfin.out.2, ?_, ?_⟩
    ·exact (NL.far3 (q := w.heap.size + 1) (hNf) (by have := hsz.out; omega) _ _ _).mono hB0.out.size
    ·exact below3 (q := w.heap.size + 1) (hB0.out.trans (hB.out.mono hB0.out.size)) (by omega) _ _ _
theorem typeNode_all : ∀ (m : Nat) (t : S67), Zo t ≤ m → Zo t ≤ 100000000000 → TN t
 | 0, ⟨_, _⟩, hc, _ => by simp only [Zo] at hc; omega
 | m + 1, ⟨nm, l⟩, hc, hb => by
  simp only [Zo] at hc hb
  have h1 := tlen l
  exact typeNode_step ⟨nm, l⟩ (by show l.length ≤ _; omega) (fun x (hx : x ∈ l) => typeNode_all m x (by have := tcost_mem hx; omega) (by have := tcost_mem hx; omega))
end Go.Proofs.YtlgpoigbadajnaaDoor.DepA
namespace Go.Proofs.YtlgpoigbadajnaaDoor.DepA
open Go.RowKit Go.Sort Go.Lib Go.Proofs.YtlgpoigbadajnaaDoorW.PrintWords Go.Proofs.YtlgpoigbadajnaaDoorW.PrintLast Go.Proofs.YtlgpoigbadajnaaDoorW.PrintMore Go.Proofs.YtlgpoigbadajnaaDoor.PDepA
set_option linter.unusedVariables false
set_option linter.unusedSimpArgs false
theorem gPow : Tryd.prog.globalNamed "internal/strconv.uint64pow10" = some 0 := by kernel_rfl
theorem gPowType : (Tryd.prog.globals[0]?).map (·.type) = some 130 := by kernel_rfl
structure GG (w : World) : Prop where
 tab : Lib.TabIs Tryd.prog w "internal/strconv.uint64pow10" .u64 Lib.pow10Tab
 lt : 0 < w.heap.size
theorem GG.below {w W : World} (h : GG w) (hb : Below w.heap.size w W) : GG W :=
 ⟨var?_below hb gPow h.lt h.tab, Nat.lt_of_lt_of_le h.lt hb.size⟩
theorem gg_of_pow {W : World} {r : List (String × DataW Unit)} (h : laidMet Tryd.prog (("internal/strconv.uint64pow10", Rows.laid_internal_strconv_uint64pow10) :: r) W) : GG W := by
 have e : (Rows.laid_internal_strconv_uint64pow10 : DataW Unit) = Lib.tabData .u64 Lib.pow10Tab := rfl
 rw [e] at h
 have hT := Lib.tabIs_of_head gPow gPowType Tryd.underlying130 Tryd.underlying116 (by kernel_rfl) (by kernel_rfl) h
 exact ⟨hT, World.block_lt_of_cell? _ _ (hT.cell gPow 0 (by decide))⟩
theorem fin0 (w : World) (o : Obj) (dk : Array UInt8) (k : Nat) : ∃ os, (putRow (fun (b : UInt8) => Value.int .u8 (b.toNat : Int)) (w.alloc o) w.heap.size 0 dk).drewN k = grow (w.drewN k) os := by
 rw [alloc_eq_grow]
 obtain ⟨os', _, e⟩ := putRow_grow_new (fun (b : UInt8) => Value.int .u8 (b.toNat : Int)) w #[o] w.heap.size 0 dk (Nat.le_refl _)
 exact ⟨os', by rw [e]; rfl⟩
set_option maxHeartbeats 6400000 in
set_option maxRecDepth 100000 in
theorem iFormatUint (u : Nat) (hu64 : u < 18446744073709551616) (w : World) (hg : GG w) :
  Calls Tryd.prog 103 #[.int .u64 u, .int .i64 10] w fun e w' => e = .returned (.string ⟨(Lib.decDigits u).toArray⟩) ∧ ∃ k os, w' = grow (w.drewN k) os := by
 have e66 : ∀ args w, (callFunc 76 args).run Tryd.prog w = .ok (.enter 76 args) w := enters_of Tryd.func76 (by kernel_rfl) rfl
 have e67 : ∀ args w, (callFunc 77 args).run Tryd.prog w = .ok (.enter 77 args) w := enters_of Tryd.func77 (by kernel_rfl) rfl
 have e68 : ∀ args w, (callFunc 78 args).run Tryd.prog w = .ok (.enter 78 args) w := enters_of Tryd.func78 (by kernel_rfl) rfl
 have htab := hg.tab
 by_cases hs : u < 100
 ·have hd : decide ((u : Int) < 100) = true := decide_eq_true (by omega)
  go_enter Tryd.func103, Tryd.ntmps103
  go_wp2_with (go_at_fn 76; refine (Any.internal_strconv_small { Tryd.laysM171 with } u hs _).mono ?_; rintro e w' ⟨rfl, rfl⟩)
  go_ret
  exact ⟨rfl, 0, #[], by simp [World.drewN_zero]⟩
 ·have hd : decide ((u : Int) < 100) = false := decide_eq_false (by omega)
  have hu1 : 1 ≤ u := by omega
  have hnd20 : Lib.nDigits u ≤ 20 := by have := Lib.numDigits_eq u hu1 hu64; split at this <;> omega
  have hal : Tryd.prog.arrayLen 115 = 24 := by simp [Program.arrayLen, Tryd.underlying115]
  have hsl1 : ∀ W, (Instr.sliceAt 115 (.pointer (some ⟨w.heap.size, 0, none⟩)) none (some (.int .i64 (Lib.nDigits u : Int))) none).run Tryd.prog W = .ok (.slice (some ⟨w.heap.size, 0, none⟩) (Lib.nDigits u) 24) W := fun W => by
   rw [run_sliceAt_array_h W 115 ⟨w.heap.size, 0, none⟩ (by simp [Program.arrayLen, Program.elem, Tryd.underlying115]) .i64 (Lib.nDigits u : Int) (by omega) (by rw [hal]; omega)]
   go_simp
   first | done | omega
  have hH0 : Holds (fun (b : UInt8) => Value.int .u8 (b.toNat : Int)) (w.alloc (.cells Lib.zeros24 115)) w.heap.size 0 (Array.replicate (Lib.nDigits u) 0) := by
   intro t ht
   rw [Array.size_replicate] at ht
   refine ⟨?_, World.frozen?_alloc_new _ _ _ _⟩
   rw [World.cell?_alloc_new, Nat.zero_add, Lib.zeros24_at t (by omega), getElem!_pos _ t (by rw [Array.size_replicate]; exact ht)]
   simp
  have hfmt := Any.internal_strconv_formatBase10 { Tryd.laysM171 with } w.heap.size 0 24 u (Array.replicate (Lib.nDigits u) 0) (w.alloc (.cells Lib.zeros24 115)) hH0 (by rw [Array.size_replicate]; exact Lib.lt_pow_nDigits u) hu64 (by rw [Array.size_replicate]; omega)
  rw [Array.size_replicate] at hfmt
  have HH0 := Lib.hid hH0
  clear hH0 hal
  go_enter Tryd.func103, Tryd.ntmps103
  go_wp2_with (first
   | (go_at_fn 77; refine (Any.internal_strconv_numDigits { Tryd.laysM171 with } u hu1 hu64 _ (Lib.tabIs_alloc htab _)).mono ?_; rintro e w' ⟨rfl, rfl⟩))
  go_at_fn 78
  refine hfmt.mono ?_
  rintro e w' ⟨rfl, k, v', dk, rfl, hF⟩
  have hal : Tryd.prog.arrayLen 115 = 24 := by simp [Program.arrayLen, Tryd.underlying115]
  have hcv : (convert 119 9 (.slice (some ⟨w.heap.size, 0, none⟩) (Lib.nDigits u) 24)).run Tryd.prog ((putRow (fun (b : UInt8) => Value.int .u8 (b.toNat : Int)) (w.alloc (.cells Lib.zeros24 115)) w.heap.size 0 dk).drewN k) = .ok (.string ⟨(Lib.decDigits u).toArray⟩) ((putRow (fun (b : UInt8) => Value.int .u8 (b.toNat : Int)) (w.alloc (.cells Lib.zeros24 115)) w.heap.size 0 dk).drewN k) := by
   have h := run_convert_bytes_back (P := Tryd.prog) ((putRow (fun (b : UInt8) => Value.int .u8 (b.toNat : Int)) (w.alloc (.cells Lib.zeros24 115)) w.heap.size 0 dk).drewN k) 119 9 5 ⟨w.heap.size, 0, none⟩ 24 (Lib.decDigits u) Tryd.underlying119 Tryd.underlying5 Tryd.underlying9 (fun j hj => by
    rw [Lib.row_is_numeral hF j hj, Lib.add_plain, World.cell?_drewN]
    exact cell?_putRow (fun (b : UInt8) => Value.int .u8 (b.toNat : Int)) _ w.heap.size 0 _ dk HH0.out (by rw [hF.size, Array.size_replicate]) j (by rw [hF.size]; rw [Lib.decDigits_length] at hj; exact hj))
   rw [Lib.decDigits_length] at h
   exact h
  go_wp2
  go_ret
  obtain ⟨os, eo⟩ := fin0 w (.cells Lib.zeros24 115) dk k
  exact ⟨rfl, k, os, eo⟩
theorem sz0 : (⟨#[]⟩ : ByteArray).size = 0 := rfl
theorem sz1 (b : UInt8) : (⟨#[b]⟩ : ByteArray).size = 1 := rfl
theorem nDigits20 (u : Nat) (h : u < 18446744073709551616) : (Lib.decDigits u).length ≤ 20 := by
 rw [Lib.decDigits_length]
 by_cases h1 : 1 ≤ u
 ·have := Lib.numDigits_eq u h1 h; split at this <;> omega
 ·rw [Lib.nDigits_small (by omega)]; omega
theorem dec_size (u : Nat) (h : u < 18446744073709551616) : (⟨(Lib.decDigits u).toArray⟩ : ByteArray).size ≤ 21 := by
 have := nDigits20 u h
 show (Lib.decDigits u).toArray.size ≤ 21
 rw [List.size_toArray]
 omega
theorem ZZ (n : Int) (h0 : -9223372036854775808 ≤ n) (h1 : n ≤ 9223372036854775807) : (⟨(Lib.itoa n).toArray⟩ : ByteArray).size ≤ 21 := by
 show (Lib.itoa n).toArray.size ≤ 21
 rw [List.size_toArray]
 by_cases hn : n < 0
 ·obtain ⟨u, rfl⟩ : ∃ u : Nat, n = -(u : Int) := ⟨n.natAbs, by omega⟩
  rw [Lib.itoa_neg u (by omega)]
  have := nDigits20 u (by omega)
  simp only [List.length_cons]
  omega
 ·obtain ⟨u, rfl⟩ : ∃ u : Nat, n = u := ⟨n.toNat, by omega⟩
  rw [Lib.itoa_nonneg]
  have := nDigits20 u (by omega)
  omega
theorem ZW (u : Nat) (hu64 : u < 18446744073709551616) (w : World) (hg : GG w) :
  Calls Tryd.prog 102 #[.int .u64 u, .int .i64 10] w fun e w' => e = .returned (.string ⟨(Lib.decDigits u).toArray⟩) ∧ Below w.heap.size w w' := by
 have T1 := iFormatUint u hu64 w hg
 go_enter Tryd.func102, Tryd.ntmps102
 go_wp2_with (first | (go_at_call 103; go_loud (with_reducible refine T1.mono ?_); rintro e w1 ⟨rfl, k, os, hw⟩; have HB := Qb.mk (show Below w.heap.size w w1 by rw [hw]; exact Lib.below_grow _ w (Nat.le_refl _) k os); clear hw T1))
 go_ret
 exact ⟨rfl, HB.out⟩
theorem ZV (n : Int) (h0 : -9223372036854775808 ≤ n) (h1 : n ≤ 9223372036854775807) (w : World) (hg : GG w) :
  Calls Tryd.prog 26 #[.int .i64 n] w fun e w' => e = .returned (.string ⟨(Lib.itoa n).toArray⟩) ∧ Below w.heap.size w w' :=
 (Tryd.strconv_Itoa n h0 h1 w hg.tab).mono fun e w' ⟨he, k, os, hw⟩ => ⟨he, by rw [hw]; exact Lib.below_grow _ w (Nat.le_refl _) k os⟩
theorem formatInt (n : Int) (h0 : -9223372036854775808 ≤ n) (h1 : n ≤ 9223372036854775807) (w : World) (hg : GG w) :
  Calls Tryd.prog 101 #[.int .i64 n, .int .i64 10] w fun e w' => e = .returned (.string ⟨(Lib.itoa n).toArray⟩) ∧ Below w.heap.size w w' :=
 (Tryd.strconv_FormatInt_10 n h0 h1 w hg.tab).mono fun e w' ⟨he, k, os, hw⟩ => ⟨he, by rw [hw]; exact Lib.below_grow _ w (Nat.le_refl _) k os⟩
theorem numText_calls (n : Int) (h0 : -9223372036854775808 ≤ n) (h1 : n ≤ 9223372036854775807) (w : World) (hg : GG w) :
  Calls Tryd.prog 95 #[.int .i64 n] w fun e w' => ∃ s : ByteArray, s.size ≤ 21 ∧ e = .returned (.string s) ∧ Below w.heap.size w w' := by
 have T1 := formatInt n h0 h1 w hg
 go_enter Tryd.func95, Tryd.ntmps95
 go_wp2_with (first | (go_at_call 101; go_loud (with_reducible refine T1.mono ?_); rintro e w1 ⟨rfl, hb⟩; have HB := Qb.mk hb; clear hb T1))
 go_ret
 exact ⟨_, ZZ n h0 h1, rfl, HB.out⟩
set_option maxHeartbeats 6400000 in
set_option maxRecDepth 100000 in
theorem floText_calls (a : Int) (h0 : 0 ≤ a) (h1 : a < 18446744073709551616) (w : World) (hg : GG w) :
  Calls Tryd.prog 96 #[.int .u64 a] w fun e w' => ∃ s : ByteArray, s.size ≤ 60 ∧ e = .returned (.string s) ∧ Below w.heap.size w w' := by
 obtain ⟨r, hr⟩ : ∃ r, QO.f a = some r := by unfold QO.f; split <;> (try split) <;> exact ⟨_, rfl⟩
 have hrr : 0 ≤ r ∧ r < 18446744073709551616 := by
  unfold QO.f at hr
  split at hr <;> (try split at hr) <;> (injection hr with hr; omega)
 have T1 := QO.calls a r w hr
 have hg := Qb.mk hg
 clear hr
 by_cases hn : r = 9221120237041090560
 ·have q1 : (r == 9221120237041090560) = true := beq_iff_eq.2 hn
  clear hn
  go_enter Tryd.func96, Tryd.ntmps96
  go_wp2_with (first | (go_at_call 92; go_loud (with_reducible refine T1.mono ?_); rintro e w1 ⟨rfl, hd⟩; have HB := Qb.mk hd.below; clear hd T1))
  go_ret
  exact ⟨_, by decide, rfl, HB.out⟩
 have q1 : (r == 9221120237041090560) = false := beq_eq_false_iff_ne.2 hn
 obtain ⟨b2, q2⟩ : ∃ b, (r / 9223372036854775808 == 1) = b := ⟨_, rfl⟩
 obtain ⟨E0, hE⟩ : ∃ x, wrap64 (bits BinOp.and IntKind.u64 (r / 4503599627370496) 2047) = x := ⟨_, rfl⟩
 obtain ⟨M0, hM⟩ : ∃ x, bits BinOp.and IntKind.u64 r 4503599627370495 = x := ⟨_, rfl⟩
 obtain ⟨M1, hO⟩ : ∃ x, bits BinOp.or IntKind.u64 M0 4503599627370496 = x := ⟨_, rfl⟩
 obtain ⟨E1, hE1⟩ : ∃ x, wrap64 (E0 - 1075) = x := ⟨_, rfl⟩
 have rM0 : Qb (0 ≤ M0 ∧ M0 < 18446744073709551616) := ⟨by have h1 := bits_lo_u64 .and r 4503599627370495; have h2 := bits_hi_u64 .and r 4503599627370495; omega⟩
 have rM1 : Qb (0 ≤ M1 ∧ M1 < 18446744073709551616) := ⟨by have h1 := bits_lo_u64 .or M0 4503599627370496; have h2 := bits_hi_u64 .or M0 4503599627370496; omega⟩
 obtain ⟨b3, q3⟩ : ∃ b, (E0 == 2047) = b := ⟨_, rfl⟩
 obtain ⟨b4, q4⟩ : ∃ b, (E0 == 0) = b := ⟨_, rfl⟩
 obtain ⟨b5, q5⟩ : ∃ b, (M0 == 0) = b := ⟨_, rfl⟩
 obtain ⟨b6, q6⟩ : ∃ b, (M1 == 0) = b := ⟨_, rfl⟩
 have n0 : Qb (b5 = false → M0 ≠ 0) := ⟨fun h => by rw [h] at q5; exact beq_eq_false_iff_ne.1 q5⟩
 have n1 : Qb (b6 = false → M1 ≠ 0) := ⟨fun h => by rw [h] at q6; exact beq_eq_false_iff_ne.1 q6⟩
 clear hn hrr h0 h1
 cases b2 <;> cases b3 <;> cases b4 <;> cases b5 <;> cases b6
 all_goals go_enter Tryd.func96, Tryd.ntmps96
 all_goals go_wp2_with (first | (go_at_call 92; go_loud (with_reducible refine T1.mono ?_); rintro e w1 ⟨rfl, hd⟩; have HB := Qb.mk hd.below; clear hd T1))
 all_goals first | (go_ret; exact ⟨_, by decide, rfl, HB.out⟩) | skip
 ·have hm0 := n1.out (by first | rfl | trivial)
  have hrM := rM1.out
  have hgs := Qb.mk (GG.below hg.out HB.out)
  go_loopg [4, 5] (M1.toNat + 2) (fun gk v4 v5 w' => ∃ (m : Nat) (e : Int), v4 = .int .i64 e ∧ v5 = .int .u64 (m : Int) ∧ m + 1 ≤ gk ∧ Qb (0 < m ∧ m < 18446744073709551616 ∧ -9223372036854775808 ≤ e ∧ e ≤ 9223372036854775807) ∧ Qb (Below w.heap.size w w'))
  case atStart => exact ⟨M1.toNat, E1, by rw [hE1], by congr 1; omega, by omega, ⟨by omega, by omega, by rw [← hE1]; unfold wrap64; omega, by rw [← hE1]; unfold wrap64; omega⟩, HB⟩
  case round =>
   clear HB hgs
   obtain ⟨m, e, rfl, rfl, hk, hme, hB⟩ := hrel
   have hme0 := hme.out
   by_cases hev : m % 2 = 0
   ·have p1 : ((m : Int) % 2 == 0) = true := beq_iff_eq.2 (by omega)
    obtain ⟨m2, hm2⟩ : ∃ m2 : Nat, m2 = m / 2 := ⟨_, rfl⟩
    have p2 : (m : Int) / 2 = (m2 : Int) := by omega
    have hmn : 0 < m2 ∧ m2 < 18446744073709551616 ∧ m2 + 2 ≤ gk := by omega
    obtain ⟨e2, he2⟩ : ∃ e2, wrap64 (e + 1) = e2 := ⟨_, rfl⟩
    have hen : -9223372036854775808 ≤ e2 ∧ e2 ≤ 9223372036854775807 := by rw [← he2]; unfold wrap64; omega
    have hmn := Qb.mk hmn
    have hen := Qb.mk hen
    clear hme0 hev hm2 hk
    go_wp2
    go_roundg (gk - 1)
    case measure => have := hmn.out; omega
    case rel => exact ⟨m2, e2, by rw [he2], rfl, by have := hmn.out; omega, ⟨by have := hmn.out; have := hen.out; omega⟩, hB⟩
   ·have p1 : ((m : Int) % 2 == 0) = false := beq_eq_false_iff_ne.2 (by omega)
    have hgr := GG.below hg.out hB.out
    have CU := ZW m (by omega) wr hgr
    have d1 := dec_size m (by omega)
    have d2 := ZZ e (by omega) (by omega)
    have he1 := hme0.2.2.1
    have he2 := hme0.2.2.2
    generalize (⟨(Lib.decDigits m).toArray⟩ : ByteArray) = t1 at CU d1
    have CI : ∀ w2, GG w2 → _ := fun w2 h2 => ZV e he1 he2 w2 h2
    generalize (⟨(Lib.itoa e).toArray⟩ : ByteArray) = t2 at CI d2
    have z1 : ¬ 9223372036854775807 < t1.size := by omega
    have z2 : ¬ 9223372036854775807 < 1 + t1.size := by omega
    have z3 : ¬ 9223372036854775807 < t1.size + 1 := by omega
    have z4 : ¬ 9223372036854775807 < 1 + t1.size + 1 := by omega
    have z5 : ¬ 9223372036854775807 < t1.size + 1 + t2.size := by omega
    have z6 : ¬ 9223372036854775807 < 1 + t1.size + 1 + t2.size := by omega
    have hgr := Qb.mk hgr
    have hd1 := Qb.mk d1
    have hd2 := Qb.mk d2
    clear hev hk hme0 he1 he2 d1 d2
    go_wp2_with (first | (go_at_call 102; go_loud (with_reducible refine CU.mono ?_); rintro e w2 ⟨rfl, hb2⟩; have CI2 := CI w2 (GG.below hgr.out hb2); have HB2 := Qb.mk (Qe hB.out hb2); clear CU hb2) | (go_at_call 26; go_loud (with_reducible refine CI2.mono ?_); rintro e w3 ⟨rfl, hb3⟩; have HB3 := Qb.mk (Qe HB2.out hb3); clear CI2 hb3))
    go_ret
    exact ⟨_, by have d1 := hd1.out; have d2 := hd2.out; simp only [ByteArray.size_append, sz0, sz1]; omega, rfl, HB3.out⟩
 ·have hm0 := n1.out (by first | rfl | trivial)
  have hrM := rM1.out
  have hgs := Qb.mk (GG.below hg.out HB.out)
  go_loopg [4, 5] (M1.toNat + 2) (fun gk v4 v5 w' => ∃ (m : Nat) (e : Int), v4 = .int .i64 e ∧ v5 = .int .u64 (m : Int) ∧ m + 1 ≤ gk ∧ Qb (0 < m ∧ m < 18446744073709551616 ∧ -9223372036854775808 ≤ e ∧ e ≤ 9223372036854775807) ∧ Qb (Below w.heap.size w w'))
  case atStart => exact ⟨M1.toNat, E1, by rw [hE1], by congr 1; omega, by omega, ⟨by omega, by omega, by rw [← hE1]; unfold wrap64; omega, by rw [← hE1]; unfold wrap64; omega⟩, HB⟩
  case round =>
   clear HB hgs
   obtain ⟨m, e, rfl, rfl, hk, hme, hB⟩ := hrel
   have hme0 := hme.out
   by_cases hev : m % 2 = 0
   ·have p1 : ((m : Int) % 2 == 0) = true := beq_iff_eq.2 (by omega)
    obtain ⟨m2, hm2⟩ : ∃ m2 : Nat, m2 = m / 2 := ⟨_, rfl⟩
    have p2 : (m : Int) / 2 = (m2 : Int) := by omega
    have hmn : 0 < m2 ∧ m2 < 18446744073709551616 ∧ m2 + 2 ≤ gk := by omega
    obtain ⟨e2, he2⟩ : ∃ e2, wrap64 (e + 1) = e2 := ⟨_, rfl⟩
    have hen : -9223372036854775808 ≤ e2 ∧ e2 ≤ 9223372036854775807 := by rw [← he2]; unfold wrap64; omega
    have hmn := Qb.mk hmn
    have hen := Qb.mk hen
    clear hme0 hev hm2 hk
    go_wp2
    go_roundg (gk - 1)
    case measure => have := hmn.out; omega
    case rel => exact ⟨m2, e2, by rw [he2], rfl, by have := hmn.out; omega, ⟨by have := hmn.out; have := hen.out; omega⟩, hB⟩
   ·have p1 : ((m : Int) % 2 == 0) = false := beq_eq_false_iff_ne.2 (by omega)
    have hgr := GG.below hg.out hB.out
    have CU := ZW m (by omega) wr hgr
    have d1 := dec_size m (by omega)
    have d2 := ZZ e (by omega) (by omega)
    have he1 := hme0.2.2.1
    have he2 := hme0.2.2.2
    generalize (⟨(Lib.decDigits m).toArray⟩ : ByteArray) = t1 at CU d1
    have CI : ∀ w2, GG w2 → _ := fun w2 h2 => ZV e he1 he2 w2 h2
    generalize (⟨(Lib.itoa e).toArray⟩ : ByteArray) = t2 at CI d2
    have z1 : ¬ 9223372036854775807 < t1.size := by omega
    have z2 : ¬ 9223372036854775807 < 1 + t1.size := by omega
    have z3 : ¬ 9223372036854775807 < t1.size + 1 := by omega
    have z4 : ¬ 9223372036854775807 < 1 + t1.size + 1 := by omega
    have z5 : ¬ 9223372036854775807 < t1.size + 1 + t2.size := by omega
    have z6 : ¬ 9223372036854775807 < 1 + t1.size + 1 + t2.size := by omega
    have hgr := Qb.mk hgr
    have hd1 := Qb.mk d1
    have hd2 := Qb.mk d2
    clear hev hk hme0 he1 he2 d1 d2
    go_wp2_with (first | (go_at_call 102; go_loud (with_reducible refine CU.mono ?_); rintro e w2 ⟨rfl, hb2⟩; have CI2 := CI w2 (GG.below hgr.out hb2); have HB2 := Qb.mk (Qe hB.out hb2); clear CU hb2) | (go_at_call 26; go_loud (with_reducible refine CI2.mono ?_); rintro e w3 ⟨rfl, hb3⟩; have HB3 := Qb.mk (Qe HB2.out hb3); clear CI2 hb3))
    go_ret
    exact ⟨_, by have d1 := hd1.out; have d2 := hd2.out; simp only [ByteArray.size_append, sz0, sz1]; omega, rfl, HB3.out⟩
 ·have hm0 := n0.out (by first | rfl | trivial)
  have hrM := rM0.out
  have hgs := Qb.mk (GG.below hg.out HB.out)
  go_loopg [4, 5] (M0.toNat + 2) (fun gk v4 v5 w' => ∃ (m : Nat) (e : Int), v4 = .int .i64 e ∧ v5 = .int .u64 (m : Int) ∧ m + 1 ≤ gk ∧ Qb (0 < m ∧ m < 18446744073709551616 ∧ -9223372036854775808 ≤ e ∧ e ≤ 9223372036854775807) ∧ Qb (Below w.heap.size w w'))
  case atStart => exact ⟨M0.toNat, (-1074), rfl, by congr 1; omega, by omega, ⟨by omega, by omega, by omega, by omega⟩, HB⟩
  case round =>
   clear HB hgs
   obtain ⟨m, e, rfl, rfl, hk, hme, hB⟩ := hrel
   have hme0 := hme.out
   by_cases hev : m % 2 = 0
   ·have p1 : ((m : Int) % 2 == 0) = true := beq_iff_eq.2 (by omega)
    obtain ⟨m2, hm2⟩ : ∃ m2 : Nat, m2 = m / 2 := ⟨_, rfl⟩
    have p2 : (m : Int) / 2 = (m2 : Int) := by omega
    have hmn : 0 < m2 ∧ m2 < 18446744073709551616 ∧ m2 + 2 ≤ gk := by omega
    obtain ⟨e2, he2⟩ : ∃ e2, wrap64 (e + 1) = e2 := ⟨_, rfl⟩
    have hen : -9223372036854775808 ≤ e2 ∧ e2 ≤ 9223372036854775807 := by rw [← he2]; unfold wrap64; omega
    have hmn := Qb.mk hmn
    have hen := Qb.mk hen
    clear hme0 hev hm2 hk
    go_wp2
    go_roundg (gk - 1)
    case measure => have := hmn.out; omega
    case rel => exact ⟨m2, e2, by rw [he2], rfl, by have := hmn.out; omega, ⟨by have := hmn.out; have := hen.out; omega⟩, hB⟩
   ·have p1 : ((m : Int) % 2 == 0) = false := beq_eq_false_iff_ne.2 (by omega)
    have hgr := GG.below hg.out hB.out
    have CU := ZW m (by omega) wr hgr
    have d1 := dec_size m (by omega)
    have d2 := ZZ e (by omega) (by omega)
    have he1 := hme0.2.2.1
    have he2 := hme0.2.2.2
    generalize (⟨(Lib.decDigits m).toArray⟩ : ByteArray) = t1 at CU d1
    have CI : ∀ w2, GG w2 → _ := fun w2 h2 => ZV e he1 he2 w2 h2
    generalize (⟨(Lib.itoa e).toArray⟩ : ByteArray) = t2 at CI d2
    have z1 : ¬ 9223372036854775807 < t1.size := by omega
    have z2 : ¬ 9223372036854775807 < 1 + t1.size := by omega
    have z3 : ¬ 9223372036854775807 < t1.size + 1 := by omega
    have z4 : ¬ 9223372036854775807 < 1 + t1.size + 1 := by omega
    have z5 : ¬ 9223372036854775807 < t1.size + 1 + t2.size := by omega
    have z6 : ¬ 9223372036854775807 < 1 + t1.size + 1 + t2.size := by omega
    have hgr := Qb.mk hgr
    have hd1 := Qb.mk d1
    have hd2 := Qb.mk d2
    clear hev hk hme0 he1 he2 d1 d2
    go_wp2_with (first | (go_at_call 102; go_loud (with_reducible refine CU.mono ?_); rintro e w2 ⟨rfl, hb2⟩; have CI2 := CI w2 (GG.below hgr.out hb2); have HB2 := Qb.mk (Qe hB.out hb2); clear CU hb2) | (go_at_call 26; go_loud (with_reducible refine CI2.mono ?_); rintro e w3 ⟨rfl, hb3⟩; have HB3 := Qb.mk (Qe HB2.out hb3); clear CI2 hb3))
    go_ret
    exact ⟨_, by have d1 := hd1.out; have d2 := hd2.out; simp only [ByteArray.size_append, sz0, sz1]; omega, rfl, HB3.out⟩
 ·have hm0 := n0.out (by first | rfl | trivial)
  have hrM := rM0.out
  have hgs := Qb.mk (GG.below hg.out HB.out)
  go_loopg [4, 5] (M0.toNat + 2) (fun gk v4 v5 w' => ∃ (m : Nat) (e : Int), v4 = .int .i64 e ∧ v5 = .int .u64 (m : Int) ∧ m + 1 ≤ gk ∧ Qb (0 < m ∧ m < 18446744073709551616 ∧ -9223372036854775808 ≤ e ∧ e ≤ 9223372036854775807) ∧ Qb (Below w.heap.size w w'))
  case atStart => exact ⟨M0.toNat, (-1074), rfl, by congr 1; omega, by omega, ⟨by omega, by omega, by omega, by omega⟩, HB⟩
  case round =>
   clear HB hgs
   obtain ⟨m, e, rfl, rfl, hk, hme, hB⟩ := hrel
   have hme0 := hme.out
   by_cases hev : m % 2 = 0
   ·have p1 : ((m : Int) % 2 == 0) = true := beq_iff_eq.2 (by omega)
    obtain ⟨m2, hm2⟩ : ∃ m2 : Nat, m2 = m / 2 := ⟨_, rfl⟩
    have p2 : (m : Int) / 2 = (m2 : Int) := by omega
    have hmn : 0 < m2 ∧ m2 < 18446744073709551616 ∧ m2 + 2 ≤ gk := by omega
    obtain ⟨e2, he2⟩ : ∃ e2, wrap64 (e + 1) = e2 := ⟨_, rfl⟩
    have hen : -9223372036854775808 ≤ e2 ∧ e2 ≤ 9223372036854775807 := by rw [← he2]; unfold wrap64; omega
    have hmn := Qb.mk hmn
    have hen := Qb.mk hen
    clear hme0 hev hm2 hk
    go_wp2
    go_roundg (gk - 1)
    case measure => have := hmn.out; omega
    case rel => exact ⟨m2, e2, by rw [he2], rfl, by have := hmn.out; omega, ⟨by have := hmn.out; have := hen.out; omega⟩, hB⟩
   ·have p1 : ((m : Int) % 2 == 0) = false := beq_eq_false_iff_ne.2 (by omega)
    have hgr := GG.below hg.out hB.out
    have CU := ZW m (by omega) wr hgr
    have d1 := dec_size m (by omega)
    have d2 := ZZ e (by omega) (by omega)
    have he1 := hme0.2.2.1
    have he2 := hme0.2.2.2
    generalize (⟨(Lib.decDigits m).toArray⟩ : ByteArray) = t1 at CU d1
    have CI : ∀ w2, GG w2 → _ := fun w2 h2 => ZV e he1 he2 w2 h2
    generalize (⟨(Lib.itoa e).toArray⟩ : ByteArray) = t2 at CI d2
    have z1 : ¬ 9223372036854775807 < t1.size := by omega
    have z2 : ¬ 9223372036854775807 < 1 + t1.size := by omega
    have z3 : ¬ 9223372036854775807 < t1.size + 1 := by omega
    have z4 : ¬ 9223372036854775807 < 1 + t1.size + 1 := by omega
    have z5 : ¬ 9223372036854775807 < t1.size + 1 + t2.size := by omega
    have z6 : ¬ 9223372036854775807 < 1 + t1.size + 1 + t2.size := by omega
    have hgr := Qb.mk hgr
    have hd1 := Qb.mk d1
    have hd2 := Qb.mk d2
    clear hev hk hme0 he1 he2 d1 d2
    go_wp2_with (first | (go_at_call 102; go_loud (with_reducible refine CU.mono ?_); rintro e w2 ⟨rfl, hb2⟩; have CI2 := CI w2 (GG.below hgr.out hb2); have HB2 := Qb.mk (Qe hB.out hb2); clear CU hb2) | (go_at_call 26; go_loud (with_reducible refine CI2.mono ?_); rintro e w3 ⟨rfl, hb3⟩; have HB3 := Qb.mk (Qe HB2.out hb3); clear CI2 hb3))
    go_ret
    exact ⟨_, by have d1 := hd1.out; have d2 := hd2.out; simp only [ByteArray.size_append, sz0, sz1]; omega, rfl, HB3.out⟩
 ·have hm0 := n1.out (by first | rfl | trivial)
  have hrM := rM1.out
  have hgs := Qb.mk (GG.below hg.out HB.out)
  go_loopg [4, 5] (M1.toNat + 2) (fun gk v4 v5 w' => ∃ (m : Nat) (e : Int), v4 = .int .i64 e ∧ v5 = .int .u64 (m : Int) ∧ m + 1 ≤ gk ∧ Qb (0 < m ∧ m < 18446744073709551616 ∧ -9223372036854775808 ≤ e ∧ e ≤ 9223372036854775807) ∧ Qb (Below w.heap.size w w'))
  case atStart => exact ⟨M1.toNat, E1, by rw [hE1], by congr 1; omega, by omega, ⟨by omega, by omega, by rw [← hE1]; unfold wrap64; omega, by rw [← hE1]; unfold wrap64; omega⟩, HB⟩
  case round =>
   clear HB hgs
   obtain ⟨m, e, rfl, rfl, hk, hme, hB⟩ := hrel
   have hme0 := hme.out
   by_cases hev : m % 2 = 0
   ·have p1 : ((m : Int) % 2 == 0) = true := beq_iff_eq.2 (by omega)
    obtain ⟨m2, hm2⟩ : ∃ m2 : Nat, m2 = m / 2 := ⟨_, rfl⟩
    have p2 : (m : Int) / 2 = (m2 : Int) := by omega
    have hmn : 0 < m2 ∧ m2 < 18446744073709551616 ∧ m2 + 2 ≤ gk := by omega
    obtain ⟨e2, he2⟩ : ∃ e2, wrap64 (e + 1) = e2 := ⟨_, rfl⟩
    have hen : -9223372036854775808 ≤ e2 ∧ e2 ≤ 9223372036854775807 := by rw [← he2]; unfold wrap64; omega
    have hmn := Qb.mk hmn
    have hen := Qb.mk hen
    clear hme0 hev hm2 hk
    go_wp2
    go_roundg (gk - 1)
    case measure => have := hmn.out; omega
    case rel => exact ⟨m2, e2, by rw [he2], rfl, by have := hmn.out; omega, ⟨by have := hmn.out; have := hen.out; omega⟩, hB⟩
   ·have p1 : ((m : Int) % 2 == 0) = false := beq_eq_false_iff_ne.2 (by omega)
    have hgr := GG.below hg.out hB.out
    have CU := ZW m (by omega) wr hgr
    have d1 := dec_size m (by omega)
    have d2 := ZZ e (by omega) (by omega)
    have he1 := hme0.2.2.1
    have he2 := hme0.2.2.2
    generalize (⟨(Lib.decDigits m).toArray⟩ : ByteArray) = t1 at CU d1
    have CI : ∀ w2, GG w2 → _ := fun w2 h2 => ZV e he1 he2 w2 h2
    generalize (⟨(Lib.itoa e).toArray⟩ : ByteArray) = t2 at CI d2
    have z1 : ¬ 9223372036854775807 < t1.size := by omega
    have z2 : ¬ 9223372036854775807 < 1 + t1.size := by omega
    have z3 : ¬ 9223372036854775807 < t1.size + 1 := by omega
    have z4 : ¬ 9223372036854775807 < 1 + t1.size + 1 := by omega
    have z5 : ¬ 9223372036854775807 < t1.size + 1 + t2.size := by omega
    have z6 : ¬ 9223372036854775807 < 1 + t1.size + 1 + t2.size := by omega
    have hgr := Qb.mk hgr
    have hd1 := Qb.mk d1
    have hd2 := Qb.mk d2
    clear hev hk hme0 he1 he2 d1 d2
    go_wp2_with (first | (go_at_call 102; go_loud (with_reducible refine CU.mono ?_); rintro e w2 ⟨rfl, hb2⟩; have CI2 := CI w2 (GG.below hgr.out hb2); have HB2 := Qb.mk (Qe hB.out hb2); clear CU hb2) | (go_at_call 26; go_loud (with_reducible refine CI2.mono ?_); rintro e w3 ⟨rfl, hb3⟩; have HB3 := Qb.mk (Qe HB2.out hb3); clear CI2 hb3))
    go_ret
    exact ⟨_, by have d1 := hd1.out; have d2 := hd2.out; simp only [ByteArray.size_append, sz0, sz1]; omega, rfl, HB3.out⟩
 ·have hm0 := n1.out (by first | rfl | trivial)
  have hrM := rM1.out
  have hgs := Qb.mk (GG.below hg.out HB.out)
  go_loopg [4, 5] (M1.toNat + 2) (fun gk v4 v5 w' => ∃ (m : Nat) (e : Int), v4 = .int .i64 e ∧ v5 = .int .u64 (m : Int) ∧ m + 1 ≤ gk ∧ Qb (0 < m ∧ m < 18446744073709551616 ∧ -9223372036854775808 ≤ e ∧ e ≤ 9223372036854775807) ∧ Qb (Below w.heap.size w w'))
  case atStart => exact ⟨M1.toNat, E1, by rw [hE1], by congr 1; omega, by omega, ⟨by omega, by omega, by rw [← hE1]; unfold wrap64; omega, by rw [← hE1]; unfold wrap64; omega⟩, HB⟩
  case round =>
   clear HB hgs
   obtain ⟨m, e, rfl, rfl, hk, hme, hB⟩ := hrel
   have hme0 := hme.out
   by_cases hev : m % 2 = 0
   ·have p1 : ((m : Int) % 2 == 0) = true := beq_iff_eq.2 (by omega)
    obtain ⟨m2, hm2⟩ : ∃ m2 : Nat, m2 = m / 2 := ⟨_, rfl⟩
    have p2 : (m : Int) / 2 = (m2 : Int) := by omega
    have hmn : 0 < m2 ∧ m2 < 18446744073709551616 ∧ m2 + 2 ≤ gk := by omega
    obtain ⟨e2, he2⟩ : ∃ e2, wrap64 (e + 1) = e2 := ⟨_, rfl⟩
    have hen : -9223372036854775808 ≤ e2 ∧ e2 ≤ 9223372036854775807 := by rw [← he2]; unfold wrap64; omega
    have hmn := Qb.mk hmn
    have hen := Qb.mk hen
    clear hme0 hev hm2 hk
    go_wp2
    go_roundg (gk - 1)
    case measure => have := hmn.out; omega
    case rel => exact ⟨m2, e2, by rw [he2], rfl, by have := hmn.out; omega, ⟨by have := hmn.out; have := hen.out; omega⟩, hB⟩
   ·have p1 : ((m : Int) % 2 == 0) = false := beq_eq_false_iff_ne.2 (by omega)
    have hgr := GG.below hg.out hB.out
    have CU := ZW m (by omega) wr hgr
    have d1 := dec_size m (by omega)
    have d2 := ZZ e (by omega) (by omega)
    have he1 := hme0.2.2.1
    have he2 := hme0.2.2.2
    generalize (⟨(Lib.decDigits m).toArray⟩ : ByteArray) = t1 at CU d1
    have CI : ∀ w2, GG w2 → _ := fun w2 h2 => ZV e he1 he2 w2 h2
    generalize (⟨(Lib.itoa e).toArray⟩ : ByteArray) = t2 at CI d2
    have z1 : ¬ 9223372036854775807 < t1.size := by omega
    have z2 : ¬ 9223372036854775807 < 1 + t1.size := by omega
    have z3 : ¬ 9223372036854775807 < t1.size + 1 := by omega
    have z4 : ¬ 9223372036854775807 < 1 + t1.size + 1 := by omega
    have z5 : ¬ 9223372036854775807 < t1.size + 1 + t2.size := by omega
    have z6 : ¬ 9223372036854775807 < 1 + t1.size + 1 + t2.size := by omega
    have hgr := Qb.mk hgr
    have hd1 := Qb.mk d1
    have hd2 := Qb.mk d2
    clear hev hk hme0 he1 he2 d1 d2
    go_wp2_with (first | (go_at_call 102; go_loud (with_reducible refine CU.mono ?_); rintro e w2 ⟨rfl, hb2⟩; have CI2 := CI w2 (GG.below hgr.out hb2); have HB2 := Qb.mk (Qe hB.out hb2); clear CU hb2) | (go_at_call 26; go_loud (with_reducible refine CI2.mono ?_); rintro e w3 ⟨rfl, hb3⟩; have HB3 := Qb.mk (Qe HB2.out hb3); clear CI2 hb3))
    go_ret
    exact ⟨_, by have d1 := hd1.out; have d2 := hd2.out; simp only [ByteArray.size_append, sz0, sz1]; omega, rfl, HB3.out⟩
 ·have hm0 := n0.out (by first | rfl | trivial)
  have hrM := rM0.out
  have hgs := Qb.mk (GG.below hg.out HB.out)
  go_loopg [4, 5] (M0.toNat + 2) (fun gk v4 v5 w' => ∃ (m : Nat) (e : Int), v4 = .int .i64 e ∧ v5 = .int .u64 (m : Int) ∧ m + 1 ≤ gk ∧ Qb (0 < m ∧ m < 18446744073709551616 ∧ -9223372036854775808 ≤ e ∧ e ≤ 9223372036854775807) ∧ Qb (Below w.heap.size w w'))
  case atStart => exact ⟨M0.toNat, (-1074), rfl, by congr 1; omega, by omega, ⟨by omega, by omega, by omega, by omega⟩, HB⟩
  case round =>
   clear HB hgs
   obtain ⟨m, e, rfl, rfl, hk, hme, hB⟩ := hrel
   have hme0 := hme.out
   by_cases hev : m % 2 = 0
   ·have p1 : ((m : Int) % 2 == 0) = true := beq_iff_eq.2 (by omega)
    obtain ⟨m2, hm2⟩ : ∃ m2 : Nat, m2 = m / 2 := ⟨_, rfl⟩
    have p2 : (m : Int) / 2 = (m2 : Int) := by omega
    have hmn : 0 < m2 ∧ m2 < 18446744073709551616 ∧ m2 + 2 ≤ gk := by omega
    obtain ⟨e2, he2⟩ : ∃ e2, wrap64 (e + 1) = e2 := ⟨_, rfl⟩
    have hen : -9223372036854775808 ≤ e2 ∧ e2 ≤ 9223372036854775807 := by rw [← he2]; unfold wrap64; omega
    have hmn := Qb.mk hmn
    have hen := Qb.mk hen
    clear hme0 hev hm2 hk
    go_wp2
    go_roundg (gk - 1)
    case measure => have := hmn.out; omega
    case rel => exact ⟨m2, e2, by rw [he2], rfl, by have := hmn.out; omega, ⟨by have := hmn.out; have := hen.out; omega⟩, hB⟩
   ·have p1 : ((m : Int) % 2 == 0) = false := beq_eq_false_iff_ne.2 (by omega)
    have hgr := GG.below hg.out hB.out
    have CU := ZW m (by omega) wr hgr
    have d1 := dec_size m (by omega)
    have d2 := ZZ e (by omega) (by omega)
    have he1 := hme0.2.2.1
    have he2 := hme0.2.2.2
    generalize (⟨(Lib.decDigits m).toArray⟩ : ByteArray) = t1 at CU d1
    have CI : ∀ w2, GG w2 → _ := fun w2 h2 => ZV e he1 he2 w2 h2
    generalize (⟨(Lib.itoa e).toArray⟩ : ByteArray) = t2 at CI d2
    have z1 : ¬ 9223372036854775807 < t1.size := by omega
    have z2 : ¬ 9223372036854775807 < 1 + t1.size := by omega
    have z3 : ¬ 9223372036854775807 < t1.size + 1 := by omega
    have z4 : ¬ 9223372036854775807 < 1 + t1.size + 1 := by omega
    have z5 : ¬ 9223372036854775807 < t1.size + 1 + t2.size := by omega
    have z6 : ¬ 9223372036854775807 < 1 + t1.size + 1 + t2.size := by omega
    have hgr := Qb.mk hgr
    have hd1 := Qb.mk d1
    have hd2 := Qb.mk d2
    clear hev hk hme0 he1 he2 d1 d2
    go_wp2_with (first | (go_at_call 102; go_loud (with_reducible refine CU.mono ?_); rintro e w2 ⟨rfl, hb2⟩; have CI2 := CI w2 (GG.below hgr.out hb2); have HB2 := Qb.mk (Qe hB.out hb2); clear CU hb2) | (go_at_call 26; go_loud (with_reducible refine CI2.mono ?_); rintro e w3 ⟨rfl, hb3⟩; have HB3 := Qb.mk (Qe HB2.out hb3); clear CI2 hb3))
    go_ret
    exact ⟨_, by have d1 := hd1.out; have d2 := hd2.out; simp only [ByteArray.size_append, sz0, sz1]; omega, rfl, HB3.out⟩
 ·have hm0 := n0.out (by first | rfl | trivial)
  have hrM := rM0.out
  have hgs := Qb.mk (GG.below hg.out HB.out)
  go_loopg [4, 5] (M0.toNat + 2) (fun gk v4 v5 w' => ∃ (m : Nat) (e : Int), v4 = .int .i64 e ∧ v5 = .int .u64 (m : Int) ∧ m + 1 ≤ gk ∧ Qb (0 < m ∧ m < 18446744073709551616 ∧ -9223372036854775808 ≤ e ∧ e ≤ 9223372036854775807) ∧ Qb (Below w.heap.size w w'))
  case atStart => exact ⟨M0.toNat, (-1074), rfl, by congr 1; omega, by omega, ⟨by omega, by omega, by omega, by omega⟩, HB⟩
  case round =>
   clear HB hgs
   obtain ⟨m, e, rfl, rfl, hk, hme, hB⟩ := hrel
   have hme0 := hme.out
   by_cases hev : m % 2 = 0
   ·have p1 : ((m : Int) % 2 == 0) = true := beq_iff_eq.2 (by omega)
    obtain ⟨m2, hm2⟩ : ∃ m2 : Nat, m2 = m / 2 := ⟨_, rfl⟩
    have p2 : (m : Int) / 2 = (m2 : Int) := by omega
    have hmn : 0 < m2 ∧ m2 < 18446744073709551616 ∧ m2 + 2 ≤ gk := by omega
    obtain ⟨e2, he2⟩ : ∃ e2, wrap64 (e + 1) = e2 := ⟨_, rfl⟩
    have hen : -9223372036854775808 ≤ e2 ∧ e2 ≤ 9223372036854775807 := by rw [← he2]; unfold wrap64; omega
    have hmn := Qb.mk hmn
    have hen := Qb.mk hen
    clear hme0 hev hm2 hk
    go_wp2
    go_roundg (gk - 1)
    case measure => have := hmn.out; omega
    case rel => exact ⟨m2, e2, by rw [he2], rfl, by have := hmn.out; omega, ⟨by have := hmn.out; have := hen.out; omega⟩, hB⟩
   ·have p1 : ((m : Int) % 2 == 0) = false := beq_eq_false_iff_ne.2 (by omega)
    have hgr := GG.below hg.out hB.out
    have CU := ZW m (by omega) wr hgr
    have d1 := dec_size m (by omega)
    have d2 := ZZ e (by omega) (by omega)
    have he1 := hme0.2.2.1
    have he2 := hme0.2.2.2
    generalize (⟨(Lib.decDigits m).toArray⟩ : ByteArray) = t1 at CU d1
    have CI : ∀ w2, GG w2 → _ := fun w2 h2 => ZV e he1 he2 w2 h2
    generalize (⟨(Lib.itoa e).toArray⟩ : ByteArray) = t2 at CI d2
    have z1 : ¬ 9223372036854775807 < t1.size := by omega
    have z2 : ¬ 9223372036854775807 < 1 + t1.size := by omega
    have z3 : ¬ 9223372036854775807 < t1.size + 1 := by omega
    have z4 : ¬ 9223372036854775807 < 1 + t1.size + 1 := by omega
    have z5 : ¬ 9223372036854775807 < t1.size + 1 + t2.size := by omega
    have z6 : ¬ 9223372036854775807 < 1 + t1.size + 1 + t2.size := by omega
    have hgr := Qb.mk hgr
    have hd1 := Qb.mk d1
    have hd2 := Qb.mk d2
    clear hev hk hme0 he1 he2 d1 d2
    go_wp2_with (first | (go_at_call 102; go_loud (with_reducible refine CU.mono ?_); rintro e w2 ⟨rfl, hb2⟩; have CI2 := CI w2 (GG.below hgr.out hb2); have HB2 := Qb.mk (Qe hB.out hb2); clear CU hb2) | (go_at_call 26; go_loud (with_reducible refine CI2.mono ?_); rintro e w3 ⟨rfl, hb3⟩; have HB3 := Qb.mk (Qe HB2.out hb3); clear CI2 hb3))
    go_ret
    exact ⟨_, by have d1 := hd1.out; have d2 := hd2.out; simp only [ByteArray.size_append, sz0, sz1]; omega, rfl, HB3.out⟩
end Go.Proofs.YtlgpoigbadajnaaDoor.DepA
namespace Go.Proofs.YtlgpoigbadajnaaDoor.DepA
open Go.RowKit Go.Proofs.YtlgpoigbadajnaaDoorW.PrintWords Go.Proofs.YtlgpoigbadajnaaDoorW.PrintLast Go.Proofs.YtlgpoigbadajnaaDoorW.PrintMore Go.Proofs.YtlgpoigbadajnaaDoor.PDepA
set_option linter.unusedVariables false
set_option linter.unusedSimpArgs false
mutual
/-- A node's size: its text is no longer. -/
def tsz : NdT → Nat
 | ⟨s, l, _⟩ => s.size + 3 + Zf l
def Zf : List NdT → Nat
 | [] => 0
 | t :: l => tsz t + Zf l
end
theorem Vj : ∀ a b : List NdT, Zf (a ++ b) = Zf a + Zf b
 | [], b => by simp [Zf]
 | x :: a, b => by simp only [List.cons_append, Zf, Vj a b]; omega
theorem tszL_one (s : ByteArray) (l : List NdT) (k : Int) : Zf [⟨s, l, k⟩] = s.size + 3 + Zf l := by simp [Zf, tsz]
theorem tszL_two (s s' : ByteArray) (l l' : List NdT) (k k' : Int) : Zf [⟨s, l, k⟩, ⟨s', l', k'⟩] = s.size + 3 + Zf l + (s'.size + 3 + Zf l') := by simp [Zf, tsz]
theorem tszL_three (s s' s'' : ByteArray) (l l' l'' : List NdT) (k k' k'' : Int) : Zf [⟨s, l, k⟩, ⟨s', l', k'⟩, ⟨s'', l'', k''⟩] = s.size + 3 + Zf l + (s'.size + 3 + Zf l') + (s''.size + 3 + Zf l'') := by simp [Zf, tsz, Nat.add_assoc]
def nmz : List ByteArray → Nat
 | [] => 0
 | s :: l => s.size + 3 + nmz l
theorem tszL_wN : ∀ l : List ByteArray, Zf (l.map wN) = nmz l
 | [] => by simp [Zf, nmz]
 | s :: l => by simp [Zf, tsz, nmz, wN, tszL_wN l]
namespace Z
def NL (W : World) (b : Nat) (A : Option Addr) (n z : Nat) : Prop := ∃ xs : List NdT, DepA.NL W b A n xs ∧ Zf xs = z
def NX (W : World) (b : Nat) (x : Option Nat) (A : Option Addr) (n z : Nat) : Prop := ∃ xs : List NdT, DepA.NX W b x A n xs ∧ Zf xs = z
def NR (W : World) (b : Nat) (x : Option Nat) (A : Option Addr) (n c z : Nat) : Prop := ∃ xs : List NdT, DepA.NR W b x A n c xs ∧ Zf xs = z
section
variable {W W1 : World} {b b' n n1 n2 n3 c c1 c2 c3 z z1 z2 z3 : Nat} {A A1 A2 A3 : Option Addr} {x : Option Nat} {s1 s2 s3 : ByteArray}
theorem NL.nil (W : World) (b : Nat) : NL W b none 0 0 := ⟨[], DepA.NL.nil W b, rfl⟩
theorem NL.below (h : NL W b A n z) (hb : Below W.heap.size W W1) : NL W1 b A n z := h.elim fun xs h => ⟨xs, h.1.below hb, h.2⟩
theorem NL.mono (h : NL W b A n z) (hb : b' ≤ b) : NL W b' A n z := h.elim fun xs h => ⟨xs, h.1.mono hb, h.2⟩
theorem NL.far (h : NL W b A n z) {p : Addr} (hp : p.block < b) (v : Value) : NL (W.setCell p v) b A n z := h.elim fun xs h => ⟨xs, h.1.far hp v, h.2⟩
theorem NL.one {blk : Nat} (hb : W.heap[blk]? = some (.cells #[.string s1, .slice A1 n1 c1, .int .i64 0] 109 (0, 0))) (hk : b ≤ blk) (h1 : NL W b A1 n1 z1) (hc1 : n1 ≤ c1) : NL W b (some ⟨blk, 0, none⟩) 1 (s1.size + 3 + z1) := by
 obtain ⟨x1, h1, rfl⟩ := h1
 exact ⟨_, DepA.NL.one hb hk h1 hc1, tszL_one _ _ _⟩
theorem NL.two {blk : Nat} (hb : W.heap[blk]? = some (.cells #[.string s1, .slice A1 n1 c1, .int .i64 0, .string s2, .slice A2 n2 c2, .int .i64 0] 109 (0, 0))) (hk : b ≤ blk) (h1 : NL W b A1 n1 z1) (hc1 : n1 ≤ c1) (h2 : NL W b A2 n2 z2) (hc2 : n2 ≤ c2) : NL W b (some ⟨blk, 0, none⟩) 2 (s1.size + 3 + z1 + (s2.size + 3 + z2)) := by
 obtain ⟨x1, h1, rfl⟩ := h1
 obtain ⟨x2, h2, rfl⟩ := h2
 exact ⟨_, DepA.NL.two hb hk h1 hc1 h2 hc2, tszL_two _ _ _ _ _ _⟩
theorem NL.three {blk : Nat} (hb : W.heap[blk]? = some (.cells #[.string s1, .slice A1 n1 c1, .int .i64 0, .string s2, .slice A2 n2 c2, .int .i64 0, .string s3, .slice A3 n3 c3, .int .i64 0] 109 (0, 0))) (hk : b ≤ blk) (h1 : NL W b A1 n1 z1) (hc1 : n1 ≤ c1) (h2 : NL W b A2 n2 z2) (hc2 : n2 ≤ c2) (h3 : NL W b A3 n3 z3) (hc3 : n3 ≤ c3) : NL W b (some ⟨blk, 0, none⟩) 3 (s1.size + 3 + z1 + (s2.size + 3 + z2) + (s3.size + 3 + z3)) := by
 obtain ⟨x1, h1, rfl⟩ := h1
 obtain ⟨x2, h2, rfl⟩ := h2
 obtain ⟨x3, h3, rfl⟩ := h3
 exact ⟨_, DepA.NL.three hb hk h1 hc1 h2 hc2 h3 hc3, tszL_three _ _ _ _ _ _ _ _ _⟩
theorem NX.below (h : NX W b x A n z) (hb : Below W.heap.size W W1) : NX W1 b x A n z := h.elim fun xs h => ⟨xs, h.1.below hb, h.2⟩
theorem NX.far (h : NX W b x A n z) {p : Addr} (hp : p.block < b ∨ some p.block = x) (v : Value) : NX (W.setCell p v) b x A n z := h.elim fun xs h => ⟨xs, h.1.far hp v, h.2⟩
theorem NX.list (h : NX W b x A n z) : NL W b A n z := h.elim fun xs h => ⟨xs, h.1.list, h.2⟩
theorem NR.nil (W : World) (b : Nat) (x : Option Nat) : NR W b x none 0 0 0 := ⟨[], DepA.NR.nil W b x, rfl⟩
theorem NR.below (h : NR W b x A n c z) (hb : Below W.heap.size W W1) : NR W1 b x A n c z := h.elim fun xs h => ⟨xs, h.1.below hb, h.2⟩
theorem NR.far (h : NR W b x A n c z) {p : Addr} (hp : p.block < b ∨ some p.block = x) (v : Value) : NR (W.setCell p v) b x A n c z := h.elim fun xs h => ⟨xs, h.1.far hp v, h.2⟩
theorem NR.lt (h : NR W b x A n c z) : ∀ k, (Value.slice A n c).ownBlock = some k → k < W.heap.size := h.elim fun xs h => h.1.lt
theorem NR.ne {y : Nat} (h : NR W b (some y) A n c z) : some y ≠ (Value.slice A n c).ownBlock := h.elim fun xs h => h.1.ne
theorem NR.keep {y : Nat} (h : NR W b (some y) A n c z) (hg : W.grownBy W1 (Value.slice A n c).ownBlock) (hx : y < W.heap.size) : W1.heap[y]? = W.heap[y]? := hg.block y hx (NR.ne h)
theorem NR.list (h : NR W b x A n c z) : NX W b x A n z ∧ n ≤ c := h.elim fun xs h => ⟨⟨xs, h.1.list.1, h.2⟩, h.1.list.2⟩
theorem NR.lit1 {q : Nat} (h1 : NL W q A1 n1 z1) (hc1 : n1 ≤ c1) (hbq : b ≤ q) (hxq : ∀ y, x = some y → y < q ∨ W.heap.size < y) (hb : b ≤ W.heap.size) (hx : some W.heap.size ≠ x) :
  NR (W.alloc (.cells #[.string s1, .slice A1 n1 c1, .int .i64 0] 109)) b x (some ⟨W.heap.size, 0, none⟩) 1 1 (s1.size + 3 + z1) := by
 obtain ⟨x1, h1, rfl⟩ := h1
 exact ⟨_, DepA.NR.lit1 h1 hc1 hbq hxq hb hx, tszL_one _ _ _⟩
theorem NX.newx (h : NX W b none A n z) (o : Obj) : NX (W.alloc o) b (some W.heap.size) A n z := by
 obtain ⟨xs, ⟨hn, h⟩, hz⟩ := h
 exact ⟨xs, ⟨hn, Kd.F_alloc (Kd.F_mono (Kd.F_bound h) (fun k hk => ⟨hk.1.1, fun e => by have := Option.some.inj e; have := hk.2; omega⟩)) o⟩, hz⟩
theorem NR.newx (h : NR W b none A n c z) (o : Obj) : NR (W.alloc o) b (some W.heap.size) A n c z := by
 obtain ⟨xs, ⟨hn, h⟩, hz⟩ := h
 exact ⟨xs, ⟨hn, Kd.N_alloc (Kd.N_mono (Kd.N_bound h) (fun k hk => ⟨hk.1.1, fun e => by have := Option.some.inj e; have := hk.2; omega⟩)) o⟩, hz⟩
theorem NL.nx {q : Nat} (h : NL W q A n z) (hbq : b ≤ q) (hx : ∀ y, x = some y → y < q) : NX W b x A n z := by
 obtain ⟨xs, ⟨hn, h⟩, hz⟩ := h
 exact ⟨xs, ⟨hn, Kd.F_mono h (fun k hk => ⟨Nat.le_trans hbq hk, fun e => by have := hx k e.symm; omega⟩)⟩, hz⟩
theorem NR.litX (h2 : NX W b x A2 n2 z2) (hc2 : n2 ≤ c2) (hb : b ≤ W.heap.size) (hx : some W.heap.size ≠ x) :
  NR (W.alloc (.cells #[.string s1, .slice none 0 0, .int .i64 0, .string s2, .slice A2 n2 c2, .int .i64 0] 109)) b x (some ⟨W.heap.size, 0, none⟩) 2 2 (s1.size + 3 + 0 + (s2.size + 3 + z2)) := by
 obtain ⟨zs, ⟨hn, hz⟩, rfl⟩ := h2
 exact ⟨_, DepA.NR.lit (xs := [⟨s1, [], 0⟩, ⟨s2, zs, 0⟩]) (inner := [.string s1, .slice none 0 0, .int .i64 0, .string s2, .slice A2 n2 c2, .int .i64 0]) (okp := fun k => b ≤ k ∧ some k ≠ x) (QB.c3 (nodeK (Kd.F_nil _ _ _) (Nat.le_refl _) s1) (QB.c3 (nodeK hz hc2 s2) (QB.none _ _))) (fun k hk => hk) ⟨hb, hx⟩ (by simp), tszL_two _ _ _ _ _ _⟩
variable {P : Program} {ops : Array Oper} {rest : List Oper} {o : Oper} {a : Act} {Q : Exit → Act → World → Prop} {Kc : Act → World → Prop}
theorem ZX {w0 : World} (b : Nat) (hw : Region.wanted o (yielded ops a.tmps) = true) (s x : Operand) (ho : o.op = .call { callee := .builtin .append, args := #[s, x], argTypes := #[107, 107] }) {x0 : Option Nat} {q : Nat}
  (hs : a.eval s = .slice A n c) (hx : a.eval x = .slice (some ⟨W.heap.size, 0, none⟩) 1 1) (HO : NR W b x0 A n c z) (h1 : NL W q A1 n1 z1) (hc1 : n1 ≤ c1) (hq : ∀ k, (Value.slice A n c).ownBlock = some k → k < q) (hbq : b ≤ q) (hxq : ∀ y, x0 = some y → y < q ∧ y < W.heap.size) (HB : Below b w0 W) (hbase : b ≤ W.heap.size) (hl : n ≤ 2000000000000)
  (h : ∀ A3 c3 w3, NR w3 b x0 A3 (n + 1) c3 (z + (s1.size + 3 + z1)) → Below b w0 w3 → W.grownBy w3 (Value.slice A n c).ownBlock → Kc (a.put o.dst (.slice A3 (n + 1) c3)) w3) :
  if Region.wanted o (yielded ops a.tmps) = true then Oper.wp Tryd.prog o a (W.alloc (.cells #[.string s1, .slice A1 n1 c1, .int .i64 0] 109)) Kc Q else Kc (a.put o.dst undef) (W.alloc (.cells #[.string s1, .slice A1 n1 c1, .int .i64 0] 109)) := by
 obtain ⟨xs, HO, rfl⟩ := HO
 obtain ⟨x1, h1, rfl⟩ := h1
 refine DepA.ZX (w0 := w0) b hw s x ho hs hx HO h1 hc1 hq hbq hxq HB hbase hl ?_
 intro A3 c3 w3 h3 hb hg
 exact h A3 c3 w3 ⟨_, h3, by rw [Vj, tszL_one]⟩ hb hg
theorem apps_step {w0 : World} (b : Nat) (hw : Region.wanted o (yielded ops a.tmps) = true) (s x : Operand) (ho : o.op = .call { callee := .builtin .append, args := #[s, x], argTypes := #[107, 107] }) {x0 : Option Nat} {q : Nat}
  (hs : a.eval s = .slice A n c) (hx : a.eval x = .slice A1 n1 c1) (HO : NR W b x0 A n c z) (h1 : NL W q A1 n1 z1) (hq : ∀ k, (Value.slice A n c).ownBlock = some k → k < q) (hbq : b ≤ q) (hxq : ∀ y, x0 = some y → y < q ∧ y < W.heap.size) (HB : Below b w0 W) (hbase : b ≤ W.heap.size) (hl : n + n1 ≤ 2000000000000)
  (h : ∀ A3 c3 w3, NR w3 b x0 A3 (n + n1) c3 (z + z1) → Below b w0 w3 → W.grownBy w3 (Value.slice A n c).ownBlock → Kc (a.put o.dst (.slice A3 (n + n1) c3)) w3) :
  if Region.wanted o (yielded ops a.tmps) = true then Oper.wp Tryd.prog o a W Kc Q else Kc (a.put o.dst undef) W := by
 obtain ⟨xs, HO, rfl⟩ := HO
 obtain ⟨x1, h1, rfl⟩ := h1
 refine DepA.apps_step (w0 := w0) b hw s x ho hs hx HO h1 hq hbq hxq HB hbase hl ?_
 intro A3 c3 w3 h3 hb hg
 exact h A3 c3 w3 ⟨_, h3, by rw [Vj]⟩ hb hg
theorem ws_calls (l : List ByteArray) (w : World) (hl : l.length ≤ 1000000000000) {A : Option Addr} {c : Nat} (hC : Kd.C Kd.string w A l.length l) :
  Calls Tryd.prog 83 #[.slice A l.length c] w fun e w' => ∃ A1 c1, e = .returned (.slice A1 l.length c1) ∧ l.length ≤ c1 ∧ NL w' w.heap.size A1 l.length (nmz l) ∧ Below w.heap.size w w' :=
 (DepA.ws_calls l w hl hC).mono fun e w' ⟨A1, c1, h1, h2, h3, h4⟩ => ⟨A1, c1, h1, h2, ⟨_, h3, tszL_wN l⟩, h4⟩
end
end Z
end Go.Proofs.YtlgpoigbadajnaaDoor.DepA
namespace Go.Proofs.YtlgpoigbadajnaaDoor.DepA.Z
open Go.RowKit Go.Proofs.YtlgpoigbadajnaaDoorW.PrintWords Go.Proofs.YtlgpoigbadajnaaDoorW.PrintLast Go.Proofs.YtlgpoigbadajnaaDoorW.PrintMore Go.Proofs.YtlgpoigbadajnaaDoor.PDepA
set_option linter.unusedVariables false
set_option linter.unusedSimpArgs false
set_option maxHeartbeats 8000000 in
set_option maxRecDepth 100000 in
theorem altNode_calls (a : S88) (h0 : -9223372036854775808 ≤ a.f2) (h1 : a.f2 ≤ 9223372036854775807) (hl : a.f3.length ≤ 100000000000) (w : World) (hg : GG w) {A3 A7 A8 A9 : Option Addr} {c3 n7 c7 n8 c8 n9 c9 : Nat} (hC3 : Kd.C Kd.string w A3 a.f3.length a.f3) (x0 x2 : Int) (x1 : ByteArray) :
  Calls Tryd.prog 97 #[.agg #[.int .i64 a.f0, .string a.f1, .int .i64 a.f2, .slice A3 a.f3.length c3, .int .i64 x0, .string x1, .int .i64 x2, .slice A7 n7 c7, .slice A8 n8 c8, .slice A9 n9 c9]] w fun r w' => ∃ s A n c z, r = .returned (.agg #[.string s, .slice A n c, .int .i64 0]) ∧ s.size + 3 + z ≤ a.f1.size + nmz a.f3 + 60 ∧ n ≤ c ∧ NL w' w.heap.size A n z ∧ Below w.heap.size w w' := by
 have E : ∀ W : World, ∀ o : Obj, (W.alloc o).heap.size = W.heap.size + 1 := fun W o => Array.size_push _
 obtain ⟨f0, f1, f2, f3, f4⟩ := a
 dsimp only at *
 obtain ⟨W0, hW0⟩ : ∃ W0, (w.alloc (.cells #[.int .i64 f0, .string f1, .int .i64 f2, .slice A3 f3.length c3, .int .i64 x0, .string x1, .int .i64 x2, .slice A7 n7 c7, .slice A8 n8 c8, .slice A9 n9 c9] 88)).alloc (.cells #[.string ⟨#[]⟩, .slice none 0 0, .int .i64 0] 109) = W0 := ⟨_, rfl⟩
 have HB0 : Qb (Below w.heap.size w W0) := ⟨by rw [← hW0]; exact Qd (Qd (Below.refl _ _) _) _⟩
 have hbx : Qb (W0.heap[w.heap.size]? = some (.cells #[.int .i64 f0, .string f1, .int .i64 f2, .slice A3 f3.length c3, .int .i64 x0, .string x1, .int .i64 x2, .slice A7 n7 c7, .slice A8 n8 c8, .slice A9 n9 c9] 88 (0, 0))) := ⟨by rw [← hW0]; exact (Below.heap_alloc _ _ _ (by rw [E]; omega)).trans (Qv w _)⟩
 have hrx : Qb (W0.heap[w.heap.size + 1]? = some (.cells #[.string ⟨#[]⟩, .slice none 0 0, .int .i64 0] 109 (0, 0))) := ⟨by rw [← hW0, ← E w]; exact Qv _ _⟩
 have hl1 : Qb (W0.heap.size = w.heap.size + 2) := ⟨by rw [← hW0, E, E]⟩
 have hg0 := Qb.mk (GG.below hg HB0.out)
 have hC := Qb.mk (Kd.Qj hC3 HB0.out)
 obtain ⟨b1, q1⟩ : ∃ b, (f0 == 3) = b := ⟨_, rfl⟩
 obtain ⟨b2, q2⟩ : ∃ b, (f0 == 2) = b := ⟨_, rfl⟩
 obtain ⟨b3, q3⟩ : ∃ b, ((f3.length : Int) == 0) = b := ⟨_, rfl⟩
 have k0 := (Qa hbx.out 0).trans rfl
 have k1 := (Qa hbx.out 1).trans rfl
 have k2 := (Qa hbx.out 2).trans rfl
 have k3 := (Qa hbx.out 3).trans rfl
 cases b1
 ·cases b2
  ·cases b3
   ·skip
    go_enter Tryd.func97, Tryd.ntmps97
    go_wp2_with (first | (go_at_call 82; (try rw [hW0]); go_loud (with_reducible refine (QV f1 W0).mono ?_); rintro r w2 ⟨rfl, hb2⟩; have HB2 := Qb.mk hb2; clear hb2) | (go_at_call 81; go_loud (with_reducible refine (Z7 _ _ _ _).mono ?_); rintro r w3 ⟨rfl, hb3⟩; have HB3 := Qb.mk hb3; clear hb3))
    obtain ⟨xb, hxb⟩ : ∃ xb, w3.heap.size = xb := ⟨_, rfl⟩
    obtain ⟨rb, hrb⟩ : ∃ rb, w2.heap.size = rb := ⟨_, rfl⟩
    have hrl : rb < xb ∧ W0.heap.size ≤ rb := by have h1 := HB3.out.size; rw [E] at h1; have h2 := HB2.out.size; omega
    obtain ⟨Wx, hWx⟩ : ∃ Wx, w3.alloc (.cells #[.string ⟨#[]⟩, .slice (some ⟨rb, 0, none⟩) 1 1, .int .i64 0] 109) = Wx := ⟨_, rfl⟩
    have hB3' : Below W0.heap.size W0 w3 := Qe (Qd HB2.out _) HB3.out
    have hBx : Qb (Below W0.heap.size W0 Wx) := ⟨by rw [← hWx]; exact Qd hB3' _⟩
    have hrow : Qb (NR Wx W0.heap.size (some xb) (some ⟨rb, 0, none⟩) 1 1 (f1.size + 3 + 0)) := ⟨by have h1 : NR (w2.alloc (.cells #[.string f1, .slice none 0 0, .int .i64 0] 109)) W0.heap.size (some xb) (some ⟨w2.heap.size, 0, none⟩) 1 1 (f1.size + 3 + 0) := NR.lit1 (q := W0.heap.size) (NL.nil _ _) (Nat.le_refl _) (Nat.le_refl _) (fun y hy => .inr (by obtain rfl := Option.some.inj hy; omega)) HB2.out.size (fun e => by have := Option.some.inj e; omega); rw [hrb] at h1; rw [← hWx]; exact NR.below (NR.below h1 HB3.out) (Qd (Below.refl _ _) _)⟩
    have hXb : Qb (Wx.heap[xb]? = some (.cells #[.string ⟨#[]⟩, .slice (some ⟨rb, 0, none⟩) 1 1, .int .i64 0] 109 (0, 0))) := ⟨by rw [← hWx, ← hxb]; exact Qv _ _⟩
    have hXs : Qb (Wx.heap.size = xb + 1 ∧ W0.heap.size ≤ rb ∧ rb < xb) := ⟨by rw [← hWx, E]; omega⟩
    have hbX := Qb.mk (Qc hbx.out hBx.out)
    have hrX := Qb.mk (Qc hrx.out hBx.out)
    have hCX := Qb.mk (Kd.Qj hC.out hBx.out)
    rw [hrb, hxb, hWx]
    clear hWx hxb hrb hB3' hrl k0 k1 k2 k3 HB2 HB3 hW0
    have HB_ : Below Wx.heap.size Wx Wx.drew := Qi (Below.refl _ _)
    refine QZ (n := 8) (S := fun w' => w'.cell? ⟨xb, 1, none⟩ = some (.slice (some ⟨rb, 0, none⟩) 1 1) ∧ w'.cell? ⟨w.heap.size, 3, none⟩ = some (.slice A3 f3.length c3)) (ds := [5, 7]) (bm 8 0) (by kernel_rfl) rfl rfl ⟨(Qa (Qc hXb.out HB_) 1).trans rfl, (Qa (Qc hbX.out HB_) 3).trans rfl⟩ (fun hHeld => ?_)
    generalize Wx.drew = W9 at *
    refine Q4 (i := 0) (N := some 30) (v := ?_) (a' := ?_) (bm 8 1) rfl rfl (by kernel_rfl) (fun _ _ _ h => h) (Or.inl ⟨by rfl, ?_⟩) ?_ ?_
    rotate_left
    ·intro w'
     go_simp
     with_reducible rfl
    rotate_left
    ·simp only [Act.put, sA, sB, sC, Qk, Ql]
     rfl
    refine Q4 (i := 2) (N := some 32) (v := ?_) (a' := ?_) (bm 8 5) rfl rfl (by kernel_rfl) (fun _ _ _ h => h) (Or.inl ⟨by rfl, ?_⟩) ?_ ?_
    rotate_left
    ·intro w'
     go_simp
     with_reducible rfl
    rotate_left
    ·simp only [Act.put, sA, sB, sC, Qk, Ql]
     rfl
    refine QE (i := 1) (N := some 31) (v := ?_) (a' := ?_) (bm 8 7) rfl rfl (by kernel_rfl) (fun _ _ _ h => h) (Or.inl ⟨by rfl, ?_⟩) hHeld ?_ ?_
    rotate_left
    ·rintro w' ⟨s0, s1⟩
     go_simp
     with_reducible rfl
    rotate_left
    ·simp only [Act.put, sA, sB, sC, Qk, Ql]
     rfl
    refine QE (i := 3) (N := some 33) (v := ?_) (a' := ?_) (bm 8 15) rfl rfl (by kernel_rfl) (fun _ _ _ h => h) (Or.inl ⟨by rfl, ?_⟩) hHeld ?_ ?_
    rotate_left
    ·rintro w' ⟨s0, s1⟩
     go_simp
     with_reducible rfl
    rotate_left
    ·simp only [Act.put, sA, sB, sC, Qk, Ql]
     rfl
    refine QQ (i := 4) (N := some 34) (bm 8 31) rfl rfl (by kernel_rfl) (by decide) (fun K hK => ?_)
    refine QI Tryd.func83 (by kernel_rfl) rfl #[.slice A3 f3.length c3] (by rfl) rfl rfl (by simp only [List.map_toArray, List.map_cons, List.map_nil]; rfl) ?_
    (with_reducible refine (ws_calls f3 W9 (by omega) (Kd.Qj hCX.out HB_)).mono ?_)
    rintro e w5 ⟨A1, c1, rfl, hc1, hn1, hb5⟩
    refine ⟨_, rfl, ?_⟩
    have HB5 := Qe HB_ hb5
    refine hK.out _ _ ⟨(Qa (Qc hXb.out HB5) 1).trans rfl, (Qa (Qc hbX.out HB5) 3).trans rfl⟩ (fun hHeld => ?_)
    clear hK K
    refine Qq (a' := ?_) ?_ ?_
    rotate_left
    ·show Act.put _ (some 34) _ = _
     simp only [Act.put, sA, sB, sC, Qk, Ql]
     rfl
    refine Zw (i := 5) (N := some 35) (bm 8 63) rfl rfl (by kernel_rfl) (by decide) (fun K hK => ?_)
    refine apps_step (w0 := w5) W0.heap.size (by rfl) (.tmp 31) (.tmp 34) rfl (A := some ⟨rb, 0, none⟩) (x0 := some xb) (n := 1) (c := 1) (z := f1.size + 3 + 0) (z1 := nmz f3) (A1 := A1) (n1 := f3.length) (c1 := c1) (q := W9.heap.size) rfl rfl (NR.below hrow.out HB5) hn1 ?_ ?_ ?_ (Below.refl _ _) ?_ (by omega) ?_
    ·intro k hk; have := NR.lt hrow.out k hk; have := HB_.size; omega
    ·have := hXs.out; have := HB_.size; omega
    ·intro y hy; obtain rfl := Option.some.inj hy; have := hXs.out; have := HB_.size; have := HB5.size; omega
    ·have := hXs.out; have := HB5.size; omega
    intro A6 c6 w6 hr6 hb6 hg6
    have hx5 := Qc hXb.out HB5
    have hx6 := (NR.keep (NR.below hrow.out HB5) hg6 (Array.getElem?_eq_some_iff.1 hx5).1).trans hx5
    have hcz := (Qa hx6 1).trans rfl
    have hfz := Qg hx6 1
    refine hK.out _ _ ?_
    clear hK K
    refine Qq (a' := ?_) ?_ ?_
    rotate_left
    ·show Act.put _ (some 35) _ = _
     simp only [Act.put, sA, sB, sC, Qk, Ql]
     rfl
    refine Q4 (i := 6) (N := some 36) (v := ?_) (a' := ?_) (bm 8 127) rfl rfl (by kernel_rfl) (fun _ _ _ h => h) (Or.inl ⟨by rfl, ?_⟩) ?_ ?_
    rotate_left
    ·intro w'
     go_simp
     with_reducible rfl
    rotate_left
    ·simp only [Act.put, sA, sB, sC, Qk, Ql]
     rfl
    refine Zw (i := 7) (N := none) (bm 8 255) rfl rfl (by kernel_rfl) (by decide) (fun K hK => ?_)
    refine Vk (w1 := ?_) (by rfl) rfl ?_ ?_
    rotate_left
    ·go_simp
     rfl
    refine hK.out _ _ ?_
    clear hK K
    refine Zx (by kernel_rfl) ?_
    obtain ⟨W7, hW7⟩ : ∃ W7, w6.setCell ⟨xb, 1, none⟩ (.slice A6 (1 + f3.length) c6) = W7 := ⟨_, rfl⟩
    have hX7 : W7.heap[xb]? = some (.cells #[.string ⟨#[]⟩, .slice A6 (1 + f3.length) c6, .int .i64 0] 109 (0, 0)) := by rw [← hW7]; exact QP hx6 1 _ rfl
    have hl5 : w.heap.size + 1 < W0.heap.size := by have := hl1.out; omega
    have hR7 : W7.heap[w.heap.size + 1]? = some (.cells #[.string ⟨#[]⟩, .slice none 0 0, .int .i64 0] 109 (0, 0)) := by
     rw [← hW7]
     exact (Below.heap_setCell w6 _ _ _ (by have := hXs.out; show w.heap.size + 1 ≠ xb; omega)).trans ((hb6.block _ hl5).trans (Qc hrX.out HB5))
    have hr7 : Qb (NR W7 W0.heap.size (some xb) A6 (1 + f3.length) c6 (f1.size + 3 + 0 + nmz f3)) := ⟨by rw [← hW7]; exact NR.far hr6 (.inr rfl) _⟩
    have hB7 : Qb (Below W0.heap.size W0 W7) := ⟨by rw [← hW7]; exact ((hBx.out.trans (HB5.mono hBx.out.size)).trans hb6).setCell (p := ⟨xb, 1, none⟩) (by have := hXs.out; show W0.heap.size ≤ xb; omega) _⟩
    rw [hW7]
    clear hW7 hcz hfz hx6 hx5 hg6 hb6 hr6 hHeld hb5 HB5 hn1 HB_
    have x0 := (Qa hX7 0).trans rfl
    have x1 := (Qa hX7 1).trans rfl
    have x2 := (Qa hX7 2).trans rfl
    have r0 := (Qa hR7 0).trans rfl
    have r1 := (Qa hR7 1).trans rfl
    have r2 := (Qa hR7 2).trans rfl
    have z0 := Qg hR7 0
    have z1 := Qg hR7 1
    have z2 := Qg hR7 2
    go_wp2
    refine bodyPost_ret (v := .agg #[.string ⟨#[]⟩, .slice A6 (1 + f3.length) c6, .int .i64 0]) (by simp [results, Tryd.results97, go_sem, *]) rfl ⟨_, A6, _, c6, f1.size + 3 + 0 + nmz f3, rfl, by rw [sz0]; omega, hr7.out.list.2, ?_, ?_⟩
    ·exact (((hr7.out.list.1.far (p := ⟨w.heap.size + 1, 0, none⟩) (.inl hl5) _).far (p := ⟨w.heap.size + 1, 1, none⟩) (.inl hl5) _).far (p := ⟨w.heap.size + 1, 2, none⟩) (.inl hl5) _).list.mono (by omega)
    ·exact (((HB0.out.trans (hB7.out.mono HB0.out.size)).setCell (p := ⟨w.heap.size + 1, 0, none⟩) (Nat.le_succ _) _).setCell (p := ⟨w.heap.size + 1, 1, none⟩) (Nat.le_succ _) _).setCell (p := ⟨w.heap.size + 1, 2, none⟩) (Nat.le_succ _) _
   ·go_enter Tryd.func97, Tryd.ntmps97
    go_wp2_with (first | (go_at_call 82; (try rw [hW0]); go_loud (with_reducible refine (QV f1 W0).mono ?_); rintro r w2 ⟨rfl, hb2⟩; have HB2 := Qb.mk hb2; have hr1 := Qb.mk (Qc hrx.out hb2); have j0 := (Qa hr1.out 0).trans rfl; have j1 := (Qa hr1.out 1).trans rfl; have j2 := (Qa hr1.out 2).trans rfl; have z0 := Qg hr1.out 0; have z1 := Qg hr1.out 1; have z2 := Qg hr1.out 2; clear hb2 k0 k1 k2 k3))
    refine bodyPost_ret (v := .agg #[.string f1, .slice none 0 0, .int .i64 0]) (by simp [results, Tryd.results97, go_sem, *]) rfl ⟨f1, none, 0, 0, 0, rfl, by omega, Nat.le_refl _, NL.nil _ _, ?_⟩
    exact (((HB0.out.trans (HB2.out.mono HB0.out.size)).setCell (p := ⟨w.heap.size + 1, 0, none⟩) (Nat.le_succ _) _).setCell (p := ⟨w.heap.size + 1, 1, none⟩) (Nat.le_succ _) _).setCell (p := ⟨w.heap.size + 1, 2, none⟩) (Nat.le_succ _) _
  ·have TN := numText_calls f2 h0 h1 W0 hg0.out
   go_enter Tryd.func97, Tryd.ntmps97
   go_wp2_with (first | (go_at_call 95; (try rw [hW0]); go_loud (with_reducible refine TN.mono ?_); rintro r w1 ⟨s1, hz1, rfl, hb1⟩; have hz1 := Qb.mk hz1; have HB1 := Qb.mk hb1; clear TN hb1) | (go_at_call 82; (try rw [hW0]); go_loud (with_reducible refine (QV s1 w1).mono ?_); rintro r w2 ⟨rfl, hb2⟩; have HB2 := Qb.mk (Qe HB1.out hb2); have hr1 := Qb.mk (Qc hrx.out HB2.out); have j0 := (Qa hr1.out 0).trans rfl; have j1 := (Qa hr1.out 1).trans rfl; have j2 := (Qa hr1.out 2).trans rfl; have z0 := Qg hr1.out 0; have z1 := Qg hr1.out 1; have z2 := Qg hr1.out 2; clear hb2 k0 k1 k2 k3))
   refine bodyPost_ret (v := .agg #[.string s1, .slice none 0 0, .int .i64 0]) (by simp [results, Tryd.results97, go_sem, *]) rfl ⟨s1, none, 0, 0, 0, rfl, by have := hz1.out; omega, Nat.le_refl _, NL.nil _ _, ?_⟩
   exact (((HB0.out.trans (HB2.out.mono HB0.out.size)).setCell (p := ⟨w.heap.size + 1, 0, none⟩) (Nat.le_succ _) _).setCell (p := ⟨w.heap.size + 1, 1, none⟩) (Nat.le_succ _) _).setCell (p := ⟨w.heap.size + 1, 2, none⟩) (Nat.le_succ _) _
 ·go_enter Tryd.func97, Tryd.ntmps97
  go_wp2_with (first | (go_at_call 82; (try rw [hW0]); go_loud (with_reducible refine (QV ⟨#[95]⟩ W0).mono ?_); rintro r w2 ⟨rfl, hb2⟩; have HB2 := Qb.mk hb2; have hr1 := Qb.mk (Qc hrx.out hb2); have j0 := (Qa hr1.out 0).trans rfl; have j1 := (Qa hr1.out 1).trans rfl; have j2 := (Qa hr1.out 2).trans rfl; have z0 := Qg hr1.out 0; have z1 := Qg hr1.out 1; have z2 := Qg hr1.out 2; clear hb2 k0 k1 k2 k3))
  refine bodyPost_ret (v := .agg #[.string ⟨#[95]⟩, .slice none 0 0, .int .i64 0]) (by simp [results, Tryd.results97, go_sem, *]) rfl ⟨⟨#[95]⟩, none, 0, 0, 0, rfl, by rw [sz1]; omega, Nat.le_refl _, NL.nil _ _, ?_⟩
  exact (((HB0.out.trans (HB2.out.mono HB0.out.size)).setCell (p := ⟨w.heap.size + 1, 0, none⟩) (Nat.le_succ _) _).setCell (p := ⟨w.heap.size + 1, 1, none⟩) (Nat.le_succ _) _).setCell (p := ⟨w.heap.size + 1, 2, none⟩) (Nat.le_succ _) _
end Go.Proofs.YtlgpoigbadajnaaDoor.DepA.Z
