/- Rows of texts that grow beside one another; what asks whether a text is among them. No condition beyond those that each states. -/
import Derived.Test.YtlgpoigbadajnaaDoorODepAU
namespace Go.Proofs.YtlgpoigbadajnaaDoor.DepA.Z
open Go.RowKit Go.Proofs.YtlgpoigbadajnaaDoorW.PrintWords Go.Proofs.YtlgpoigbadajnaaDoorW.PrintLast Go.Proofs.YtlgpoigbadajnaaDoorW.PrintMore Go.Proofs.YtlgpoigbadajnaaDoor.PDepA
set_option linter.unusedVariables false
set_option linter.unusedSimpArgs false
theorem ck_all (ds : List S56) (fs : List S34) (hds : ds.length ≤ BL) (hfs : fs.length ≤ BL) (hdc : ∀ d ∈ ds, d.f2.length ≤ BL) : ∀ (m : Nat) (e : S29), cost e ≤ m → CK ds fs e
 | 0, e, h => by have := cost_eq e; omega
 | m + 1, e, h => ck_step ds fs hds hfs hdc e (fun x hx => ck_all ds fs hds hfs hdc m x (by have := cost_mem hx; omega)) (fun a ha => ck_all ds fs hds hfs hdc m a.f4 (by have := cost_memA ha; omega))
def RS (W : World) (b : Nat) (A : Option Addr) (m c : Nat) : Prop := ∃ l : List ByteArray, l.length = m ∧ Kd.R Kd.string 9 W b (fun _ => True) (.slice A m c) l
section
variable {ops : Array Oper} {rest : List Oper} {o : Oper} {a : Act} {Q : Exit → Act → World → Prop} {W W1 w0 : World} {b : Nat} {A A1 : Option Addr} {m c m1 c1 : Nat}
theorem RS.nil (W : World) (b : Nat) : RS W b none 0 0 := ⟨[], rfl, Kd.R_nil _ _ _ _ _⟩
theorem RS.below (h : RS W b A m c) (hb : Below W.heap.size W W1) : RS W1 b A m c := by
 obtain ⟨l, hl, hr⟩ := h
 exact ⟨l, hl, Kd.R_below hr hb⟩
theorem RS.lt (h : RS W b A m c) {k : Nat} (hk : (Value.slice A m c).ownBlock = some k) : k < W.heap.size := by
 obtain ⟨l, _, hr⟩ := h
 exact ((Kd.R_bound hr).1 k hk).2.2.1
theorem RS.has (h : RS W b A m c) (hm : m ≤ 1000000000000) (s : ByteArray) : ∃ bh : Bool, Calls Tryd.prog 35 #[.slice A m c, .string s] W fun e w' => e = .returned (.bool bh) ∧ Below W.heap.size W w' := by
 obtain ⟨l, rfl, hr⟩ := h
 obtain ⟨bh, h⟩ := has_c l s hm
 exact ⟨bh, h W (Kd.Zk hr).2.2 (Kd.Zk hr).2.1⟩
theorem RS.block (h : RS W b A m c) {g t : Nat} {cs : Array Value} (hb : W.heap[g]? = some (.cells cs t (0, 0))) (ht : 9 ≠ t) (hg : W.grownBy W1 (Value.slice A m c).ownBlock) : W1.heap[g]? = some (.cells cs t (0, 0)) := by
 obtain ⟨l, _, hr⟩ := h
 exact blk_grown hb hg (Kd.R_ne hr hb ht)
theorem RS.app {s1 : ByteArray} (hgd : o.guard = none) (s x : Operand) (ho : o.op = .call { callee := .builtin .append, args := #[s, x], argTypes := #[25, 25] })
  (hs : a.eval s = .slice A m c) (hx : a.eval x = .slice (some ⟨W.heap.size, 0, none⟩) 1 1) (h : RS W b A m c) (HB : Below b w0 W) (hbase : b ≤ W.heap.size) (hl : m ≤ 1000000)
  (hK : ∀ A3 c3 w3, RS w3 b A3 (m + 1) c3 → Below b w0 w3 → W.grownBy w3 (Value.slice A m c).ownBlock → ((Value.slice A3 (m + 1) c3).ownBlock = (Value.slice A m c).ownBlock ∨ ∃ q, (Value.slice A3 (m + 1) c3).ownBlock = some q ∧ W.heap.size ≤ q) → wpList Tryd.prog ops Q rest (a.put o.dst (.slice A3 (m + 1) c3)) w3) :
  wpList Tryd.prog ops Q (o :: rest) a (W.alloc (.cells #[.string s1] 9)) := by
 obtain ⟨l, hlm, hr⟩ := h
 refine Kd.R_append Kd.string (w0 := w0) b hgd s x 25 9 (.string ⟨#[]⟩) 16 ho Tryd.underlying25 Ext.infS rfl (by decide) (by decide) (.slice A m c) l s1 [.string s1] (fun _ => True) (fun _ => False) hs hx rfl (fun _ hk => hk.elim) (fun _ _ => trivial) hr HB hbase (by rw [hlm]; omega) ?_
 intro v3 w3 hr3 hb3 hg3 hat3
 obtain ⟨A3, c3, hv3⟩ := Kd.Z8 hr3
 have e1 : (l ++ [s1]).length = m + 1 := by rw [List.length_append, hlm]; rfl
 rw [e1] at hv3
 subst hv3
 exact hK A3 c3 w3 ⟨_, e1, hr3⟩ hb3 hg3 hat3
structure R2 (W : World) (b : Nat) (A : Option Addr) (m c : Nat) (A1 : Option Addr) (m1 c1 : Nat) : Prop where
 r : RS W b A m c
 s : RS W b A1 m1 c1
 ne : ∀ k, (Value.slice A m c).ownBlock = some k → (Value.slice A1 m1 c1).ownBlock ≠ some k
theorem R2.nil (W : World) (b : Nat) : R2 W b none 0 0 none 0 0 := ⟨RS.nil W b, RS.nil W b, fun k h => by simp [Value.ownBlock] at h⟩
theorem R2.below (h : R2 W b A m c A1 m1 c1) (hb : Below W.heap.size W W1) : R2 W1 b A m c A1 m1 c1 := ⟨h.r.below hb, h.s.below hb, h.ne⟩
theorem RS.grown (h : RS W b A1 m1 c1) (hg : W.grownBy W1 (Value.slice A m c).ownBlock) (hne : ∀ k, (Value.slice A m c).ownBlock = some k → (Value.slice A1 m1 c1).ownBlock ≠ some k) : RS W1 b A1 m1 c1 := by
 obtain ⟨l, hl, hr⟩ := h
 exact ⟨l, hl, Kd.R_grown2 hr rfl hg (fun k hk e => hne k hk e.symm)⟩
theorem R2.put (h : R2 W b A m c A1 m1 c1) {A3 : Option Addr} {c3 : Nat} (hr : RS W1 b A3 (m + 1) c3) (hg : W.grownBy W1 (Value.slice A m c).ownBlock) (hat : (Value.slice A3 (m + 1) c3).ownBlock = (Value.slice A m c).ownBlock ∨ ∃ q, (Value.slice A3 (m + 1) c3).ownBlock = some q ∧ W.heap.size ≤ q) : R2 W1 b A3 (m + 1) c3 A1 m1 c1 :=
 ⟨hr, h.s.grown hg h.ne, fun k hk e => by
  rcases hat with h1 | ⟨q, h1, h2⟩
  ·exact h.ne k (h1 ▸ hk) e
  ·rw [h1] at hk
   obtain rfl := Option.some.inj hk
   have := h.s.lt e
   omega⟩
theorem R2.swap (h : R2 W b A m c A1 m1 c1) : R2 W b A1 m1 c1 A m c := ⟨h.s, h.r, fun k h1 h2 => h.ne k h2 h1⟩
end
end Go.Proofs.YtlgpoigbadajnaaDoor.DepA.Z

