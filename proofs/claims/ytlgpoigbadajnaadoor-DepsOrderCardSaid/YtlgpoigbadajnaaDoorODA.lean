/- Texts of the walks put together: DepA, DepB, DepC, DepD, DepE, DepF, DepG, DepH. Conditions: as each states. -/
import Derived.Test.YtlgpoigbadajnaaDoorOPDepAx0
import Derived.Maps.OwnOps
import Derived.Maps.Views
import Derived.WalkSpells
import Derived.Deep.RegionHeld3
import Derived.Laws.Strings
import Derived.Maps.RangeWalk
namespace Go.Proofs.YtlgpoigbadajnaaDoor.DepA
open Go.RowKit Go.Proofs.YtlgpoigbadajnaaDoorW.PrintWords Go.Proofs.YtlgpoigbadajnaaDoorW.PrintLast Go.Proofs.YtlgpoigbadajnaaDoorW.PrintMore Go.Proofs.YtlgpoigbadajnaaDoor.PDepA
open Go.Maps (Keyed has IsMap)
set_option linter.unusedVariables false
set_option linter.unusedSimpArgs false
def rawR (v : Value) : Option (DataW Value × List MemPlace) := some (.held v, [])
def MapF (W : World) (P : Program) (k : TypeId) (b n : Nat) (F : Lit → Option Value) : Prop :=
 ∃ D : DataW Value, W.ownsMap P k rawR b n D ∧ IsMap D ∧ ∀ l z, D.atKey l z = match F l with | some v => .held v | none => z
section
variable {P : Program} {k t e : TypeId} {W W1 : World} {b n : Nat} {F : Lit → Option Value} {key val z : Value} {kl : Lit}
theorem MapF.lt (h : MapF W P k b n F) : b < W.heap.size := by obtain ⟨D, h, _⟩ := h; exact h.lt
theorem MapF.of_block (h : MapF W P k b n F) (hb : W1.heap[b]? = W.heap[b]?) : MapF W1 P k b n F := by
 obtain ⟨D, ⟨es, clock, h1, h2⟩, h3⟩ := h
 exact ⟨D, ⟨es, clock, hb.trans h1, h2⟩, h3⟩
theorem MapF.blk (h : MapF W P k b n F) : ∃ es clock, W.heap[b]? = some (.map es clock) := by
 obtain ⟨D, ⟨es, clock, h1, h2⟩, h3⟩ := h
 exact ⟨es, clock, h1⟩
theorem MapF.made (W : World) (P : Program) (k : TypeId) : MapF (W.alloc (.map #[] 0)) P k W.heap.size 0 (fun _ => none) := ⟨.map [], World.ownsMap_made W P k rawR, ⟨[], rfl⟩, fun l z => rfl⟩
theorem MapF.look (h : MapF W P k b n F) (c : Bool) (K : Keyed P k) (ht : P.underlying t = some (.map k e)) (hz : (zeroValue e).run P W = .ok z W) (hkey : keyOf P k key = some kl) :
  (Instr.lookup t (.map (some b)) key c).run P W = .ok (match F kl with | some v => if c then .tuple #[v, .bool true] else v | none => if c then .tuple #[z, .bool false] else z) W := by
 obtain ⟨D, ⟨es, clock, hb, hF, _, rfl⟩, hm, hD⟩ := h
 rcases Maps.fit_look c K ht hz hb hF hkey with ⟨hrun, _, hat⟩ | ⟨e0, y, _, _, hrun, hRv, hat, _⟩
 ·have : F kl = none := by
   have h1 := (hD kl .nil).symm.trans (hat .nil)
   cases hf : F kl with
   | none => rfl
   | some v => rw [hf] at h1; cases h1
  rw [hrun, this]
 ·have : F kl = some e0.val := by
   have hy : y = (.held e0.val, []) := (Option.some.inj hRv).symm
   subst hy
   have h1 := (hD kl .nil).symm.trans (hat .nil)
   cases hf : F kl with
   | none => rw [hf] at h1; cases h1
   | some v => rw [hf] at h1; injection h1 with h1; rw [h1]
  rw [hrun, this]
theorem MapF.store (h : MapF W P k b n F) (K : Keyed P k) (ht : P.underlying t = some (.map k e)) (hn : n < maxLen) (hkey : keyOf P k key = some kl) (hkl : WideAt.IsKeyLit kl) (val : Value) :
  ∃ W' F', (Instr.mapUpdate t (.map (some b)) key val).run P W = .ok () W' ∧ MapF W' P k b (n + 1) F' ∧ F' kl = some val ∧ (∀ l, l ≠ kl → F' l = F l) ∧ W.grownBy W' (some b) := by
 classical
 obtain ⟨D, ho, hm, hD⟩ := h
 obtain ⟨W', hrun, ho', hg⟩ := ho.update K ht hn hkey (val := val) (d := .held val) (ps := []) rfl
 refine ⟨W', fun l => if l = kl then some val else F l, hrun, ⟨_, ho', hm.put _ _, fun l z => ?_⟩, if_pos rfl, fun l hl => if_neg hl, hg⟩
 by_cases hl : l = kl
 ·subst hl
  rw [Maps.atKey_put_same hm hkl]
  simp
 ·rw [Maps.atKey_put_other hl]
  simp only [hl, if_false]
  exact hD l z
end
structure Mod (W W' : World) (S : Nat → Prop) : Prop where
 os : W'.os = W.os
 tape : W'.tape = W.tape
 output : W'.output = W.output
 size : W.heap.size ≤ W'.heap.size
 block : ∀ i, i < W.heap.size → ¬ S i → W'.heap[i]? = W.heap[i]?
theorem Mod.refl (W : World) (S : Nat → Prop) : Mod W W S := ⟨rfl, rfl, rfl, Nat.le_refl _, fun _ _ _ => rfl⟩
theorem Mod.of_below {W W' : World} (h : Below W.heap.size W W') (S : Nat → Prop) : Mod W W' S := ⟨h.os, h.tape, h.output, h.size, fun i hi _ => h.block i hi⟩
theorem Mod.trans {W W' W2 : World} {S S' : Nat → Prop} (h : Mod W W' S) (h' : Mod W' W2 S') (hs : ∀ i, i < W.heap.size → S' i → S i) : Mod W W2 S :=
 ⟨h'.os.trans h.os, h'.tape.trans h.tape, h'.output.trans h.output, Nat.le_trans h.size h'.size, fun i hi hn => (h'.block i (Nat.lt_of_lt_of_le hi h.size) (fun hs' => hn (hs i hi hs'))).trans (h.block i hi hn)⟩
theorem Mod.mono {W W' : World} {S S' : Nat → Prop} (h : Mod W W' S) (hs : ∀ i, i < W.heap.size → S i → S' i) : Mod W W' S' := ⟨h.os, h.tape, h.output, h.size, fun i hi hn => h.block i hi (fun h' => hn (hs i hi h'))⟩
theorem Mod.below {B : Nat} {W W' : World} {S : Nat → Prop} (h : Mod W W' S) (hB : B ≤ W.heap.size) (hs : ∀ i, i < W.heap.size → S i → B ≤ i) : Below B W W' :=
 ⟨h.os, h.tape, h.output, h.size, fun i hi => h.block i (Nat.lt_of_lt_of_le hi hB) (fun h' => by have := hs i (Nat.lt_of_lt_of_le hi hB) h'; omega)⟩
theorem Mod.of_grown {W W' : World} {g : Nat} (h : W.grownBy W' (some g)) : Mod W W' (· = g) := ⟨h.os, h.tape, h.output, h.size, fun i hi hn => h.block i hi (fun e => hn (Option.some.inj e))⟩
theorem Mod.of_own {W W' : World} {v : Value} (h : W.grownBy W' v.ownBlock) : Mod W W' (fun j => v.ownBlock = some j) := ⟨h.os, h.tape, h.output, h.size, fun i hi hn => h.block i hi (fun e => hn e.symm)⟩
theorem Mod.drew {W W' : World} {S : Nat → Prop} (h : Mod W W' S) : Mod W W'.drew S := ⟨h.os, h.tape, h.output, h.size, h.block⟩
def key (s : ByteArray) : Lit := .string s.data.toList
theorem key_inj {s t : ByteArray} (h : key s = key t) : s = t := by
 unfold key at h
 injection h with h
 exact ByteArray.ext (Array.toList_inj.1 h)
def updI (g : ByteArray → Int) (s : ByteArray) (x : Int) : ByteArray → Int := fun t => if t = s then x else g t
def MapS (W : World) (b n : Nat) (g : ByteArray → Int) : Prop := ∃ F, MapF W Tryd.prog 9 b n F ∧ ∀ s, (match F (key s) with | some v => v | none => .int .i64 0) = .int .i64 (g s)
theorem keyed9 : Keyed Tryd.prog 9 := Maps.string_keyed Tryd.underlying9
def NS (s : ByteArray) : Prop := s.size ≤ 140737488351232
theorem key9 {s : ByteArray} (hs : NS s) : keyOf Tryd.prog 9 (.string s) = some (key s) := by
 have : s.size ≤ maxLen := Nat.le_trans hs (by decide)
 simp [keyOf, Tryd.underlying9, mapKey, key, this]
theorem zero3 (W : World) : (zeroValue 3).run Tryd.prog W = .ok (.int .i64 0) W := by kernel_rfl
theorem key_is (s : ByteArray) : WideAt.IsKeyLit (key s) := by first | trivial | (simp [WideAt.IsKeyLit, key]) | exact ⟨⟩
section
variable {W W1 : World} {b n : Nat} {g : ByteArray → Int}
theorem MapS.lt (h : MapS W b n g) : b < W.heap.size := h.elim fun _ h => h.1.lt
theorem MapS.of_block (h : MapS W b n g) (hb : W1.heap[b]? = W.heap[b]?) : MapS W1 b n g := h.elim fun F h => ⟨F, h.1.of_block hb, h.2⟩
theorem MapS.blk (h : MapS W b n g) : ∃ es clock, W.heap[b]? = some (.map es clock) := h.elim fun _ h => h.1.blk
theorem MapS.made (W : World) : MapS (W.alloc (.map #[] 0)) W.heap.size 0 (fun _ => 0) := ⟨_, MapF.made W Tryd.prog 9, fun s => rfl⟩
theorem MapS.look (h : MapS W b n g) {s : ByteArray} (hs : NS s) : (Instr.lookup 79 (.map (some b)) (.string s) false).run Tryd.prog W = .ok (.int .i64 (g s)) W := by
 obtain ⟨F, h, hg⟩ := h
 rw [h.look false keyed9 Tryd.underlying79 (zero3 W) (key9 hs), ← hg s]
 cases F (key s) <;> rfl
theorem MapS.store (h : MapS W b n g) (hn : n < maxLen) {s : ByteArray} (hs : NS s) (x : Int) : ∃ W', (Instr.mapUpdate 79 (.map (some b)) (.string s) (.int .i64 x)).run Tryd.prog W = .ok () W' ∧ MapS W' b (n + 1) (updI g s x) ∧ W.grownBy W' (some b) := by
 obtain ⟨F, h, hg⟩ := h
 obtain ⟨W', F', hrun, hM, h1, h2, hgr⟩ := h.store keyed9 Tryd.underlying79 hn (key9 hs) (key_is s) (.int .i64 x)
 refine ⟨W', hrun, ⟨F', hM, fun t => ?_⟩, hgr⟩
 by_cases ht : t = s
 ·subst ht
  rw [h1]
  simp [updI]
 ·rw [h2 _ (fun e => ht (key_inj e)), hg t]
  simp [updI, ht]
end
def WF (p : Int) : Prop := -9223372036854775808 ≤ p ∧ p ≤ 9223372036854775807
theorem WF.wf {p : Int} (h : WF p) : (Lit.int .i64 p).wf = true := by
 unfold WF at h
 simp [Lit.wf, IntKind.min, IntKind.max, IntKind.signed, IntKind.bits]
 omega
def updN (g : Int → Int) (s : Int) (x : Int) : Int → Int := fun t => if t = s then x else g t
def MapN (W : World) (b n : Nat) (g : Int → Int) : Prop := ∃ F, MapF W Tryd.prog 3 b n F ∧ ∀ s, (match F (.int .i64 s) with | some v => v | none => .int .i64 0) = .int .i64 (g s)
theorem keyedI : Keyed Tryd.prog 3 := Maps.int_keyed Tryd.underlying3
theorem keyI {p : Int} (hp : WF p) : keyOf Tryd.prog 3 (.int .i64 p) = some (.int .i64 p) := Maps.keyOf_int_mk Tryd.underlying3 hp.wf
theorem keyI_is (p : Int) : WideAt.IsKeyLit (.int .i64 p) := by first | trivial | (simp [WideAt.IsKeyLit]) | exact ⟨⟩
section
variable {W W1 : World} {b n : Nat} {g : Int → Int}
theorem MapN.lt (h : MapN W b n g) : b < W.heap.size := h.elim fun _ h => h.1.lt
theorem MapN.of_block (h : MapN W b n g) (hb : W1.heap[b]? = W.heap[b]?) : MapN W1 b n g := h.elim fun F h => ⟨F, h.1.of_block hb, h.2⟩
theorem MapN.blk (h : MapN W b n g) : ∃ es clock, W.heap[b]? = some (.map es clock) := h.elim fun _ h => h.1.blk
theorem MapN.made (W : World) : MapN (W.alloc (.map #[] 0)) W.heap.size 0 (fun _ => 0) := ⟨_, MapF.made W Tryd.prog 3, fun s => rfl⟩
theorem MapN.look (h : MapN W b n g) {s : Int} (hs : WF s) : (Instr.lookup 59 (.map (some b)) (.int .i64 s) false).run Tryd.prog W = .ok (.int .i64 (g s)) W := by
 obtain ⟨F, h, hg⟩ := h
 rw [h.look false keyedI Tryd.underlying59 (zero3 W) (keyI hs), ← hg s]
 cases F (.int .i64 s) <;> rfl
theorem MapN.store (h : MapN W b n g) (hn : n < maxLen) {s : Int} (hs : WF s) (x : Int) : ∃ W', (Instr.mapUpdate 59 (.map (some b)) (.int .i64 s) (.int .i64 x)).run Tryd.prog W = .ok () W' ∧ MapN W' b (n + 1) (updN g s x) ∧ W.grownBy W' (some b) := by
 obtain ⟨F, h, hg⟩ := h
 obtain ⟨W', F', hrun, hM, h1, h2, hgr⟩ := h.store keyedI Tryd.underlying59 hn (keyI hs) (keyI_is s) (.int .i64 x)
 refine ⟨W', hrun, ⟨F', hM, fun t => ?_⟩, hgr⟩
 by_cases ht : t = s
 ·subst ht
  rw [h1]
  simp [updN]
 ·rw [h2 _ (fun e => ht (by injection e)), hg t]
  simp [updN, ht]
end
structure FS (W : World) (base pb ab hb : Nat) (vd vf : Value) (na nh : Nat) (ga : ByteArray → Int) (gh : Int → Int) : Prop where
 blk : W.heap[pb]? = some (.cells #[vd, vf, .map (some ab), .map (some hb)] 81 (0, 0))
 am : MapS W ab na ga
 hm : MapN W hb nh gh
 ge : base ≤ pb ∧ base ≤ ab ∧ base ≤ hb
 ne : ab ≠ hb
def FP (pb ab hb : Nat) (j : Nat) : Prop := j = pb ∨ j = ab ∨ j = hb
section
variable {w0 W W1 : World} {base pb ab hb na nh : Nat} {vd vf : Value} {ga : ByteArray → Int} {gh : Int → Int}
theorem FS.pne (h : FS W base pb ab hb vd vf na nh ga gh) : pb ≠ ab ∧ pb ≠ hb := by
 constructor
 ·rintro rfl
  obtain ⟨es, c, hm⟩ := h.am.blk
  rw [h.blk] at hm
  cases hm
 ·rintro rfl
  obtain ⟨es, c, hm⟩ := h.hm.blk
  rw [h.blk] at hm
  cases hm
theorem FS.lt (h : FS W base pb ab hb vd vf na nh ga gh) {j : Nat} (hj : FP pb ab hb j) : j < W.heap.size := by
 rcases hj with rfl | rfl | rfl
 ·exact (Array.getElem?_eq_some_iff.1 h.blk).1
 ·exact h.am.lt
 ·exact h.hm.lt
theorem FS.fge (h : FS W base pb ab hb vd vf na nh ga gh) {j : Nat} (hj : FP pb ab hb j) : base ≤ j := by
 rcases hj with rfl | rfl | rfl
 ·exact h.ge.1
 ·exact h.ge.2.1
 ·exact h.ge.2.2
theorem FS.step (h : FS W base pb ab hb vd vf na nh ga gh) (hk : ∀ j, FP pb ab hb j → W1.heap[j]? = W.heap[j]?) : FS W1 base pb ab hb vd vf na nh ga gh :=
 ⟨(hk pb (.inl rfl)).trans h.blk, h.am.of_block (hk ab (.inr (.inl rfl))), h.hm.of_block (hk hb (.inr (.inr rfl))), h.ge, h.ne⟩
theorem FS.below (h : FS W base pb ab hb vd vf na nh ga gh) (hbl : Below W.heap.size W W1) : FS W1 base pb ab hb vd vf na nh ga gh := h.step (fun j hj => hbl.block j (h.lt hj))
theorem FS.cells (h : FS W base pb ab hb vd vf na nh ga gh) : W.cell? ⟨pb, 0, none⟩ = some vd ∧ W.cell? ⟨pb, 1, none⟩ = some vf ∧ W.cell? ⟨pb, 2, none⟩ = some (.map (some ab)) ∧ W.cell? ⟨pb, 3, none⟩ = some (.map (some hb)) :=
 ⟨(Qa h.blk 0).trans rfl, (Qa h.blk 1).trans rfl, (Qa h.blk 2).trans rfl, (Qa h.blk 3).trans rfl⟩
theorem FS.putA (h : FS W base pb ab hb vd vf na nh ga gh) {ga' : ByteArray → Int} (hM : MapS W1 ab (na + 1) ga') (hg : W.grownBy W1 (some ab)) : FS W1 base pb ab hb vd vf (na + 1) nh ga' gh :=
 ⟨(hg.block pb (h.lt (.inl rfl)) (fun e => h.pne.1 (Option.some.inj e))).trans h.blk, hM, h.hm.of_block (hg.block hb (h.lt (.inr (.inr rfl))) (fun e => h.ne (Option.some.inj e).symm)), h.ge, h.ne⟩
theorem FS.putH (h : FS W base pb ab hb vd vf na nh ga gh) {gh' : Int → Int} (hM : MapN W1 hb (nh + 1) gh') (hg : W.grownBy W1 (some hb)) : FS W1 base pb ab hb vd vf na (nh + 1) ga gh' :=
 ⟨(hg.block pb (h.lt (.inl rfl)) (fun e => h.pne.2 (Option.some.inj e))).trans h.blk, h.am.of_block (hg.block ab (h.lt (.inr (.inl rfl))) (fun e => h.ne (Option.some.inj e))), hM, h.ge, h.ne⟩
end
theorem at_str {w : World} {A : Option Addr} {n : Nat} {xs : List ByteArray} (h : Kd.C Kd.string w A n xs) (i : Nat) (hi : i < xs.length) (hn : i < n) : ∃ ad, A = some ad ∧ w.cell? (ad.add i) = some (.string xs[i]) := by
 obtain ⟨ad, c, e, _, hK, hc⟩ := Kd.C_get h (⟨#[]⟩ : ByteArray) (i : Int) (by omega) (by omega)
 have hK' : c = [.string (xs.getD i ⟨#[]⟩)] := hK
 subst hK'
 refine ⟨ad, e, ?_⟩
 have := hc 0 _ rfl
 have hsz : Kd.string.sz = 1 := rfl
 rw [hsz, Int.toNat_natCast, Nat.mul_one, Nat.add_zero] at this
 rw [this]
 simp [hi]
def addk (g : ByteArray → Int) (by_ : Int) : List ByteArray → ByteArray → Int
 | [] => g
 | s :: l => addk (updI g s (g s + by_)) by_ l
def Bd (m : Int) (g : ByteArray → Int) : Prop := ∀ s, -m ≤ g s ∧ g s ≤ m
theorem Bd.upd {m : Int} {g : ByteArray → Int} (h : Bd m g) {s : ByteArray} {by_ : Int} (hb : -1 ≤ by_ ∧ by_ ≤ 1) : Bd (m + 1) (updI g s (g s + by_)) := by
 intro t
 have h1 := h t
 have h2 := h s
 unfold updI
 split <;> omega
set_option maxHeartbeats 4000000 in
set_option maxRecDepth 100000 in
theorem bind_calls {w0 W : World} {pb ab hb na nh : Nat} {vd vf : Value} {ga : ByteArray → Int} {gh : Int → Int} (h : FS W w0.heap.size pb ab hb vd vf na nh ga gh) (hB : Below w0.heap.size w0 W) (l : List ByteArray) {A : Option Addr} {c : Nat} (hC : Kd.C Kd.string w0 A l.length l) (hNS : ∀ s ∈ l, NS s) (by_ : Int) (hby : -1 ≤ by_ ∧ by_ ≤ 1) (m : Nat) (hm : Bd m ga) (hml : m + l.length ≤ 1000000000000) (hn : na + l.length ≤ 1000000000000) :
  Calls Tryd.prog 43 #[.pointer (some ⟨pb, 0, none⟩), .slice A l.length c, .int .i64 by_] W fun e W' => e = .returned (.tuple #[]) ∧ FS W' w0.heap.size pb ab hb vd vf (na + l.length) nh (addk ga by_ l) gh ∧ Mod W W' (· = ab) := by
 have h9 := Qb.mk h
 have hB9 := Qb.mk hB
 have hC9 := Qb.mk hC
 have hm9 := Qb.mk hm
 have hlen := hC.2.1
 have hNS := Qb.mk hNS
 clear h hB hC hm
 go_enter Tryd.func43, Tryd.ntmps43
 go_wp2
 go_loopg [10] (l.length + 1) (fun kq v10 w' => ∃ (i : Nat) (g : ByteArray → Int), v10 = .int .i64 (i : Int) ∧ i + kq = l.length + 1 ∧ 1 ≤ kq ∧ Qb (addk g by_ (l.drop i) = addk ga by_ l) ∧ Qb (Bd (m + i : Nat) g) ∧ Qb (FS w' w0.heap.size pb ab hb vd vf (na + i) nh g gh) ∧ Qb (Mod W w' (· = ab)))
 case atStart => exact ⟨0, ga, rfl, by omega, by omega, ⟨rfl⟩, hm9, h9, ⟨Mod.refl _ _⟩⟩
 case round =>
  obtain ⟨i, g, rfl, hi, hk, hs, hbd, hf, hmod⟩ := hrel
  by_cases hlt : i < l.length
  ·obtain ⟨ad, rfl, hv⟩ := at_str (Kd.Qj hC9.out (Below.trans hB9.out (hmod.out.below hB9.out.size (fun j _ hj => hj ▸ h9.out.ge.2.1)))) i hlt hlt
   have p0 : (0 : Int) ≤ (i : Int) := by omega
   have q0 : (i : Int) < (l.length : Int) := by omega
   have q1 : decide ((i : Int) < (l.length : Int)) = true := decide_eq_true q0
   have hns := hNS.out l[i] (List.getElem_mem hlt)
   obtain ⟨_, _, hc0, _⟩ := hf.out.cells
   have hlk := hf.out.am.look hns
   have hb1 := hbd.out l[i]
   obtain ⟨W', hst, hM', hg'⟩ := hf.out.am.store (by unfold maxLen; omega) hns (g l[i] + by_)
   have hw1 : wrap64 (g l[i] + by_) = g l[i] + by_ := by unfold wrap64; omega
   have hF' := Qb.mk (hf.out.putA hM' hg')
   have hmod' := Qb.mk (hmod.out.trans (Mod.of_grown hg') (fun j _ hj => hj))
   have hbd' := Qb.mk (hbd.out.upd (s := l[i]) hby)
   have hs' : Qb (addk (updI g l[i] (g l[i] + by_)) by_ (l.drop (i + 1)) = addk ga by_ l) := ⟨by rw [← hs.out, List.drop_eq_getElem_cons hlt]; rfl⟩
   clear hb1 hM' hg' hns
   generalize l[i] = s at *
   go_wp2
   go_roundg (gk - 1)
   case measure => omega
   case rel => exact ⟨i + 1, _, by go_num, by omega, by omega, hs', ⟨by have := hbd'.out; rwa [show (((m + (i + 1) : Nat)) : Int) = ((m + i : Nat) : Int) + 1 by omega]⟩, hF', hmod'⟩
  ·have q1 : decide ((i : Int) < (l.length : Int)) = false := decide_eq_false (by omega)
   have hr := Qb.mk (show g = addk ga by_ l by rw [← hs.out, List.drop_eq_nil_of_le (by omega)]; rfl)
   have hi2 : i = l.length := by omega
   subst hi2
   go_wp2
   refine bodyPost_end (v := .tuple #[]) (by simp [results, Tryd.results43, go_sem]) rfl ?_
   exact ⟨rfl, hr.out ▸ hf.out, hmod.out⟩
attribute [local go_sem] ZG ZY
set_option linter.unusedVariables false
set_option linter.unusedSimpArgs false
theorem at_d {w0 wr : World} (hB : Below w0.heap.size w0 wr) {A : Option Addr} {l : List S34} (hC : Kd.C k34 w0 A l.length l) (i : Nat) (hi : i < l.length) :
  ∃ ad A1 c1 A3 c3 A4 c4 A5 c5, A = some ad ∧ wr.cell? (ad.add (i * 8)) = some (.string l[i].f0) ∧ wr.cell? ⟨(ad.add (i * 8)).block, (ad.add (i * 8)).off + 1, none⟩ = some (.slice A1 l[i].f1.length c1) ∧ wr.cell? ⟨(ad.add (i * 8)).block, (ad.add (i * 8)).off + 2, none⟩ = some (.int .i64 l[i].f2.f0) ∧ wr.cell? ⟨(ad.add (i * 8)).block, (ad.add (i * 8)).off + 3, none⟩ = some (.string l[i].f2.f1) ∧ wr.cell? ⟨(ad.add (i * 8)).block, (ad.add (i * 8)).off + 4, none⟩ = some (.int .i64 l[i].f2.f2) ∧ wr.cell? ⟨(ad.add (i * 8)).block, (ad.add (i * 8)).off + 5, none⟩ = some (.slice A3 l[i].f2.f3.length c3) ∧ wr.cell? ⟨(ad.add (i * 8)).block, (ad.add (i * 8)).off + 6, none⟩ = some (.slice A4 l[i].f2.f4.length c4) ∧ wr.cell? ⟨(ad.add (i * 8)).block, (ad.add (i * 8)).off + 7, none⟩ = some (.slice A5 l[i].f2.f5.length c5) ∧
   Kd.C Kd.string w0 A1 l[i].f1.length l[i].f1 ∧ Kd.C Kd.string w0 A3 l[i].f2.f3.length l[i].f2.f3 ∧ Kd.C k29 w0 A4 l[i].f2.f4.length l[i].f2.f4 ∧ Kd.C k88 w0 A5 l[i].f2.f5.length l[i].f2.f5 := by
 obtain ⟨ad, A1, c1, A3, c3, A4, c4, A5, c5, e, h0, h1, h2, h3, h4, h5, h6, h7, _, g1, _, g3, _, g4, _, g5⟩ := at_T34 hC (i : Int) (by omega) (by omega)
 have hx : Zd l (i : Int) = l[i] := by simp [Zd, hi]
 rw [hx] at h0 h1 h2 h3 h4 h5 h6 h7 g1 g3 g4 g5
 simp only [Int.toNat_natCast] at h0 h1 h2 h3 h4 h5 h6 h7
 have T : ∀ {a : Addr} {u : Value}, w0.cell? a = some u → wr.cell? a = some u := fun h => (hB.cell (World.block_lt_of_cell? _ _ h)).trans h
 exact ⟨ad, A1, c1, A3, c3, A4, c4, A5, c5, e, T h0, T h1, T h2, T h3, T h4, T h5, T h6, T h7, g1, g3, g4, g5⟩
def dix : List S34 → ByteArray → Nat → Int
 | [], _, _ => -1
 | d :: l, nm, i => if d.f0 = nm then (i : Int) else dix l nm (i + 1)
theorem dix_drop {l : List S34} {i : Nat} (h : i < l.length) (nm : ByteArray) : dix (l.drop i) nm i = if l[i].f0 = nm then (i : Int) else dix (l.drop (i + 1)) nm (i + 1) := by rw [List.drop_eq_getElem_cons h]; rfl
theorem dix_bd : ∀ (l : List S34) (nm : ByteArray) (i : Nat), -1 ≤ dix l nm i ∧ dix l nm i < (i : Int) + l.length
 | [], nm, i => by simp only [dix, List.length_nil]; omega
 | d :: l, nm, i => by
  have := dix_bd l nm (i + 1)
  by_cases h : d.f0 = nm
  ·simp only [dix, if_pos h, List.length_cons]; omega
  ·simp only [dix, if_neg h, List.length_cons]; omega
theorem tl_data (s : ByteArray) : s.toList = s.data.toList := by
 have := ByteArray.toList_mk s.data.toList
 simpa using this
theorem tl_beq (s t : ByteArray) : (s.toList == t.toList) = decide (s = t) := by
 rw [tl_data, tl_data]
 by_cases h : s = t
 ·subst h; simp
 ·rw [decide_eq_false h]
  have : ¬ s.data.toList = t.data.toList := fun e => h (ByteArray.ext (Array.toList_inj.1 e))
  simpa using this
set_option maxHeartbeats 2000000 in
theorem def1_calls (w : World) (x0 nm : ByteArray) (v1 v2 v3 v4 v5 v6 v7 : Value) (h1 : v1.cells = #[v1]) (nb : Nat) (hx : w.cell? ⟨nb, 0, none⟩ = some (.string nm)) :
  Calls Tryd.prog 75 #[.agg #[.string x0, v1, v2, v3, v4, v5, v6, v7], .pointer (some ⟨nb, 0, none⟩)] w fun e w' => e = .returned (.bool (decide (x0 = nm))) ∧ Below w.heap.size w w' := by
 have hx2 := (World.cell?_alloc_lt w (.cells #[.string x0, v1, v2, v3, v4, v5, v6, v7] 34) _ (World.block_lt_of_cell? _ _ hx)).trans hx
 clear hx
 go_enter Tryd.func75, Tryd.ntmps75
 go_wp2
 go_ret
 exact ⟨by show Ending.returned (.bool (x0.toList == nm.toList)) = _; rw [tl_beq], Qd (Below.refl _ _) _⟩
set_option maxHeartbeats 4000000 in
set_option maxRecDepth 100000 in
theorem index_calls {w0 w : World} (hB : Below w0.heap.size w0 w) (l : List S34) (nm : ByteArray) {A : Option Addr} {c : Nat} (hC : Kd.C k34 w0 A l.length l) (nb : Nat) (hx : w.cell? ⟨nb, 0, none⟩ = some (.string nm)) :
  Calls Tryd.prog 74 #[.slice A l.length c, .func (.func 75) #[] #[.pointer (some ⟨nb, 0, none⟩)]] w fun e w' => e = .returned (.int .i64 (dix l nm 0)) ∧ Below w.heap.size w w' := by
 have hB9 := Qb.mk hB
 have hC9 := Qb.mk hC
 have hx9 := Qb.mk hx
 have hlen := hC.2.1
 clear hB hC hx
 go_enter Tryd.func74, Tryd.ntmps74
 go_wp2
 go_loopg [8] (l.length + 1) (fun kq v8 w' => ∃ (i : Nat), v8 = .int .i64 (i : Int) ∧ i + kq = l.length + 1 ∧ 1 ≤ kq ∧ Qb (dix (l.drop i) nm i = dix l nm 0) ∧ Qb (Below w.heap.size w w'))
 case atStart => exact ⟨0, rfl, by omega, by omega, ⟨rfl⟩, ⟨Below.refl _ _⟩⟩
 case round =>
  obtain ⟨i, rfl, hi, hk, hs, hb⟩ := hrel
  by_cases hlt : i < l.length
  ·obtain ⟨ad, A1, c1, A3, c3, A4, c4, A5, c5, rfl, hv0, hv1, hv2, hv3, hv4, hv5, hv6, hv7, _, _, _, _⟩ := at_d (hB9.out.trans (hb.out.mono hB9.out.size)) hC9.out i hlt
   have p0 : (0 : Int) ≤ (i : Int) := by omega
   have q0 : (i : Int) < (l.length : Int) := by omega
   have q1 : decide ((i : Int) < (l.length : Int)) = true := decide_eq_true q0
   have hd := Qb.mk (dix_drop hlt nm)
   have C := def1_calls wr l[i].f0 nm (.slice A1 l[i].f1.length c1) (.int .i64 l[i].f2.f0) (.string l[i].f2.f1) (.int .i64 l[i].f2.f2) (.slice A3 l[i].f2.f3.length c3) (.slice A4 l[i].f2.f4.length c4) (.slice A5 l[i].f2.f5.length c5) rfl nb ((hb.out.cell (World.block_lt_of_cell? _ _ hx9.out)).trans hx9.out)
   generalize l[i] = d at *
   by_cases y1 : d.f0 = nm
   ·rw [decide_eq_true y1] at C
    have hr := Qb.mk (show dix l nm 0 = (i : Int) by rw [← hs.out, hd.out, if_pos y1])
    clear y1
    go_wp2_with (first | (go_at_call 75; go_loud (with_reducible refine C.mono ?_); rintro e w1 ⟨rfl, hb1⟩; have HB1 := Qb.mk (Qe hb.out hb1); clear hb1 C))
    go_ret
    exact ⟨by rw [hr.out]; rfl, HB1.out⟩
   ·rw [decide_eq_false y1] at C
    have hr := Qb.mk (show dix (l.drop (i + 1)) nm (i + 1) = dix l nm 0 by rw [← hs.out, hd.out, if_neg y1])
    clear y1
    go_wp2_with (first | (go_at_call 75; go_loud (with_reducible refine C.mono ?_); rintro e w1 ⟨rfl, hb1⟩; have HB1 := Qb.mk (Qe hb.out hb1); clear hb1 C))
    go_roundg (gk - 1)
    case measure => omega
    case rel => exact ⟨i + 1, by go_num, by omega, by omega, hr, HB1⟩
  ·have q1 : decide ((i : Int) < (l.length : Int)) = false := decide_eq_false (by omega)
   have hr := Qb.mk (show dix l nm 0 = -1 by rw [← hs.out, List.drop_eq_nil_of_le (by omega)]; rfl)
   go_wp2
   go_ret
   exact ⟨by rw [hr.out]; rfl, hb.out⟩
set_option maxHeartbeats 4000000 in
set_option maxRecDepth 100000 in
theorem def_calls {w0 w : World} (hB : Below w0.heap.size w0 w) (l : List S34) (nm : ByteArray) (vd : Value) (hvd : ∃ A n c, vd = .slice A n c) {A : Option Addr} {c : Nat} (hC : Kd.C k34 w0 A l.length l) :
  Calls Tryd.prog 60 #[.agg #[vd, .slice A l.length c], .string nm] w fun e w' => e = .returned (.tuple #[.int .i64 (if dix l nm 0 < 0 then 0 else dix l nm 0), .bool (decide (0 ≤ dix l nm 0))]) ∧ Below w.heap.size w w' := by
 obtain ⟨Ad, nd, cd, rfl⟩ := hvd
 have hb2 := Qd (Qd (Below.refl w.heap.size w) (.cells #[.slice Ad nd cd, .slice A l.length c] 38)) (.cells #[.string nm] 9)
 have hx := (Qa (Qv (w.alloc (.cells #[.slice Ad nd cd, .slice A l.length c] 38)) (.cells #[.string nm] 9 (0, 0))) 0).trans rfl
 rw [show (w.alloc (.cells #[.slice Ad nd cd, .slice A l.length c] 38)).heap.size = w.heap.size + 1 from Array.size_push _] at hx
 have C := index_calls (hB.trans (hb2.mono hB.size)) l nm hC (c := c) (w.heap.size + 1) hx
 have hbd := dix_bd l nm 0
 have hlen := hC.2.1
 have hb2 := Qb.mk hb2
 generalize dix l nm 0 = r at *
 clear hB hC hx
 go_enter Tryd.func60, Tryd.ntmps60
 go_wp2_with (first | (go_at_call 74; go_loud (with_reducible refine C.mono ?_); rintro e w1 ⟨rfl, hb1⟩; have HB1 := Qb.mk (Qe hb2.out hb1); clear hb1 C))
 all_goals go_ret2
 all_goals exact ⟨rfl, HB1.out⟩
end Go.Proofs.YtlgpoigbadajnaaDoor.DepA
namespace Go.Proofs.YtlgpoigbadajnaaDoor.DepA
open Go.RowKit Go.Proofs.YtlgpoigbadajnaaDoorW.PrintWords Go.Proofs.YtlgpoigbadajnaaDoorW.PrintLast Go.Proofs.YtlgpoigbadajnaaDoorW.PrintMore Go.Proofs.YtlgpoigbadajnaaDoor.PDepA
set_option linter.unusedVariables false
set_option linter.unusedSimpArgs false
def cnt : List ByteArray → ByteArray → Int
 | [], _ => 0
 | t :: l, s => (if s = t then 1 else 0) + cnt l s
def isIn (l : List ByteArray) (s : ByteArray) : Bool := l.any fun t => decide (t = s)
theorem cnt_nonneg : ∀ (l : List ByteArray) (s : ByteArray), 0 ≤ cnt l s ∧ cnt l s ≤ l.length
 | [], s => ⟨Int.le_refl _, Int.le_refl _⟩
 | t :: l, s => by
  have h := cnt_nonneg l s
  by_cases hs : s = t
  ·simp only [cnt, List.length_cons, if_pos hs]; omega
  ·simp only [cnt, List.length_cons, if_neg hs]; omega
theorem cnt_zero : ∀ (l : List ByteArray) (s : ByteArray), cnt l s = 0 ↔ isIn l s = false
 | [], s => by simp [cnt, isIn]
 | t :: l, s => by
  have h := cnt_zero l s
  have h2 := cnt_nonneg l s
  by_cases hs : s = t
  ·subst hs
   simp only [cnt, if_true, isIn, List.any_cons, decide_true, Bool.true_or]
   constructor
   ·intro h3; omega
   ·intro h3; cases h3
  ·have hs' : ¬ t = s := fun e => hs e.symm
   simp only [cnt, if_neg hs, Int.zero_add, h, isIn, List.any_cons, decide_eq_false hs', Bool.false_or]
theorem cnt_append : ∀ (l B : List ByteArray) (s : ByteArray), cnt (l ++ B) s = cnt l s + cnt B s
 | [], B, s => by simp [cnt]
 | t :: l, B, s => by simp only [List.cons_append, cnt, cnt_append l B s]; omega
theorem addk_eq (b : Int) : ∀ (l : List ByteArray) (g : ByteArray → Int) (s : ByteArray), addk g b l s = g s + b * cnt l s
 | [], g, s => by simp [addk, cnt]
 | t :: l, g, s => by
  simp only [addk, addk_eq b l, cnt, updI]
  by_cases hs : s = t
  ·subst hs; simp only [if_true, Int.mul_add, Int.mul_one]; omega
  ·simp only [if_neg hs, Int.zero_add]
theorem addk_in (l B : List ByteArray) : addk (cnt B) 1 l = cnt (l ++ B) := by
 funext s
 rw [addk_eq, cnt_append]; omega
theorem addk_out (l B : List ByteArray) : addk (cnt (l ++ B)) (-1) l = cnt B := by
 funext s
 rw [addk_eq, cnt_append]; omega
theorem cnt_bd (B : List ByteArray) : Bd (B.length : Nat) (cnt B) := fun s => by have := cnt_nonneg B s; omega
def memN (l : List Int) (s : Int) : Int := if l.any (fun t => decide (t = s)) then 1 else 0
theorem memN_upd (h : List Int) (s : Int) : updN (memN h) s 1 = memN (h ++ [s]) := by
 funext t
 unfold updN memN
 by_cases h' : t = s
 ·subst h'; simp
 ·have h2 : ¬ s = t := fun e => h' e.symm
  simp only [List.any_append, List.any_cons, List.any_nil, decide_eq_false h2, Bool.or_false, if_neg h']
def nsz (l : List ByteArray) : Bool := l.all fun s => decide (s.size ≤ 140737488351232)
theorem nsz_all {l : List ByteArray} (h : nsz l = true) : ∀ s ∈ l, NS s := fun s hs => by
 have := List.all_eq_true.1 h s hs
 simpa [NS] using this
def hit (ds : List S34) (op : Int) (nm : ByteArray) (B : List ByteArray) : Bool := decide (op = 1) && !isIn B nm && decide (0 ≤ dix ds nm 0)
mutual
def fx (ds : List S34) : S29 → List ByteArray → List Int → List Int
 | ⟨op, nm, _, ns, l, al⟩, B, h => fxA ds al B (fxL ds l (ns ++ B) (if hit ds op nm B then h ++ [dix ds nm 0] else h))
def fxL (ds : List S34) : List S29 → List ByteArray → List Int → List Int
 | [], _, h => h
 | e :: l, B, h => fxL ds l B (fx ds e B h)
def fxA (ds : List S34) : List S88 → List ByteArray → List Int → List Int
 | [], _, h => h
 | ⟨_, _, _, ns, e⟩ :: l, B, h => fxA ds l B (fx ds e (ns ++ B) h)
end
mutual
def cost : S29 → Nat
 | ⟨_, _, _, ns, l, al⟩ => 1 + 2 * ns.length + Z4 l + Zy al
def Z4 : List S29 → Nat
 | [] => 0
 | e :: l => cost e + Z4 l
def Zy : List S88 → Nat
 | [] => 0
 | ⟨_, _, _, ns, e⟩ :: l => 2 * ns.length + cost e + Zy l
end
mutual
def okE : S29 → Bool
 | ⟨_, nm, _, ns, l, al⟩ => decide (nm.size ≤ 140737488351232) && nsz ns && okL l && okA al
def okL : List S29 → Bool
 | [] => true
 | e :: l => okE e && okL l
def okA : List S88 → Bool
 | [] => true
 | ⟨_, _, _, ns, e⟩ :: l => nsz ns && okE e && okA l
end
theorem fx_eq (ds : List S34) (e : S29) (B : List ByteArray) (h : List Int) : fx ds e B h = fxA ds e.f5 B (fxL ds e.f4 (e.f3 ++ B) (if hit ds e.f0 e.f1 B then h ++ [dix ds e.f1 0] else h)) := by cases e; simp only [fx]
theorem fxA_cons (ds : List S34) (a : S88) (l : List S88) (B : List ByteArray) (h : List Int) : fxA ds (a :: l) B h = fxA ds l B (fx ds a.f4 (a.f3 ++ B) h) := by cases a; simp only [fxA]
theorem cost_eq (e : S29) : cost e = 1 + 2 * e.f3.length + Z4 e.f4 + Zy e.f5 := by cases e; simp only [cost]
theorem costA_cons (a : S88) (l : List S88) : Zy (a :: l) = 2 * a.f3.length + cost a.f4 + Zy l := by cases a; simp only [Zy]
theorem okE_eq (e : S29) : okE e = (decide (e.f1.size ≤ 140737488351232) && nsz e.f3 && okL e.f4 && okA e.f5) := by cases e; simp only [okE]
theorem okA_cons (a : S88) (l : List S88) : okA (a :: l) = (nsz a.f3 && okE a.f4 && okA l) := by cases a; simp only [okA]
theorem costL_drop {l : List S29} {i : Nat} (h : i < l.length) : Z4 (l.drop i) = cost l[i] + Z4 (l.drop (i + 1)) := by rw [List.drop_eq_getElem_cons h]; simp only [Z4]
theorem costA_drop {l : List S88} {i : Nat} (h : i < l.length) : Zy (l.drop i) = 2 * l[i].f3.length + cost l[i].f4 + Zy (l.drop (i + 1)) := by rw [List.drop_eq_getElem_cons h, costA_cons]
theorem okL_drop {l : List S29} {i : Nat} (h : i < l.length) (ho : okL (l.drop i) = true) : okE l[i] = true ∧ okL (l.drop (i + 1)) = true := by
 rw [List.drop_eq_getElem_cons h] at ho
 simpa [okL] using ho
theorem okA_drop {l : List S88} {i : Nat} (h : i < l.length) (ho : okA (l.drop i) = true) : (nsz l[i].f3 = true ∧ okE l[i].f4 = true) ∧ okA (l.drop (i + 1)) = true := by
 rw [List.drop_eq_getElem_cons h, okA_cons] at ho
 simpa using ho
theorem costL_le {l : List S29} {i : Nat} (h : i < l.length) : cost l[i] ≤ Z4 l := by
 induction l generalizing i with
 | nil => simp at h
 | cons x l ih =>
  simp only [Z4]
  cases i with
  | zero => simp only [List.getElem_cons_zero]; omega
  | succ i => have := ih (i := i) (by simpa using h); simp only [List.getElem_cons_succ]; omega
theorem costA_le {l : List S88} {i : Nat} (h : i < l.length) : 2 * l[i].f3.length + cost l[i].f4 ≤ Zy l := by
 induction l generalizing i with
 | nil => simp at h
 | cons x l ih =>
  rw [costA_cons]
  cases i with
  | zero => simp only [List.getElem_cons_zero]; omega
  | succ i => have := ih (i := i) (by simpa using h); simp only [List.getElem_cons_succ]; omega
def St (W w' : World) (base pb ab hb : Nat) (vd vf : Value) (B : List ByteArray) (out : List Int) (ca ch : Nat) : Prop :=
 ∃ na nh, FS w' base pb ab hb vd vf na nh (cnt B) (memN out) ∧ Mod W w' (FP pb ab hb) ∧ na ≤ ca ∧ nh ≤ ch
theorem St.comp {W w1 w2 : World} {base pb ab hb : Nat} {vd vf : Value} {B : List ByteArray} {out : List Int} {ca ch : Nat} (hm : Mod W w1 (FP pb ab hb)) (h : St w1 w2 base pb ab hb vd vf B out ca ch) : St W w2 base pb ab hb vd vf B out ca ch := by
 obtain ⟨na, nh, hf, hm2, ha, hh⟩ := h
 exact ⟨na, nh, hf, hm.trans hm2 (fun j _ hfp => hfp), ha, hh⟩
theorem St.mono {W w2 : World} {base pb ab hb : Nat} {vd vf : Value} {B : List ByteArray} {out : List Int} {ca ch ca' ch' : Nat} (h : St W w2 base pb ab hb vd vf B out ca ch) (h1 : ca ≤ ca') (h2 : ch ≤ ch') : St W w2 base pb ab hb vd vf B out ca' ch' := by
 obtain ⟨na, nh, hf, hm2, ha, hh⟩ := h
 exact ⟨na, nh, hf, hm2, by omega, by omega⟩
theorem St.below {W w' : World} {base pb ab hb na nh : Nat} {vd vf : Value} {B : List ByteArray} {out : List Int} {ga : ByteArray → Int} {gh : Int → Int} {ca ch : Nat} (h : St W w' base pb ab hb vd vf B out ca ch) (h0 : FS W base pb ab hb vd vf na nh ga gh) (hb0 : base ≤ W.heap.size) : Below base W w' := by
 obtain ⟨na2, nh2, hf, hm2, ha, hh⟩ := h
 exact hm2.below hb0 (fun j _ hj => h0.fge hj)
theorem bind_st {w0 W w1 : World} {pb ab hb na nh : Nat} {vd vf : Value} {B B' : List ByteArray} {out : List Int} (h : FS w1 w0.heap.size pb ab hb vd vf na nh (cnt B) (memN out)) (hm : Mod W w1 (FP pb ab hb)) (hB : Below w0.heap.size w0 w1) (l : List ByteArray) {A : Option Addr} {c : Nat} (hC : Kd.C Kd.string w0 A l.length l) (hNS : nsz l = true) (by_ : Int) (hby : -1 ≤ by_ ∧ by_ ≤ 1) (e : addk (cnt B) by_ l = cnt B') (hml : B.length + l.length ≤ 1000000000000) (hn : na + l.length ≤ 1000000000000) :
  Calls Tryd.prog 43 #[.pointer (some ⟨pb, 0, none⟩), .slice A l.length c, .int .i64 by_] w1 fun e W' => e = .returned (.tuple #[]) ∧ St W W' w0.heap.size pb ab hb vd vf B' out (na + l.length) nh := by
 refine (bind_calls h hB l hC (nsz_all hNS) by_ hby B.length (cnt_bd B) hml hn).mono ?_
 rintro e2 W' ⟨rfl, hF, hM⟩
 exact ⟨rfl, St.comp hm ⟨_, _, e ▸ hF, hM.mono (fun j _ hj => .inr (.inl hj)), Nat.le_refl _, Nat.le_refl _⟩⟩
def one (ds : List S34) (e : S29) (B : List ByteArray) (out : List Int) : List Int := if hit ds e.f0 e.f1 B then out ++ [dix ds e.f1 0] else out
theorem at_e {w0 wr : World} (hB : Below w0.heap.size w0 wr) {A : Option Addr} {l : List S29} (hC : Kd.C k29 w0 A l.length l) (i : Nat) (hi : i < l.length) :
  ∃ ad A3 c3 A4 c4 A5 c5, A = some ad ∧ wr.cell? (ad.add (i * 6)) = some (.int .i64 l[i].f0) ∧ wr.cell? ⟨(ad.add (i * 6)).block, (ad.add (i * 6)).off + 1, none⟩ = some (.string l[i].f1) ∧ wr.cell? ⟨(ad.add (i * 6)).block, (ad.add (i * 6)).off + 2, none⟩ = some (.int .i64 l[i].f2) ∧ wr.cell? ⟨(ad.add (i * 6)).block, (ad.add (i * 6)).off + 3, none⟩ = some (.slice A3 l[i].f3.length c3) ∧ wr.cell? ⟨(ad.add (i * 6)).block, (ad.add (i * 6)).off + 4, none⟩ = some (.slice A4 l[i].f4.length c4) ∧ wr.cell? ⟨(ad.add (i * 6)).block, (ad.add (i * 6)).off + 5, none⟩ = some (.slice A5 l[i].f5.length c5) ∧
   Kd.C Kd.string w0 A3 l[i].f3.length l[i].f3 ∧ Kd.C k29 w0 A4 l[i].f4.length l[i].f4 ∧ Kd.C k88 w0 A5 l[i].f5.length l[i].f5 := by
 obtain ⟨ad, A3, c3, A4, c4, A5, c5, e, h0, h1, h2, h3, h4, h5, _, g3, _, g4, _, g5⟩ := at_T29 hC (i : Int) (by omega) (by omega)
 have hx : ZI l (i : Int) = l[i] := by simp [ZI, hi]
 rw [hx] at h0 h1 h2 h3 h4 h5 g3 g4 g5
 simp only [Int.toNat_natCast] at h0 h1 h2 h3 h4 h5
 have T : ∀ {a : Addr} {u : Value}, w0.cell? a = some u → wr.cell? a = some u := fun h => (hB.cell (World.block_lt_of_cell? _ _ h)).trans h
 exact ⟨ad, A3, c3, A4, c4, A5, c5, e, T h0, T h1, T h2, T h3, T h4, T h5, g3, g4, g5⟩
theorem at_a {w0 wr : World} (hB : Below w0.heap.size w0 wr) {A : Option Addr} {l : List S88} (hC : Kd.C k88 w0 A l.length l) (i : Nat) (hi : i < l.length) :
  ∃ ad A3 c3 B3 d3 B4 d4 B5 d5, A = some ad ∧ wr.cell? (ad.add (i * 10)) = some (.int .i64 l[i].f0) ∧ wr.cell? ⟨(ad.add (i * 10)).block, (ad.add (i * 10)).off + 1, none⟩ = some (.string l[i].f1) ∧ wr.cell? ⟨(ad.add (i * 10)).block, (ad.add (i * 10)).off + 2, none⟩ = some (.int .i64 l[i].f2) ∧ wr.cell? ⟨(ad.add (i * 10)).block, (ad.add (i * 10)).off + 3, none⟩ = some (.slice A3 l[i].f3.length c3) ∧ wr.cell? ⟨(ad.add (i * 10)).block, (ad.add (i * 10)).off + 4, none⟩ = some (.int .i64 l[i].f4.f0) ∧ wr.cell? ⟨(ad.add (i * 10)).block, (ad.add (i * 10)).off + 5, none⟩ = some (.string l[i].f4.f1) ∧ wr.cell? ⟨(ad.add (i * 10)).block, (ad.add (i * 10)).off + 6, none⟩ = some (.int .i64 l[i].f4.f2) ∧ wr.cell? ⟨(ad.add (i * 10)).block, (ad.add (i * 10)).off + 7, none⟩ = some (.slice B3 l[i].f4.f3.length d3) ∧ wr.cell? ⟨(ad.add (i * 10)).block, (ad.add (i * 10)).off + 8, none⟩ = some (.slice B4 l[i].f4.f4.length d4) ∧ wr.cell? ⟨(ad.add (i * 10)).block, (ad.add (i * 10)).off + 9, none⟩ = some (.slice B5 l[i].f4.f5.length d5) ∧
   Kd.C Kd.string w0 A3 l[i].f3.length l[i].f3 ∧ Kd.C Kd.string w0 B3 l[i].f4.f3.length l[i].f4.f3 ∧ Kd.C k29 w0 B4 l[i].f4.f4.length l[i].f4.f4 ∧ Kd.C k88 w0 B5 l[i].f4.f5.length l[i].f4.f5 := by
 obtain ⟨ad, A3, c3, B3, d3, B4, d4, B5, d5, e, h0, h1, h2, h3, h4, h5, h6, h7, h8, h9, _, g3, _, g4, _, g5, _, g6⟩ := at_T88 hC (i : Int) (by omega) (by omega)
 have hx : Zc l (i : Int) = l[i] := by simp [Zc, hi]
 rw [hx] at h0 h1 h2 h3 h4 h5 h6 h7 h8 h9 g3 g4 g5 g6
 simp only [Int.toNat_natCast] at h0 h1 h2 h3 h4 h5 h6 h7 h8 h9
 have T : ∀ {a : Addr} {u : Value}, w0.cell? a = some u → wr.cell? a = some u := fun h => (hB.cell (World.block_lt_of_cell? _ _ h)).trans h
 exact ⟨ad, A3, c3, B3, d3, B4, d4, B5, d5, e, T h0, T h1, T h2, T h3, T h4, T h5, T h6, T h7, T h8, T h9, g3, g4, g5, g6⟩
variable {ds : List S34} {Ad Af : Option Addr} {nd cd cf : Nat}
def XC (w0 : World) (ds : List S34) (Ad Af : Option Addr) (nd cd cf : Nat) (e : S29) : Prop := ∀ {W : World} {pb ab hb na nh : Nat} {B : List ByteArray} {out : List Int}, FS W w0.heap.size pb ab hb (.slice Ad nd cd) (.slice Af ds.length cf) na nh (cnt B) (memN out) → Below w0.heap.size w0 W → okE e = true → B.length + cost e ≤ 100000000000 → na + cost e ≤ 100000000000 → nh + cost e ≤ 100000000000 →
  ∀ {A3 A4 A5 : Option Addr} {c3 c4 c5 : Nat}, Kd.C Kd.string w0 A3 e.f3.length e.f3 → Kd.C k29 w0 A4 e.f4.length e.f4 → Kd.C k88 w0 A5 e.f5.length e.f5 →
  Calls Tryd.prog 44 #[.pointer (some ⟨pb, 0, none⟩), .agg #[.int .i64 e.f0, .string e.f1, .int .i64 e.f2, .slice A3 e.f3.length c3, .slice A4 e.f4.length c4, .slice A5 e.f5.length c5]] W fun r W' => r = .returned (.tuple #[]) ∧ St W W' w0.heap.size pb ab hb (.slice Ad nd cd) (.slice Af ds.length cf) B (fx ds e B out) (na + cost e) (nh + cost e)
theorem St.blk {W w' : World} {base pb ab hb : Nat} {vd vf : Value} {B : List ByteArray} {out : List Int} {ca ch b : Nat} {o : Obj} (h : St W w' base pb ab hb vd vf B out ca ch) (hb' : W.heap[b]? = some o) (hn : ¬ FP pb ab hb b) : w'.heap[b]? = some o := by
 obtain ⟨na2, nh2, hf, hm2, _⟩ := h
 exact (hm2.block b (Array.getElem?_eq_some_iff.1 hb').1 hn).trans hb'
theorem St.alloc {W w' w2 : World} {base pb ab hb : Nat} {vd vf : Value} {B : List ByteArray} {out : List Int} {ca ch : Nat} (h : St W w' base pb ab hb vd vf B out ca ch) (hb2 : Below w'.heap.size w' w2) : St W w2 base pb ab hb vd vf B out ca ch := by
 obtain ⟨na2, nh2, hf, hm2, ha, hh⟩ := h
 exact ⟨na2, nh2, hf.below hb2, hm2.trans (Mod.of_below hb2 (FP pb ab hb)) (fun _ _ hj => hj), ha, hh⟩
theorem step_x {w0 Wa w5 : World} {pb ab hb na nh : Nat} {ga : ByteArray → Int} {gh : Int → Int} {B : List ByteArray} {o : List Int} {ca ch : Nat} {e : S29} (hx : XC w0 ds Ad Af nd cd cf e) (hF : FS Wa w0.heap.size pb ab hb (.slice Ad nd cd) (.slice Af ds.length cf) na nh ga gh) (hBa : Below w0.heap.size w0 Wa) (hsa : w0.heap.size ≤ Wa.heap.size) (hst : St Wa w5 w0.heap.size pb ab hb (.slice Ad nd cd) (.slice Af ds.length cf) B o ca ch) (hok : okE e = true)
  (h1 : B.length + cost e ≤ 100000000000) (h2 : ca + cost e ≤ 100000000000) (h3 : ch + cost e ≤ 100000000000) {A3 A4 A5 : Option Addr} (g3 : Kd.C Kd.string w0 A3 e.f3.length e.f3) (g4 : Kd.C k29 w0 A4 e.f4.length e.f4) (g5 : Kd.C k88 w0 A5 e.f5.length e.f5) (c3 c4 c5 : Nat) :
  Calls Tryd.prog 44 #[.pointer (some ⟨pb, 0, none⟩), .agg #[.int .i64 e.f0, .string e.f1, .int .i64 e.f2, .slice A3 e.f3.length c3, .slice A4 e.f4.length c4, .slice A5 e.f5.length c5]] w5 fun r W' => r = .returned (.tuple #[]) ∧ St Wa W' w0.heap.size pb ab hb (.slice Ad nd cd) (.slice Af ds.length cf) B (fx ds e B o) (ca + cost e) (ch + cost e) := by
 have hbw := hBa.trans (St.below hst hF hsa)
 obtain ⟨na2, nh2, hf, hm, ha, hh⟩ := hst
 refine (hx hf hbw hok h1 (by omega) (by omega) g3 g4 g5).mono ?_
 rintro r W' ⟨rfl, h⟩
 exact ⟨rfl, (St.comp hm h).mono (by omega) (by omega)⟩
theorem step_b {w0 Wa w5 : World} {pb ab hb na nh : Nat} {vd vf : Value} {ga : ByteArray → Int} {gh : Int → Int} {B : List ByteArray} {o : List Int} {ca ch : Nat} (hF : FS Wa w0.heap.size pb ab hb vd vf na nh ga gh) (hBa : Below w0.heap.size w0 Wa) (hsa : w0.heap.size ≤ Wa.heap.size) (l : List ByteArray) (hst : St Wa w5 w0.heap.size pb ab hb vd vf (l ++ B) o ca ch) {A3 : Option Addr} (g3 : Kd.C Kd.string w0 A3 l.length l) (hok : nsz l = true) (c3 : Nat)
  (h1 : (l ++ B).length + l.length ≤ 1000000000000) (h2 : ca + l.length ≤ 1000000000000) :
  Calls Tryd.prog 43 #[.pointer (some ⟨pb, 0, none⟩), .slice A3 l.length c3, .int .i64 (-1)] w5 fun r W' => r = .returned (.tuple #[]) ∧ St Wa W' w0.heap.size pb ab hb vd vf B o (ca + l.length) ch := by
 have hbw := hBa.trans (St.below hst hF hsa)
 obtain ⟨na2, nh2, hf, hm, ha, hh⟩ := hst
 refine (bind_st hf hm hbw l g3 hok (-1) (by decide) (addk_out l B) h1 (by omega)).mono ?_
 rintro r W' ⟨rfl, h⟩
 exact ⟨rfl, h.mono (by omega) (by omega)⟩
set_option maxHeartbeats 16000000 in
set_option maxRecDepth 100000 in
theorem expr_calls {w0 : World} (hCd : Kd.C k34 w0 Af ds.length ds) : ∀ (n : Nat) (e : S29), cost e ≤ n → XC w0 ds Ad Af nd cd cf e := by
 intro n
 induction n with
 | zero => intro e hc; rw [cost_eq] at hc; omega
 | succ n ih =>
  intro e hc W pb ab hb na nh B out h hB0 hok bB ba bh A3 A4 A5 c3 c4 c5 hC3 hC4 hC5
  have hceq := cost_eq e
  rw [okE_eq] at hok
  simp only [Bool.and_eq_true, decide_eq_true_eq] at hok
  obtain ⟨⟨⟨hns0, hok3⟩, hok4⟩, hok5⟩ := hok
  have hns := Qb.mk (show NS e.f1 from hns0)
  have hok3 := Qb.mk hok3
  have hok4 := Qb.mk hok4
  have hok5 := Qb.mk hok5
  have hl4 := hC4.2.1
  have hl5 := hC5.2.1
  have hC3 := Qb.mk hC3
  have hC4 := Qb.mk hC4
  have hC5 := Qb.mk hC5
  have hCd := Qb.mk hCd
  have hbl := Qb.mk (Qi (Qd (Below.refl W.heap.size W) (.cells #[.int .i64 e.f0, .string e.f1, .int .i64 e.f2, .slice A3 e.f3.length c3, .slice A4 e.f4.length c4, .slice A5 e.f5.length c5] 29)))
  have hbx : Qb ((W.alloc (.cells #[.int .i64 e.f0, .string e.f1, .int .i64 e.f2, .slice A3 e.f3.length c3, .slice A4 e.f4.length c4, .slice A5 e.f5.length c5] 29)).drew.heap[W.heap.size]? = some (.cells #[.int .i64 e.f0, .string e.f1, .int .i64 e.f2, .slice A3 e.f3.length c3, .slice A4 e.f4.length c4, .slice A5 e.f5.length c5] 29 (0, 0))) := ⟨Qv W _⟩
  have hF1 := Qb.mk (h.below hbl.out)
  have hB1 := Qb.mk (hB0.trans (hbl.out.mono hB0.size))
  have hnb := Qb.mk (show ¬ FP pb ab hb W.heap.size from fun hh => by have := h.lt hh; omega)
  have hcost := Qb.mk hceq
  have hbnd := Qb.mk (And.intro hc (And.intro bB (And.intro ba bh)))
  have hone : Qb (fx ds e B out = fxA ds e.f5 B (fxL ds e.f4 (e.f3 ++ B) (one ds e B out))) := ⟨fx_eq ds e B out⟩
  have K0 := Qb.mk ((Qa hbx.out 0).trans rfl)
  have K1 := Qb.mk ((Qa hbx.out 1).trans rfl)
  have KA := Qb.mk hF1.out.cells.2.2.1
  have KL := Qb.mk (hF1.out.am.look hns.out)
  clear h hB0 hns0 hceq hc bB ba bh
  go_enter Tryd.func44, Tryd.ntmps44
  go_wp2
  by_cases y1 : e.f0 = 1
  ·have q1 : (e.f0 == 1) = true := by rw [y1]; rfl
   by_cases y2 : isIn B e.f1 = false
   ·have q2 : (cnt B e.f1 == 0) = true := by rw [(cnt_zero B e.f1).2 y2]; rfl
    refine QZ (n := 13) (S := fun w' => w'.cell? ⟨W.heap.size, 0, none⟩ = some (.int .i64 e.f0) ∧ w'.cell? ⟨W.heap.size, 1, none⟩ = some (.string e.f1) ∧ w'.cell? ⟨pb, 2, none⟩ = some (.map (some ab)) ∧ (Instr.lookup 79 (.map (some ab)) (.string e.f1) false).run Tryd.prog w' = .ok (.int .i64 (cnt B e.f1)) w') (ds := []) (bm 13 0) (by kernel_rfl) rfl rfl ⟨K0.out, K1.out, KA.out, KL.out⟩ (fun hHeld => ?_)
    generalize (W.alloc (.cells #[.int .i64 e.f0, .string e.f1, .int .i64 e.f2, .slice A3 e.f3.length c3, .slice A4 e.f4.length c4, .slice A5 e.f5.length c5] 29)).drew = W9 at *
    refine Q4 (i := 0) (N := some 10) (v := ?_) (a' := ?_) (bm 13 1) rfl rfl (by kernel_rfl) (fun _ _ _ h => h) (Or.inl ⟨by rfl, ?_⟩) ?_ ?_
    rotate_left
    ·intro w'
     go_simp
     with_reducible rfl
    rotate_left
    ·simp only [Act.put, sA, sB, sC, Qk, Ql]
     rfl
    refine QE (i := 1) (N := some 11) (v := ?_) (a' := ?_) (bm 13 3) rfl rfl (by kernel_rfl) (fun _ _ _ h => h) (Or.inl ⟨by rfl, ?_⟩) hHeld ?_ ?_
    rotate_left
    ·rintro w' ⟨s0, s1, s2, s3⟩
     go_simp
     with_reducible rfl
    rotate_left
    ·simp only [Act.put, sA, sB, sC, Qk, Ql]
     rfl
    refine Q4 (i := 2) (N := some 12) (v := ?_) (a' := ?_) (bm 13 7) rfl rfl (by kernel_rfl) (fun _ _ _ h => h) (Or.inl ⟨by rfl, ?_⟩) ?_ ?_
    rotate_left
    ·intro w'
     go_simp
     with_reducible rfl
    rotate_left
    ·simp only [Act.put, sA, sB, sC, Qk, Ql]
     rfl
    refine Q4 (i := 3) (N := some 13) (v := ?_) (a' := ?_) (bm 13 15) rfl rfl (by kernel_rfl) (fun _ _ _ h => h) (Or.inl ⟨by rfl, ?_⟩) ?_ ?_
    rotate_left
    ·intro w'
     go_simp
     with_reducible rfl
    rotate_left
    ·simp only [Act.put, sA, sB, sC, Qk, Ql]
     rfl
    refine Q4 (i := 4) (N := some 14) (v := ?_) (a' := ?_) (bm 13 31) rfl rfl (by kernel_rfl) (fun _ _ _ h => h) (Or.inl ⟨by rfl, ?_⟩) ?_ ?_
    rotate_left
    ·intro w'
     go_simp
     with_reducible rfl
    rotate_left
    ·simp only [Act.put, sA, sB, sC, Qk, Ql]
     rfl
    refine Q4 (i := 5) (N := some 15) (v := ?_) (a' := ?_) (bm 13 63) rfl rfl (by kernel_rfl) (fun _ _ _ h => h) (Or.inl ⟨by rfl, ?_⟩) ?_ ?_
    rotate_left
    ·intro w'
     go_simp
     with_reducible rfl
    rotate_left
    ·simp only [Act.put, sA, sB, sC, Qk, Ql]
     rfl
    refine Q4 (i := 6) (N := some 16) (v := ?_) (a' := ?_) (bm 13 127) rfl rfl (by kernel_rfl) (fun _ _ _ h => h) (Or.inl ⟨by rfl, ?_⟩) ?_ ?_
    rotate_left
    ·intro w'
     go_simp
     with_reducible rfl
    rotate_left
    ·simp only [Act.put, sA, sB, sC, Qk, Ql]
     rfl
    refine Q4 (i := 8) (N := some 18) (v := ?_) (a' := ?_) (bm 13 383) rfl rfl (by kernel_rfl) (fun _ _ _ h => h) (Or.inl ⟨by rfl, ?_⟩) ?_ ?_
    rotate_left
    ·intro w'
     go_simp
     with_reducible rfl
    rotate_left
    ·simp only [Act.put, sA, sB, sC, Qk, Ql]
     rfl
    refine QE (i := 7) (N := some 17) (v := ?_) (a' := ?_) (bm 13 511) rfl rfl (by kernel_rfl) (fun _ _ _ h => h) (Or.inl ⟨by rfl, ?_⟩) hHeld ?_ ?_
    rotate_left
    ·rintro w' ⟨s0, s1, s2, s3⟩
     go_simp
     with_reducible rfl
    rotate_left
    ·simp only [Act.put, sA, sB, sC, Qk, Ql]
     rfl
    refine QE (i := 9) (N := some 19) (v := ?_) (a' := ?_) (bm 13 1023) rfl rfl (by kernel_rfl) (fun _ _ _ h => h) (Or.inl ⟨by rfl, ?_⟩) hHeld ?_ ?_
    rotate_left
    ·rintro w' ⟨s0, s1, s2, s3⟩
     go_simp
     with_reducible rfl
    rotate_left
    ·simp only [Act.put, sA, sB, sC, Qk, Ql]
     rfl
    refine QE (i := 10) (N := some 20) (v := ?_) (a' := ?_) (bm 13 2047) rfl rfl (by kernel_rfl) (fun _ _ _ h => h) (Or.inl ⟨by rfl, ?_⟩) hHeld ?_ ?_
    rotate_left
    ·rintro w' ⟨s0, s1, s2, s3⟩
     go_simp
     with_reducible rfl
    rotate_left
    ·simp only [Act.put, sA, sB, sC, Qk, Ql]
     rfl
    refine Q4 (i := 11) (N := some 21) (v := ?_) (a' := ?_) (bm 13 4095) rfl rfl (by kernel_rfl) (fun _ _ _ h => h) (Or.inl ⟨by rfl, ?_⟩) ?_ ?_
    rotate_left
    ·intro w'
     go_simp
     with_reducible rfl
    rotate_left
    ·simp only [Act.put, sA, sB, sC, Qk, Ql]
     rfl
    refine Q4 (i := 12) (N := some 22) (v := ?_) (a' := ?_) (bm 13 8191) rfl rfl (by kernel_rfl) (fun _ _ _ h => h) (Or.inl ⟨by rfl, ?_⟩) ?_ ?_
    rotate_left
    ·intro w'
     go_simp
     with_reducible rfl
    rotate_left
    ·simp only [Act.put, sA, sB, sC, Qk, Ql]
     rfl
    refine Zx (by kernel_rfl) ?_
    have hF9 := hF1
    have hB9 := hB1
    have hbl9 := hbl
    have hbx9 := hbx
    have hnb9 := hnb
    have hsz9 : Qb (w0.heap.size ≤ W9.heap.size) := ⟨hB9.out.size⟩
    have hF2 : Qb (FS W9.drew w0.heap.size pb ab hb (.slice Ad nd cd) (.slice Af ds.length cf) na nh (cnt B) (memN out)) := ⟨hF9.out.below (Qi (Below.refl _ _))⟩
    have K1' : Qb (W9.drew.cell? ⟨W.heap.size, 1, none⟩ = some (.string e.f1)) := ⟨K1.out⟩
    have KV : Qb (W9.drew.cell? ⟨pb, 0, none⟩ = some (.slice Ad nd cd)) := ⟨hF2.out.cells.1⟩
    have KF : Qb (W9.drew.cell? ⟨pb, 1, none⟩ = some (.slice Af ds.length cf)) := ⟨hF2.out.cells.2.1⟩
    have hb10 : Qb (Below W9.heap.size W9 W9.drew) := ⟨Qi (Below.refl _ _)⟩
    have hBw10 : Qb (Below w0.heap.size w0 W9.drew) := ⟨hB9.out.trans (hb10.out.mono hsz9.out)⟩
    clear hF1 hB1 hbl hbx hnb K0 K1 KA KL hHeld
    go_wp2
    refine QZ (n := 12) (S := fun w' => w'.cell? ⟨W.heap.size, 1, none⟩ = some (.string e.f1) ∧ w'.cell? ⟨pb, 0, none⟩ = some (.slice Ad nd cd) ∧ w'.cell? ⟨pb, 1, none⟩ = some (.slice Af ds.length cf)) (ds := []) (bm 12 0) (by kernel_rfl) rfl rfl ⟨K1'.out, KV.out, KF.out⟩ (fun hHeld => ?_)
    generalize W9.drew = W10 at *
    refine Q4 (i := 0) (N := some 24) (v := ?_) (a' := ?_) (bm 12 1) rfl rfl (by kernel_rfl) (fun _ _ _ h => h) (Or.inl ⟨by rfl, ?_⟩) ?_ ?_
    rotate_left
    ·intro w'
     go_simp
     with_reducible rfl
    rotate_left
    ·simp only [Act.put, sA, sB, sC, Qk, Ql]
     rfl
    refine Q4 (i := 1) (N := some 25) (v := ?_) (a' := ?_) (bm 12 3) rfl rfl (by kernel_rfl) (fun _ _ _ h => h) (Or.inl ⟨by rfl, ?_⟩) ?_ ?_
    rotate_left
    ·intro w'
     go_simp
     with_reducible rfl
    rotate_left
    ·simp only [Act.put, sA, sB, sC, Qk, Ql]
     rfl
    refine Q4 (i := 2) (N := some 26) (v := ?_) (a' := ?_) (bm 12 7) rfl rfl (by kernel_rfl) (fun _ _ _ h => h) (Or.inl ⟨by rfl, ?_⟩) ?_ ?_
    rotate_left
    ·intro w'
     go_simp
     with_reducible rfl
    rotate_left
    ·simp only [Act.put, sA, sB, sC, Qk, Ql]
     rfl
    refine Q4 (i := 4) (N := some 28) (v := ?_) (a' := ?_) (bm 12 23) rfl rfl (by kernel_rfl) (fun _ _ _ h => h) (Or.inl ⟨by rfl, ?_⟩) ?_ ?_
    rotate_left
    ·intro w'
     go_simp
     with_reducible rfl
    rotate_left
    ·simp only [Act.put, sA, sB, sC, Qk, Ql]
     rfl
    refine QE (i := 3) (N := some 27) (v := ?_) (a' := ?_) (bm 12 31) rfl rfl (by kernel_rfl) (fun _ _ _ h => h) (Or.inl ⟨by rfl, ?_⟩) hHeld ?_ ?_
    rotate_left
    ·rintro w' ⟨s0, s1, s2⟩
     go_simp
     with_reducible rfl
    rotate_left
    ·simp only [Act.put, sA, sB, sC, Qk, Ql]
     rfl
    refine QE (i := 5) (N := some 29) (v := ?_) (a' := ?_) (bm 12 63) rfl rfl (by kernel_rfl) (fun _ _ _ h => h) (Or.inl ⟨by rfl, ?_⟩) hHeld ?_ ?_
    rotate_left
    ·rintro w' ⟨s0, s1, s2⟩
     go_simp
     with_reducible rfl
    rotate_left
    ·simp only [Act.put, sA, sB, sC, Qk, Ql]
     rfl
    refine QQ (i := 6) (N := some 30) (bm 12 127) rfl rfl (by kernel_rfl) (by decide) (fun K hK => ?_)
    refine QI Tryd.func60 (by kernel_rfl) rfl #[.agg #[.slice Ad nd cd, .slice Af ds.length cf], .string e.f1] (by rfl) rfl rfl (by simp only [List.map_toArray, List.map_cons, List.map_nil]; rfl) ?_
    (with_reducible refine (def_calls hBw10.out ds e.f1 (.slice Ad nd cd) ⟨_, _, _, rfl⟩ hCd.out).mono ?_)
    rintro e w2 ⟨rfl, hbq⟩
    refine ⟨_, rfl, ?_⟩
    have hbD2 := Qb.mk hbq
    refine hK.out _ _ ⟨(hbq.cell (World.block_lt_of_cell? _ _ (hHeld.1))).trans (hHeld.1), (hbq.cell (World.block_lt_of_cell? _ _ (hHeld.2.1))).trans (hHeld.2.1), (hbq.cell (World.block_lt_of_cell? _ _ (hHeld.2.2))).trans (hHeld.2.2)⟩ (fun hHeld => ?_)
    clear hK K
    refine Qq (a' := ?_) ?_ ?_
    rotate_left
    ·show Act.put _ (some 30) _ = _
     simp only [Act.put, sA, sB, sC, Qk, Ql]
     rfl
    refine Q4 (i := 7) (N := some 23) (v := ?_) (a' := ?_) (bm 12 255) rfl rfl (by kernel_rfl) (fun _ _ _ h => h) (Or.inl ⟨by rfl, ?_⟩) ?_ ?_
    rotate_left
    ·intro w'
     go_simp
     with_reducible rfl
    rotate_left
    ·simp only [Act.put, sA, sB, sC, Qk, Ql]
     rfl
    refine Q4 (i := 8) (N := some 31) (v := ?_) (a' := ?_) (bm 12 511) rfl rfl (by kernel_rfl) (fun _ _ _ h => h) (Or.inl ⟨by rfl, ?_⟩) ?_ ?_
    rotate_left
    ·intro w'
     go_simp
     with_reducible rfl
    rotate_left
    ·simp only [Act.put, sA, sB, sC, Qk, Ql]
     rfl
    refine Q4 (i := 9) (N := some 32) (v := ?_) (a' := ?_) (bm 12 1023) rfl rfl (by kernel_rfl) (fun _ _ _ h => h) (Or.inl ⟨by rfl, ?_⟩) ?_ ?_
    rotate_left
    ·intro w'
     go_simp
     with_reducible rfl
    rotate_left
    ·simp only [Act.put, sA, sB, sC, Qk, Ql]
     rfl
    refine Q4 (i := 10) (N := some 4) (v := ?_) (a' := ?_) (bm 12 2047) rfl rfl (by kernel_rfl) (fun _ _ _ h => h) (Or.inl ⟨by rfl, ?_⟩) ?_ ?_
    rotate_left
    ·intro w'
     go_simp
     with_reducible rfl
    rotate_left
    ·simp only [Act.put, sA, sB, sC, Qk, Ql]
     rfl
    refine Q4 (i := 11) (N := some 5) (v := ?_) (a' := ?_) (bm 12 4095) rfl rfl (by kernel_rfl) (fun _ _ _ h => h) (Or.inl ⟨by rfl, ?_⟩) ?_ ?_
    rotate_left
    ·intro w'
     go_simp
     with_reducible rfl
    rotate_left
    ·simp only [Act.put, sA, sB, sC, Qk, Ql]
     rfl
    refine Zx (by kernel_rfl) ?_
    clear hHeld
    have hbD := dix_bd ds e.f1 0
    have hlD := hCd.out.2.1
    have hb9w : Qb (Below W9.heap.size W9 w2) := ⟨hb10.out.trans (hbD2.out.mono hb10.out.size)⟩
    have hFw : Qb (FS w2 w0.heap.size pb ab hb (.slice Ad nd cd) (.slice Af ds.length cf) na nh (cnt B) (memN out)) := ⟨hF2.out.below hbD2.out⟩
    have hbxw : Qb (w2.heap[W.heap.size]? = some (.cells #[.int .i64 e.f0, .string e.f1, .int .i64 e.f2, .slice A3 e.f3.length c3, .slice A4 e.f4.length c4, .slice A5 e.f5.length c5] 29 (0, 0))) := ⟨Qc hbx9.out hb9w.out⟩
    clear K1' KV KF
    by_cases y3 : 0 ≤ dix ds e.f1 0
    ·have ho1 : one ds e B out = out ++ [dix ds e.f1 0] := by unfold one hit; rw [if_pos (by simp [y1, y2, y3])]
     have hwf : WF (dix ds e.f1 0) := ⟨by omega, by omega⟩
     obtain ⟨W7, hst7, hM7, hg7⟩ := hFw.out.hm.store (by have := hbnd.out; unfold maxLen; omega) hwf 1
     rw [memN_upd, ← ho1] at hM7
     have hFr := Qb.mk (hFw.out.putH hM7 hg7)
     have hc3 := hFw.out.cells.2.2.2
     have hMr : Qb (Mod W9 W7 (FP pb ab hb)) := ⟨(Mod.of_below hb9w.out (FP pb ab hb)).trans (Mod.of_grown hg7) (fun j _ hj => .inr (.inr hj))⟩
     have hBr : Qb (Below w0.heap.size w0 W7) := ⟨hB9.out.trans (hMr.out.below hsz9.out (fun j _ hj => hF9.out.fge hj))⟩
     have hbxc := Qb.mk ((hg7.block W.heap.size (Array.getElem?_eq_some_iff.1 hbxw.out).1 (fun e => hnb9.out (.inr (.inr (Option.some.inj e))))).trans hbxw.out)
     have hnh : Qb (nh + 1 ≤ nh + 1) := ⟨Nat.le_refl _⟩
     rw [if_neg (show ¬ dix ds e.f1 0 < 0 by omega), decide_eq_true y3]
     clear hwf hM7 hg7 ho1 hbD hlD y3 y1 y2
     generalize dix ds e.f1 0 = kx at *
     obtain ⟨hn1, bB, ba, bh⟩ := hbnd.out
     have hceq := hcost.out
     have hx3 := (Qa hbxc.out 3).trans rfl
     have CB := bind_st hFr.out hMr.out hBr.out e.f3 hC3.out hok3.out (c := c3) 1 (by decide) (addk_in e.f3 B) (by omega) (by omega)
     go_wp2_with (first | (go_at_call 43; go_loud (with_reducible refine CB.mono ?_); rintro r w2 ⟨rfl, hst2⟩; have HS2 := Qb.mk hst2; have hx4 := (Qa (St.blk hst2 hbx9.out hnb9.out) 4).trans rfl; clear hst2 CB hx3))
     clear hx4
     go_loopg [46] (e.f4.length + 1) (fun kq v46 w' => ∃ (i : Nat) (o : List Int) (ca ch : Nat), v46 = .int .i64 (i : Int) ∧ i + kq = e.f4.length + 1 ∧ 1 ≤ kq ∧ Qb (fxL ds (e.f4.drop i) (e.f3 ++ B) o = fxL ds e.f4 (e.f3 ++ B) (one ds e B out)) ∧ Qb (okL (e.f4.drop i) = true) ∧ Qb (St W9 w' w0.heap.size pb ab hb (.slice Ad nd cd) (.slice Af ds.length cf) (e.f3 ++ B) o ca ch) ∧ Qb (ca + Z4 (e.f4.drop i) ≤ na + e.f3.length + Z4 e.f4 ∧ ch + Z4 (e.f4.drop i) ≤ nh + 1 + Z4 e.f4))
     case atStart => exact ⟨0, one ds e B out, na + e.f3.length, nh + 1, rfl, by omega, by omega, ⟨rfl⟩, hok4, ⟨HS2.out.mono (Nat.le_refl _) hnh.out⟩, ⟨by simp, by simp⟩⟩
     case round =>
      obtain ⟨i, o, ca, ch, rfl, hi, hk, hs, hol, hst, hbd⟩ := hrel
      by_cases hlt : i < e.f4.length
      ·have hBw := hB9.out.trans (St.below hst.out hF9.out hsz9.out)
       obtain ⟨ad, X3, d3, X4, d4, X5, d5, rfl, hv0, hv1, hv2, hv3, hv4, hv5, g3, g4, g5⟩ := at_e hBw hC4.out i hlt
       have p0 : (0 : Int) ≤ (i : Int) := by omega
       have q0 : (i : Int) < (e.f4.length : Int) := by omega
       have q1 : decide ((i : Int) < (e.f4.length : Int)) = true := decide_eq_true q0
       have hdr := costL_drop hlt
       have hcl := costL_le hlt
       have hod := okL_drop hlt hol.out
       have hsd : Qb (fxL ds (e.f4.drop (i + 1)) (e.f3 ++ B) (fx ds e.f4[i] (e.f3 ++ B) o) = fxL ds e.f4 (e.f3 ++ B) (one ds e B out)) := ⟨by rw [← hs.out, List.drop_eq_getElem_cons hlt]; simp only [fxL]⟩
       have hb2 := hbd.out
       generalize e.f4[i] = x at *
       have hal := Qd (Below.refl wr.heap.size wr) (.cells #[.int .i64 x.f0, .string x.f1, .int .i64 x.f2, .slice X3 x.f3.length d3, .slice X4 x.f4.length d4, .slice X5 x.f5.length d5] 29)
       have CX := step_x (ih x (by omega)) hF9.out hB9.out hsz9.out (hst.out.alloc hal) hod.1 (by rw [List.length_append]; omega) (by omega) (by omega) g3 g4 g5 d3 d4 d5
       have hbb := Qb.mk (And.intro hdr hb2)
       have hod2 := Qb.mk hod.2
       clear hBw g3 g4 g5 hdr hcl hod hb2 hal hceq hn1 bB ba bh
       go_wp2_with (first | (go_at_call 44; go_loud (with_reducible refine CX.mono ?_); rintro r w3 ⟨rfl, hst3⟩; have HS3 := Qb.mk hst3; clear hst3 CX))
       go_roundg (gk - 1)
       case measure => omega
       case rel => exact ⟨i + 1, fx ds x (e.f3 ++ B) o, ca + cost x, ch + cost x, by go_num, by omega, by omega, hsd, hod2, HS3, ⟨by have := hbb.out; omega, by have := hbb.out; omega⟩⟩
      ·have q1 : decide ((i : Int) < (e.f4.length : Int)) = false := decide_eq_false (by omega)
       have hd0 : e.f4.drop i = [] := List.drop_eq_nil_of_le (by omega)
       have hso : o = fxL ds e.f4 (e.f3 ++ B) (one ds e B out) := by rw [← hs.out, hd0]; simp only [fxL]
       have hb2 := hbd.out
       rw [hd0] at hb2
       simp only [Z4, Nat.add_zero] at hb2
       have hBw := hB9.out.trans (St.below hst.out hF9.out hsz9.out)
       have hx3 := (Qa (St.blk hst.out hbx9.out hnb9.out) 3).trans rfl
       have CB := step_b hF9.out hB9.out hsz9.out e.f3 hst.out hC3.out hok3.out c3 (by rw [List.length_append]; omega) (by omega)
       have hb3 := Qb.mk hb2
       clear hbd hb2 hd0 hBw hs hol hst hceq hn1 bB ba bh
       go_wp2_with (first | (go_at_call 43; go_loud (with_reducible refine CB.mono ?_); rintro r w4 ⟨rfl, hst4⟩; have HS4 := Qb.mk hst4; have hx5 := (Qa (St.blk hst4 hbx9.out hnb9.out) 5).trans rfl; clear hst4 CB hx3))
       clear hx5
       go_loopg [61] (e.f5.length + 1) (fun kq v61 w' => ∃ (i : Nat) (o2 : List Int) (ca3 ch3 : Nat), v61 = .int .i64 (i : Int) ∧ i + kq = e.f5.length + 1 ∧ 1 ≤ kq ∧ Qb (fxA ds (e.f5.drop i) B o2 = fxA ds e.f5 B o) ∧ Qb (okA (e.f5.drop i) = true) ∧ Qb (St W9 w' w0.heap.size pb ab hb (.slice Ad nd cd) (.slice Af ds.length cf) B o2 ca3 ch3) ∧ Qb (ca3 + Zy (e.f5.drop i) ≤ ca + e.f3.length + Zy e.f5 ∧ ch3 + Zy (e.f5.drop i) ≤ ch + Zy e.f5))
       case atStart => exact ⟨0, o, ca + e.f3.length, ch, rfl, by omega, by omega, ⟨rfl⟩, hok5, HS4, ⟨by simp, by simp⟩⟩
       case round =>
        obtain ⟨i3, o2, ca3, ch3, rfl, hi3, hk3, hs3, hol3, hst3, hbd3⟩ := hrel
        by_cases hlt3 : i3 < e.f5.length
        ·have hBw := hB9.out.trans (St.below hst3.out hF9.out hsz9.out)
         obtain ⟨ad, Y3, d3, X3, e3, X4, e4, X5, e5, rfl, hv0, hv1, hv2, hv3, hv4, hv5, hv6, hv7, hv8, hv9, g3, g4, g5, g6⟩ := at_a hBw hC5.out i3 hlt3
         have p0 : (0 : Int) ≤ (i3 : Int) := by omega
         have q0 : (i3 : Int) < (e.f5.length : Int) := by omega
         have q1 : decide ((i3 : Int) < (e.f5.length : Int)) = true := decide_eq_true q0
         have hdr := costA_drop hlt3
         have hcl := costA_le hlt3
         have hod := okA_drop hlt3 hol3.out
         have hsd : Qb (fxA ds (e.f5.drop (i3 + 1)) B (fx ds e.f5[i3].f4 (e.f5[i3].f3 ++ B) o2) = fxA ds e.f5 B o) := ⟨by rw [← hs3.out, List.drop_eq_getElem_cons hlt3, fxA_cons]⟩
         have hb2 := hbd3.out
         generalize e.f5[i3] = a at *
         obtain ⟨na5, nh5, hF5, hM5, h5a, h5h⟩ := hst3.out
         have hal := Qd (Below.refl wr.heap.size wr) (.cells #[.int .i64 a.f0, .string a.f1, .int .i64 a.f2, .slice Y3 a.f3.length d3, .int .i64 a.f4.f0, .string a.f4.f1, .int .i64 a.f4.f2, .slice X3 a.f4.f3.length e3, .slice X4 a.f4.f4.length e4, .slice X5 a.f4.f5.length e5] 88)
         have hBs : w0.heap.size ≤ wr.heap.size := hBw.size
         have hMa := hM5.trans (Mod.of_below hal (FP pb ab hb)) (fun _ _ hj => hj)
         have hFa := hF5.below hal
         have hBa := hBw.trans (hal.mono hBs)
         obtain ⟨hn1, bB, ba, bh⟩ := hbnd.out
         have hceq := hcost.out
         have hb30 := hb3.out
         have C1 := bind_st hFa (Mod.refl _ (FP pb ab hb)) hBa a.f3 g3 hod.1.1 (c := d3) 1 (by decide) (addk_in a.f3 B) (by omega) (by omega)
         have hbk : (wr.alloc (.cells #[.int .i64 a.f0, .string a.f1, .int .i64 a.f2, .slice Y3 a.f3.length d3, .int .i64 a.f4.f0, .string a.f4.f1, .int .i64 a.f4.f2, .slice X3 a.f4.f3.length e3, .slice X4 a.f4.f4.length e4, .slice X5 a.f4.f5.length e5] 88)).heap[wr.heap.size]? = some (.cells #[.int .i64 a.f0, .string a.f1, .int .i64 a.f2, .slice Y3 a.f3.length d3, .int .i64 a.f4.f0, .string a.f4.f1, .int .i64 a.f4.f2, .slice X3 a.f4.f3.length e3, .slice X4 a.f4.f4.length e4, .slice X5 a.f4.f5.length e5] 88 (0, 0)) := Qv wr _
         have hnk : ¬ FP pb ab hb wr.heap.size := fun hh => by have := hF5.lt hh; omega
         have hsa : w0.heap.size ≤ (wr.alloc (.cells #[.int .i64 a.f0, .string a.f1, .int .i64 a.f2, .slice Y3 a.f3.length d3, .int .i64 a.f4.f0, .string a.f4.f1, .int .i64 a.f4.f2, .slice X3 a.f4.f3.length e3, .slice X4 a.f4.f4.length e4, .slice X5 a.f4.f5.length e5] 88)).heap.size := Nat.le_trans hBs hal.size
         have hMa := Qb.mk hMa
         have hFa := Qb.mk hFa
         have hBa := Qb.mk hBa
         have hbk := Qb.mk hbk
         have hnk := Qb.mk hnk
         have hsa := Qb.mk hsa
         have hg := Qb.mk (And.intro g3 (And.intro g4 (And.intro g5 g6)))
         have hod := Qb.mk hod
         have hbb := Qb.mk (And.intro hcl (And.intro hdr (And.intro hb2 (And.intro hb3.out (And.intro h5a (And.intro h5h (And.intro hcost.out hbnd.out)))))))
         clear hBw g3 g4 g5 g6 hdr hcl hb2 hF5 hM5 hal hBs h5a h5h hn1 bB ba bh hceq hb30
         go_wp2_with (first | (go_at_call 43; go_loud (with_reducible refine C1.mono ?_); rintro r w5 ⟨rfl, hst5⟩; have HT5 := Qb.mk hst5; have hw5 := St.blk hst5 hbk.out hnk.out; have hy4 := (Qa hw5 4).trans rfl; have hy5 := (Qa hw5 5).trans rfl; have hy6 := (Qa hw5 6).trans rfl; have hy7 := (Qa hw5 7).trans rfl; have hy8 := (Qa hw5 8).trans rfl; have hy9 := (Qa hw5 9).trans rfl; clear hst5 C1 hw5 hv0 hv1 hv2 hv3 hv4 hv5 hv6 hv7 hv8 hv9; have C2 := step_x (ih a.f4 (by have := hbb.out; omega)) hFa.out hBa.out hsa.out HT5.out hod.out.1.2 (by have := hbb.out; rw [List.length_append]; omega) (by have := hbb.out; omega) (by have := hbb.out; omega) hg.out.2.1 hg.out.2.2.1 hg.out.2.2.2 e3 e4 e5) | (go_at_call 44; go_loud (with_reducible refine C2.mono ?_); rintro r w6 ⟨rfl, hst6⟩; have HT6 := Qb.mk hst6; have hz3 := (Qa (St.blk hst6 hbk.out hnk.out) 3).trans rfl; clear hst6 C2 hy4 hy5 hy6 hy7 hy8 hy9; have C3 := step_b hFa.out hBa.out hsa.out a.f3 HT6.out hg.out.1 hod.out.1.1 d3 (by have := hbb.out; rw [List.length_append]; omega) (by have := hbb.out; omega)) | (go_at_call 43; go_loud (with_reducible refine C3.mono ?_); rintro r w7 ⟨rfl, hst7⟩; have HT7 := Qb.mk (St.comp hMa.out hst7); clear hst7 C3 hz3))
         go_roundg (gk - 1)
         case measure => omega
         case rel => exact ⟨i3 + 1, fx ds a.f4 (a.f3 ++ B) o2, na5 + a.f3.length + cost a.f4 + a.f3.length, nh5 + cost a.f4, by go_num, by omega, by omega, hsd, ⟨hod.out.2⟩, HT7, ⟨by have := hbb.out; omega, by have := hbb.out; omega⟩⟩
        ·have q1 : decide ((i3 : Int) < (e.f5.length : Int)) = false := decide_eq_false (by omega)
         have hd0 : e.f5.drop i3 = [] := List.drop_eq_nil_of_le (by omega)
         have hso3 : o2 = fxA ds e.f5 B o := by rw [← hs3.out, hd0]; simp only [fxA]
         have hb4 := hbd3.out
         rw [hd0] at hb4
         simp only [Zy, Nat.add_zero] at hb4
         have hfin : Qb (St W wr w0.heap.size pb ab hb (.slice Ad nd cd) (.slice Af ds.length cf) B (fx ds e B out) (na + cost e) (nh + cost e)) := ⟨by
          rw [hone.out, ← hso, ← hso3]
          exact (St.comp (Mod.of_below hbl9.out _) hst3.out).mono (by have := hb3.out; have := hcost.out; omega) (by have := hb3.out; have := hcost.out; omega)⟩
         go_wp2
         refine bodyPost_end (v := .tuple #[]) (by simp [results, Tryd.results44, go_sem]) rfl ?_
         exact ⟨rfl, hfin.out⟩
    ·have ho1 : one ds e B out = out := by unfold one hit; rw [if_neg (by simp [y3])]
     have hFr : Qb (FS w2 w0.heap.size pb ab hb (.slice Ad nd cd) (.slice Af ds.length cf) na nh (cnt B) (memN (one ds e B out))) := ⟨by rw [ho1]; exact hFw.out⟩
     have hMr : Qb (Mod W9 w2 (FP pb ab hb)) := ⟨Mod.of_below hb9w.out _⟩
     have hBr : Qb (Below w0.heap.size w0 w2) := ⟨hB9.out.trans (hb9w.out.mono hsz9.out)⟩
     have hbxc := hbxw
     have hnh : Qb (nh ≤ nh + 1) := ⟨Nat.le_succ _⟩
     rw [if_pos (show dix ds e.f1 0 < 0 by omega), decide_eq_false y3]
     clear ho1 hbD hlD y3 y1 y2
     obtain ⟨hn1, bB, ba, bh⟩ := hbnd.out
     have hceq := hcost.out
     have hx3 := (Qa hbxc.out 3).trans rfl
     have CB := bind_st hFr.out hMr.out hBr.out e.f3 hC3.out hok3.out (c := c3) 1 (by decide) (addk_in e.f3 B) (by omega) (by omega)
     go_wp2_with (first | (go_at_call 43; go_loud (with_reducible refine CB.mono ?_); rintro r w2 ⟨rfl, hst2⟩; have HS2 := Qb.mk hst2; have hx4 := (Qa (St.blk hst2 hbx9.out hnb9.out) 4).trans rfl; clear hst2 CB hx3))
     clear hx4
     go_loopg [46] (e.f4.length + 1) (fun kq v46 w' => ∃ (i : Nat) (o : List Int) (ca ch : Nat), v46 = .int .i64 (i : Int) ∧ i + kq = e.f4.length + 1 ∧ 1 ≤ kq ∧ Qb (fxL ds (e.f4.drop i) (e.f3 ++ B) o = fxL ds e.f4 (e.f3 ++ B) (one ds e B out)) ∧ Qb (okL (e.f4.drop i) = true) ∧ Qb (St W9 w' w0.heap.size pb ab hb (.slice Ad nd cd) (.slice Af ds.length cf) (e.f3 ++ B) o ca ch) ∧ Qb (ca + Z4 (e.f4.drop i) ≤ na + e.f3.length + Z4 e.f4 ∧ ch + Z4 (e.f4.drop i) ≤ nh + 1 + Z4 e.f4))
     case atStart => exact ⟨0, one ds e B out, na + e.f3.length, nh + 1, rfl, by omega, by omega, ⟨rfl⟩, hok4, ⟨HS2.out.mono (Nat.le_refl _) hnh.out⟩, ⟨by simp, by simp⟩⟩
     case round =>
      obtain ⟨i, o, ca, ch, rfl, hi, hk, hs, hol, hst, hbd⟩ := hrel
      by_cases hlt : i < e.f4.length
      ·have hBw := hB9.out.trans (St.below hst.out hF9.out hsz9.out)
       obtain ⟨ad, X3, d3, X4, d4, X5, d5, rfl, hv0, hv1, hv2, hv3, hv4, hv5, g3, g4, g5⟩ := at_e hBw hC4.out i hlt
       have p0 : (0 : Int) ≤ (i : Int) := by omega
       have q0 : (i : Int) < (e.f4.length : Int) := by omega
       have q1 : decide ((i : Int) < (e.f4.length : Int)) = true := decide_eq_true q0
       have hdr := costL_drop hlt
       have hcl := costL_le hlt
       have hod := okL_drop hlt hol.out
       have hsd : Qb (fxL ds (e.f4.drop (i + 1)) (e.f3 ++ B) (fx ds e.f4[i] (e.f3 ++ B) o) = fxL ds e.f4 (e.f3 ++ B) (one ds e B out)) := ⟨by rw [← hs.out, List.drop_eq_getElem_cons hlt]; simp only [fxL]⟩
       have hb2 := hbd.out
       generalize e.f4[i] = x at *
       have hal := Qd (Below.refl wr.heap.size wr) (.cells #[.int .i64 x.f0, .string x.f1, .int .i64 x.f2, .slice X3 x.f3.length d3, .slice X4 x.f4.length d4, .slice X5 x.f5.length d5] 29)
       have CX := step_x (ih x (by omega)) hF9.out hB9.out hsz9.out (hst.out.alloc hal) hod.1 (by rw [List.length_append]; omega) (by omega) (by omega) g3 g4 g5 d3 d4 d5
       have hbb := Qb.mk (And.intro hdr hb2)
       have hod2 := Qb.mk hod.2
       clear hBw g3 g4 g5 hdr hcl hod hb2 hal hceq hn1 bB ba bh
       go_wp2_with (first | (go_at_call 44; go_loud (with_reducible refine CX.mono ?_); rintro r w3 ⟨rfl, hst3⟩; have HS3 := Qb.mk hst3; clear hst3 CX))
       go_roundg (gk - 1)
       case measure => omega
       case rel => exact ⟨i + 1, fx ds x (e.f3 ++ B) o, ca + cost x, ch + cost x, by go_num, by omega, by omega, hsd, hod2, HS3, ⟨by have := hbb.out; omega, by have := hbb.out; omega⟩⟩
      ·have q1 : decide ((i : Int) < (e.f4.length : Int)) = false := decide_eq_false (by omega)
       have hd0 : e.f4.drop i = [] := List.drop_eq_nil_of_le (by omega)
       have hso : o = fxL ds e.f4 (e.f3 ++ B) (one ds e B out) := by rw [← hs.out, hd0]; simp only [fxL]
       have hb2 := hbd.out
       rw [hd0] at hb2
       simp only [Z4, Nat.add_zero] at hb2
       have hBw := hB9.out.trans (St.below hst.out hF9.out hsz9.out)
       have hx3 := (Qa (St.blk hst.out hbx9.out hnb9.out) 3).trans rfl
       have CB := step_b hF9.out hB9.out hsz9.out e.f3 hst.out hC3.out hok3.out c3 (by rw [List.length_append]; omega) (by omega)
       have hb3 := Qb.mk hb2
       clear hbd hb2 hd0 hBw hs hol hst hceq hn1 bB ba bh
       go_wp2_with (first | (go_at_call 43; go_loud (with_reducible refine CB.mono ?_); rintro r w4 ⟨rfl, hst4⟩; have HS4 := Qb.mk hst4; have hx5 := (Qa (St.blk hst4 hbx9.out hnb9.out) 5).trans rfl; clear hst4 CB hx3))
       clear hx5
       go_loopg [61] (e.f5.length + 1) (fun kq v61 w' => ∃ (i : Nat) (o2 : List Int) (ca3 ch3 : Nat), v61 = .int .i64 (i : Int) ∧ i + kq = e.f5.length + 1 ∧ 1 ≤ kq ∧ Qb (fxA ds (e.f5.drop i) B o2 = fxA ds e.f5 B o) ∧ Qb (okA (e.f5.drop i) = true) ∧ Qb (St W9 w' w0.heap.size pb ab hb (.slice Ad nd cd) (.slice Af ds.length cf) B o2 ca3 ch3) ∧ Qb (ca3 + Zy (e.f5.drop i) ≤ ca + e.f3.length + Zy e.f5 ∧ ch3 + Zy (e.f5.drop i) ≤ ch + Zy e.f5))
       case atStart => exact ⟨0, o, ca + e.f3.length, ch, rfl, by omega, by omega, ⟨rfl⟩, hok5, HS4, ⟨by simp, by simp⟩⟩
       case round =>
        obtain ⟨i3, o2, ca3, ch3, rfl, hi3, hk3, hs3, hol3, hst3, hbd3⟩ := hrel
        by_cases hlt3 : i3 < e.f5.length
        ·have hBw := hB9.out.trans (St.below hst3.out hF9.out hsz9.out)
         obtain ⟨ad, Y3, d3, X3, e3, X4, e4, X5, e5, rfl, hv0, hv1, hv2, hv3, hv4, hv5, hv6, hv7, hv8, hv9, g3, g4, g5, g6⟩ := at_a hBw hC5.out i3 hlt3
         have p0 : (0 : Int) ≤ (i3 : Int) := by omega
         have q0 : (i3 : Int) < (e.f5.length : Int) := by omega
         have q1 : decide ((i3 : Int) < (e.f5.length : Int)) = true := decide_eq_true q0
         have hdr := costA_drop hlt3
         have hcl := costA_le hlt3
         have hod := okA_drop hlt3 hol3.out
         have hsd : Qb (fxA ds (e.f5.drop (i3 + 1)) B (fx ds e.f5[i3].f4 (e.f5[i3].f3 ++ B) o2) = fxA ds e.f5 B o) := ⟨by rw [← hs3.out, List.drop_eq_getElem_cons hlt3, fxA_cons]⟩
         have hb2 := hbd3.out
         generalize e.f5[i3] = a at *
         obtain ⟨na5, nh5, hF5, hM5, h5a, h5h⟩ := hst3.out
         have hal := Qd (Below.refl wr.heap.size wr) (.cells #[.int .i64 a.f0, .string a.f1, .int .i64 a.f2, .slice Y3 a.f3.length d3, .int .i64 a.f4.f0, .string a.f4.f1, .int .i64 a.f4.f2, .slice X3 a.f4.f3.length e3, .slice X4 a.f4.f4.length e4, .slice X5 a.f4.f5.length e5] 88)
         have hBs : w0.heap.size ≤ wr.heap.size := hBw.size
         have hMa := hM5.trans (Mod.of_below hal (FP pb ab hb)) (fun _ _ hj => hj)
         have hFa := hF5.below hal
         have hBa := hBw.trans (hal.mono hBs)
         obtain ⟨hn1, bB, ba, bh⟩ := hbnd.out
         have hceq := hcost.out
         have hb30 := hb3.out
         have C1 := bind_st hFa (Mod.refl _ (FP pb ab hb)) hBa a.f3 g3 hod.1.1 (c := d3) 1 (by decide) (addk_in a.f3 B) (by omega) (by omega)
         have hbk : (wr.alloc (.cells #[.int .i64 a.f0, .string a.f1, .int .i64 a.f2, .slice Y3 a.f3.length d3, .int .i64 a.f4.f0, .string a.f4.f1, .int .i64 a.f4.f2, .slice X3 a.f4.f3.length e3, .slice X4 a.f4.f4.length e4, .slice X5 a.f4.f5.length e5] 88)).heap[wr.heap.size]? = some (.cells #[.int .i64 a.f0, .string a.f1, .int .i64 a.f2, .slice Y3 a.f3.length d3, .int .i64 a.f4.f0, .string a.f4.f1, .int .i64 a.f4.f2, .slice X3 a.f4.f3.length e3, .slice X4 a.f4.f4.length e4, .slice X5 a.f4.f5.length e5] 88 (0, 0)) := Qv wr _
         have hnk : ¬ FP pb ab hb wr.heap.size := fun hh => by have := hF5.lt hh; omega
         have hsa : w0.heap.size ≤ (wr.alloc (.cells #[.int .i64 a.f0, .string a.f1, .int .i64 a.f2, .slice Y3 a.f3.length d3, .int .i64 a.f4.f0, .string a.f4.f1, .int .i64 a.f4.f2, .slice X3 a.f4.f3.length e3, .slice X4 a.f4.f4.length e4, .slice X5 a.f4.f5.length e5] 88)).heap.size := Nat.le_trans hBs hal.size
         have hMa := Qb.mk hMa
         have hFa := Qb.mk hFa
         have hBa := Qb.mk hBa
         have hbk := Qb.mk hbk
         have hnk := Qb.mk hnk
         have hsa := Qb.mk hsa
         have hg := Qb.mk (And.intro g3 (And.intro g4 (And.intro g5 g6)))
         have hod := Qb.mk hod
         have hbb := Qb.mk (And.intro hcl (And.intro hdr (And.intro hb2 (And.intro hb3.out (And.intro h5a (And.intro h5h (And.intro hcost.out hbnd.out)))))))
         clear hBw g3 g4 g5 g6 hdr hcl hb2 hF5 hM5 hal hBs h5a h5h hn1 bB ba bh hceq hb30
         go_wp2_with (first | (go_at_call 43; go_loud (with_reducible refine C1.mono ?_); rintro r w5 ⟨rfl, hst5⟩; have HT5 := Qb.mk hst5; have hw5 := St.blk hst5 hbk.out hnk.out; have hy4 := (Qa hw5 4).trans rfl; have hy5 := (Qa hw5 5).trans rfl; have hy6 := (Qa hw5 6).trans rfl; have hy7 := (Qa hw5 7).trans rfl; have hy8 := (Qa hw5 8).trans rfl; have hy9 := (Qa hw5 9).trans rfl; clear hst5 C1 hw5 hv0 hv1 hv2 hv3 hv4 hv5 hv6 hv7 hv8 hv9; have C2 := step_x (ih a.f4 (by have := hbb.out; omega)) hFa.out hBa.out hsa.out HT5.out hod.out.1.2 (by have := hbb.out; rw [List.length_append]; omega) (by have := hbb.out; omega) (by have := hbb.out; omega) hg.out.2.1 hg.out.2.2.1 hg.out.2.2.2 e3 e4 e5) | (go_at_call 44; go_loud (with_reducible refine C2.mono ?_); rintro r w6 ⟨rfl, hst6⟩; have HT6 := Qb.mk hst6; have hz3 := (Qa (St.blk hst6 hbk.out hnk.out) 3).trans rfl; clear hst6 C2 hy4 hy5 hy6 hy7 hy8 hy9; have C3 := step_b hFa.out hBa.out hsa.out a.f3 HT6.out hg.out.1 hod.out.1.1 d3 (by have := hbb.out; rw [List.length_append]; omega) (by have := hbb.out; omega)) | (go_at_call 43; go_loud (with_reducible refine C3.mono ?_); rintro r w7 ⟨rfl, hst7⟩; have HT7 := Qb.mk (St.comp hMa.out hst7); clear hst7 C3 hz3))
         go_roundg (gk - 1)
         case measure => omega
         case rel => exact ⟨i3 + 1, fx ds a.f4 (a.f3 ++ B) o2, na5 + a.f3.length + cost a.f4 + a.f3.length, nh5 + cost a.f4, by go_num, by omega, by omega, hsd, ⟨hod.out.2⟩, HT7, ⟨by have := hbb.out; omega, by have := hbb.out; omega⟩⟩
        ·have q1 : decide ((i3 : Int) < (e.f5.length : Int)) = false := decide_eq_false (by omega)
         have hd0 : e.f5.drop i3 = [] := List.drop_eq_nil_of_le (by omega)
         have hso3 : o2 = fxA ds e.f5 B o := by rw [← hs3.out, hd0]; simp only [fxA]
         have hb4 := hbd3.out
         rw [hd0] at hb4
         simp only [Zy, Nat.add_zero] at hb4
         have hfin : Qb (St W wr w0.heap.size pb ab hb (.slice Ad nd cd) (.slice Af ds.length cf) B (fx ds e B out) (na + cost e) (nh + cost e)) := ⟨by
          rw [hone.out, ← hso, ← hso3]
          exact (St.comp (Mod.of_below hbl9.out _) hst3.out).mono (by have := hb3.out; have := hcost.out; omega) (by have := hb3.out; have := hcost.out; omega)⟩
         go_wp2
         refine bodyPost_end (v := .tuple #[]) (by simp [results, Tryd.results44, go_sem]) rfl ?_
         exact ⟨rfl, hfin.out⟩
   ·have q2 : (cnt B e.f1 == 0) = false := by
     have : ¬ cnt B e.f1 = 0 := fun h => y2 ((cnt_zero B e.f1).1 h)
     simpa using this
    refine QZ (n := 13) (S := fun w' => w'.cell? ⟨W.heap.size, 0, none⟩ = some (.int .i64 e.f0) ∧ w'.cell? ⟨W.heap.size, 1, none⟩ = some (.string e.f1) ∧ w'.cell? ⟨pb, 2, none⟩ = some (.map (some ab)) ∧ (Instr.lookup 79 (.map (some ab)) (.string e.f1) false).run Tryd.prog w' = .ok (.int .i64 (cnt B e.f1)) w') (ds := []) (bm 13 0) (by kernel_rfl) rfl rfl ⟨K0.out, K1.out, KA.out, KL.out⟩ (fun hHeld => ?_)
    generalize (W.alloc (.cells #[.int .i64 e.f0, .string e.f1, .int .i64 e.f2, .slice A3 e.f3.length c3, .slice A4 e.f4.length c4, .slice A5 e.f5.length c5] 29)).drew = W9 at *
    refine Q4 (i := 0) (N := some 10) (v := ?_) (a' := ?_) (bm 13 1) rfl rfl (by kernel_rfl) (fun _ _ _ h => h) (Or.inl ⟨by rfl, ?_⟩) ?_ ?_
    rotate_left
    ·intro w'
     go_simp
     with_reducible rfl
    rotate_left
    ·simp only [Act.put, sA, sB, sC, Qk, Ql]
     rfl
    refine QE (i := 1) (N := some 11) (v := ?_) (a' := ?_) (bm 13 3) rfl rfl (by kernel_rfl) (fun _ _ _ h => h) (Or.inl ⟨by rfl, ?_⟩) hHeld ?_ ?_
    rotate_left
    ·rintro w' ⟨s0, s1, s2, s3⟩
     go_simp
     with_reducible rfl
    rotate_left
    ·simp only [Act.put, sA, sB, sC, Qk, Ql]
     rfl
    refine Q4 (i := 2) (N := some 12) (v := ?_) (a' := ?_) (bm 13 7) rfl rfl (by kernel_rfl) (fun _ _ _ h => h) (Or.inl ⟨by rfl, ?_⟩) ?_ ?_
    rotate_left
    ·intro w'
     go_simp
     with_reducible rfl
    rotate_left
    ·simp only [Act.put, sA, sB, sC, Qk, Ql]
     rfl
    refine Q4 (i := 3) (N := some 13) (v := ?_) (a' := ?_) (bm 13 15) rfl rfl (by kernel_rfl) (fun _ _ _ h => h) (Or.inl ⟨by rfl, ?_⟩) ?_ ?_
    rotate_left
    ·intro w'
     go_simp
     with_reducible rfl
    rotate_left
    ·simp only [Act.put, sA, sB, sC, Qk, Ql]
     rfl
    refine Q4 (i := 4) (N := some 14) (v := ?_) (a' := ?_) (bm 13 31) rfl rfl (by kernel_rfl) (fun _ _ _ h => h) (Or.inl ⟨by rfl, ?_⟩) ?_ ?_
    rotate_left
    ·intro w'
     go_simp
     with_reducible rfl
    rotate_left
    ·simp only [Act.put, sA, sB, sC, Qk, Ql]
     rfl
    refine Q4 (i := 5) (N := some 15) (v := ?_) (a' := ?_) (bm 13 63) rfl rfl (by kernel_rfl) (fun _ _ _ h => h) (Or.inl ⟨by rfl, ?_⟩) ?_ ?_
    rotate_left
    ·intro w'
     go_simp
     with_reducible rfl
    rotate_left
    ·simp only [Act.put, sA, sB, sC, Qk, Ql]
     rfl
    refine Q4 (i := 6) (N := some 16) (v := ?_) (a' := ?_) (bm 13 127) rfl rfl (by kernel_rfl) (fun _ _ _ h => h) (Or.inl ⟨by rfl, ?_⟩) ?_ ?_
    rotate_left
    ·intro w'
     go_simp
     with_reducible rfl
    rotate_left
    ·simp only [Act.put, sA, sB, sC, Qk, Ql]
     rfl
    refine Q4 (i := 8) (N := some 18) (v := ?_) (a' := ?_) (bm 13 383) rfl rfl (by kernel_rfl) (fun _ _ _ h => h) (Or.inl ⟨by rfl, ?_⟩) ?_ ?_
    rotate_left
    ·intro w'
     go_simp
     with_reducible rfl
    rotate_left
    ·simp only [Act.put, sA, sB, sC, Qk, Ql]
     rfl
    refine QE (i := 7) (N := some 17) (v := ?_) (a' := ?_) (bm 13 511) rfl rfl (by kernel_rfl) (fun _ _ _ h => h) (Or.inl ⟨by rfl, ?_⟩) hHeld ?_ ?_
    rotate_left
    ·rintro w' ⟨s0, s1, s2, s3⟩
     go_simp
     with_reducible rfl
    rotate_left
    ·simp only [Act.put, sA, sB, sC, Qk, Ql]
     rfl
    refine QE (i := 9) (N := some 19) (v := ?_) (a' := ?_) (bm 13 1023) rfl rfl (by kernel_rfl) (fun _ _ _ h => h) (Or.inl ⟨by rfl, ?_⟩) hHeld ?_ ?_
    rotate_left
    ·rintro w' ⟨s0, s1, s2, s3⟩
     go_simp
     with_reducible rfl
    rotate_left
    ·simp only [Act.put, sA, sB, sC, Qk, Ql]
     rfl
    refine QE (i := 10) (N := some 20) (v := ?_) (a' := ?_) (bm 13 2047) rfl rfl (by kernel_rfl) (fun _ _ _ h => h) (Or.inl ⟨by rfl, ?_⟩) hHeld ?_ ?_
    rotate_left
    ·rintro w' ⟨s0, s1, s2, s3⟩
     go_simp
     with_reducible rfl
    rotate_left
    ·simp only [Act.put, sA, sB, sC, Qk, Ql]
     rfl
    refine Q4 (i := 11) (N := some 21) (v := ?_) (a' := ?_) (bm 13 4095) rfl rfl (by kernel_rfl) (fun _ _ _ h => h) (Or.inl ⟨by rfl, ?_⟩) ?_ ?_
    rotate_left
    ·intro w'
     go_simp
     with_reducible rfl
    rotate_left
    ·simp only [Act.put, sA, sB, sC, Qk, Ql]
     rfl
    refine Q4 (i := 12) (N := some 22) (v := ?_) (a' := ?_) (bm 13 8191) rfl rfl (by kernel_rfl) (fun _ _ _ h => h) (Or.inl ⟨by rfl, ?_⟩) ?_ ?_
    rotate_left
    ·intro w'
     go_simp
     with_reducible rfl
    rotate_left
    ·simp only [Act.put, sA, sB, sC, Qk, Ql]
     rfl
    refine Zx (by kernel_rfl) ?_
    have hF9 := hF1
    have hB9 := hB1
    have hbl9 := hbl
    have hbx9 := hbx
    have hnb9 := hnb
    have hsz9 : Qb (w0.heap.size ≤ W9.heap.size) := ⟨hB9.out.size⟩
    have ho1 : one ds e B out = out := by unfold one hit; rw [if_neg (by simp [y2])]
    have hFr : Qb (FS W9 w0.heap.size pb ab hb (.slice Ad nd cd) (.slice Af ds.length cf) na nh (cnt B) (memN (one ds e B out))) := ⟨by rw [ho1]; exact hF9.out⟩
    have hMr := Qb.mk (Mod.refl W9 (FP pb ab hb))
    have hBr := hB9
    have hbxc := hbx9
    have hnh : Qb (nh ≤ nh + 1) := ⟨Nat.le_succ _⟩
    clear hF1 hB1 hbl hbx hnb K0 K1 KA KL ho1 hHeld
    obtain ⟨hn1, bB, ba, bh⟩ := hbnd.out
    have hceq := hcost.out
    have hx3 := (Qa hbxc.out 3).trans rfl
    have CB := bind_st hFr.out hMr.out hBr.out e.f3 hC3.out hok3.out (c := c3) 1 (by decide) (addk_in e.f3 B) (by omega) (by omega)
    go_wp2_with (first | (go_at_call 43; go_loud (with_reducible refine CB.mono ?_); rintro r w2 ⟨rfl, hst2⟩; have HS2 := Qb.mk hst2; have hx4 := (Qa (St.blk hst2 hbx9.out hnb9.out) 4).trans rfl; clear hst2 CB hx3))
    clear hx4
    go_loopg [46] (e.f4.length + 1) (fun kq v46 w' => ∃ (i : Nat) (o : List Int) (ca ch : Nat), v46 = .int .i64 (i : Int) ∧ i + kq = e.f4.length + 1 ∧ 1 ≤ kq ∧ Qb (fxL ds (e.f4.drop i) (e.f3 ++ B) o = fxL ds e.f4 (e.f3 ++ B) (one ds e B out)) ∧ Qb (okL (e.f4.drop i) = true) ∧ Qb (St W9 w' w0.heap.size pb ab hb (.slice Ad nd cd) (.slice Af ds.length cf) (e.f3 ++ B) o ca ch) ∧ Qb (ca + Z4 (e.f4.drop i) ≤ na + e.f3.length + Z4 e.f4 ∧ ch + Z4 (e.f4.drop i) ≤ nh + 1 + Z4 e.f4))
    case atStart => exact ⟨0, one ds e B out, na + e.f3.length, nh + 1, rfl, by omega, by omega, ⟨rfl⟩, hok4, ⟨HS2.out.mono (Nat.le_refl _) hnh.out⟩, ⟨by simp, by simp⟩⟩
    case round =>
     obtain ⟨i, o, ca, ch, rfl, hi, hk, hs, hol, hst, hbd⟩ := hrel
     by_cases hlt : i < e.f4.length
     ·have hBw := hB9.out.trans (St.below hst.out hF9.out hsz9.out)
      obtain ⟨ad, X3, d3, X4, d4, X5, d5, rfl, hv0, hv1, hv2, hv3, hv4, hv5, g3, g4, g5⟩ := at_e hBw hC4.out i hlt
      have p0 : (0 : Int) ≤ (i : Int) := by omega
      have q0 : (i : Int) < (e.f4.length : Int) := by omega
      have q1 : decide ((i : Int) < (e.f4.length : Int)) = true := decide_eq_true q0
      have hdr := costL_drop hlt
      have hcl := costL_le hlt
      have hod := okL_drop hlt hol.out
      have hsd : Qb (fxL ds (e.f4.drop (i + 1)) (e.f3 ++ B) (fx ds e.f4[i] (e.f3 ++ B) o) = fxL ds e.f4 (e.f3 ++ B) (one ds e B out)) := ⟨by rw [← hs.out, List.drop_eq_getElem_cons hlt]; simp only [fxL]⟩
      have hb2 := hbd.out
      generalize e.f4[i] = x at *
      have hal := Qd (Below.refl wr.heap.size wr) (.cells #[.int .i64 x.f0, .string x.f1, .int .i64 x.f2, .slice X3 x.f3.length d3, .slice X4 x.f4.length d4, .slice X5 x.f5.length d5] 29)
      have CX := step_x (ih x (by omega)) hF9.out hB9.out hsz9.out (hst.out.alloc hal) hod.1 (by rw [List.length_append]; omega) (by omega) (by omega) g3 g4 g5 d3 d4 d5
      have hbb := Qb.mk (And.intro hdr hb2)
      have hod2 := Qb.mk hod.2
      clear hBw g3 g4 g5 hdr hcl hod hb2 hal hceq hn1 bB ba bh
      go_wp2_with (first | (go_at_call 44; go_loud (with_reducible refine CX.mono ?_); rintro r w3 ⟨rfl, hst3⟩; have HS3 := Qb.mk hst3; clear hst3 CX))
      go_roundg (gk - 1)
      case measure => omega
      case rel => exact ⟨i + 1, fx ds x (e.f3 ++ B) o, ca + cost x, ch + cost x, by go_num, by omega, by omega, hsd, hod2, HS3, ⟨by have := hbb.out; omega, by have := hbb.out; omega⟩⟩
     ·have q1 : decide ((i : Int) < (e.f4.length : Int)) = false := decide_eq_false (by omega)
      have hd0 : e.f4.drop i = [] := List.drop_eq_nil_of_le (by omega)
      have hso : o = fxL ds e.f4 (e.f3 ++ B) (one ds e B out) := by rw [← hs.out, hd0]; simp only [fxL]
      have hb2 := hbd.out
      rw [hd0] at hb2
      simp only [Z4, Nat.add_zero] at hb2
      have hBw := hB9.out.trans (St.below hst.out hF9.out hsz9.out)
      have hx3 := (Qa (St.blk hst.out hbx9.out hnb9.out) 3).trans rfl
      have CB := step_b hF9.out hB9.out hsz9.out e.f3 hst.out hC3.out hok3.out c3 (by rw [List.length_append]; omega) (by omega)
      have hb3 := Qb.mk hb2
      clear hbd hb2 hd0 hBw hs hol hst hceq hn1 bB ba bh
      go_wp2_with (first | (go_at_call 43; go_loud (with_reducible refine CB.mono ?_); rintro r w4 ⟨rfl, hst4⟩; have HS4 := Qb.mk hst4; have hx5 := (Qa (St.blk hst4 hbx9.out hnb9.out) 5).trans rfl; clear hst4 CB hx3))
      clear hx5
      go_loopg [61] (e.f5.length + 1) (fun kq v61 w' => ∃ (i : Nat) (o2 : List Int) (ca3 ch3 : Nat), v61 = .int .i64 (i : Int) ∧ i + kq = e.f5.length + 1 ∧ 1 ≤ kq ∧ Qb (fxA ds (e.f5.drop i) B o2 = fxA ds e.f5 B o) ∧ Qb (okA (e.f5.drop i) = true) ∧ Qb (St W9 w' w0.heap.size pb ab hb (.slice Ad nd cd) (.slice Af ds.length cf) B o2 ca3 ch3) ∧ Qb (ca3 + Zy (e.f5.drop i) ≤ ca + e.f3.length + Zy e.f5 ∧ ch3 + Zy (e.f5.drop i) ≤ ch + Zy e.f5))
      case atStart => exact ⟨0, o, ca + e.f3.length, ch, rfl, by omega, by omega, ⟨rfl⟩, hok5, HS4, ⟨by simp, by simp⟩⟩
      case round =>
       obtain ⟨i3, o2, ca3, ch3, rfl, hi3, hk3, hs3, hol3, hst3, hbd3⟩ := hrel
       by_cases hlt3 : i3 < e.f5.length
       ·have hBw := hB9.out.trans (St.below hst3.out hF9.out hsz9.out)
        obtain ⟨ad, Y3, d3, X3, e3, X4, e4, X5, e5, rfl, hv0, hv1, hv2, hv3, hv4, hv5, hv6, hv7, hv8, hv9, g3, g4, g5, g6⟩ := at_a hBw hC5.out i3 hlt3
        have p0 : (0 : Int) ≤ (i3 : Int) := by omega
        have q0 : (i3 : Int) < (e.f5.length : Int) := by omega
        have q1 : decide ((i3 : Int) < (e.f5.length : Int)) = true := decide_eq_true q0
        have hdr := costA_drop hlt3
        have hcl := costA_le hlt3
        have hod := okA_drop hlt3 hol3.out
        have hsd : Qb (fxA ds (e.f5.drop (i3 + 1)) B (fx ds e.f5[i3].f4 (e.f5[i3].f3 ++ B) o2) = fxA ds e.f5 B o) := ⟨by rw [← hs3.out, List.drop_eq_getElem_cons hlt3, fxA_cons]⟩
        have hb2 := hbd3.out
        generalize e.f5[i3] = a at *
        obtain ⟨na5, nh5, hF5, hM5, h5a, h5h⟩ := hst3.out
        have hal := Qd (Below.refl wr.heap.size wr) (.cells #[.int .i64 a.f0, .string a.f1, .int .i64 a.f2, .slice Y3 a.f3.length d3, .int .i64 a.f4.f0, .string a.f4.f1, .int .i64 a.f4.f2, .slice X3 a.f4.f3.length e3, .slice X4 a.f4.f4.length e4, .slice X5 a.f4.f5.length e5] 88)
        have hBs : w0.heap.size ≤ wr.heap.size := hBw.size
        have hMa := hM5.trans (Mod.of_below hal (FP pb ab hb)) (fun _ _ hj => hj)
        have hFa := hF5.below hal
        have hBa := hBw.trans (hal.mono hBs)
        obtain ⟨hn1, bB, ba, bh⟩ := hbnd.out
        have hceq := hcost.out
        have hb30 := hb3.out
        have C1 := bind_st hFa (Mod.refl _ (FP pb ab hb)) hBa a.f3 g3 hod.1.1 (c := d3) 1 (by decide) (addk_in a.f3 B) (by omega) (by omega)
        have hbk : (wr.alloc (.cells #[.int .i64 a.f0, .string a.f1, .int .i64 a.f2, .slice Y3 a.f3.length d3, .int .i64 a.f4.f0, .string a.f4.f1, .int .i64 a.f4.f2, .slice X3 a.f4.f3.length e3, .slice X4 a.f4.f4.length e4, .slice X5 a.f4.f5.length e5] 88)).heap[wr.heap.size]? = some (.cells #[.int .i64 a.f0, .string a.f1, .int .i64 a.f2, .slice Y3 a.f3.length d3, .int .i64 a.f4.f0, .string a.f4.f1, .int .i64 a.f4.f2, .slice X3 a.f4.f3.length e3, .slice X4 a.f4.f4.length e4, .slice X5 a.f4.f5.length e5] 88 (0, 0)) := Qv wr _
        have hnk : ¬ FP pb ab hb wr.heap.size := fun hh => by have := hF5.lt hh; omega
        have hsa : w0.heap.size ≤ (wr.alloc (.cells #[.int .i64 a.f0, .string a.f1, .int .i64 a.f2, .slice Y3 a.f3.length d3, .int .i64 a.f4.f0, .string a.f4.f1, .int .i64 a.f4.f2, .slice X3 a.f4.f3.length e3, .slice X4 a.f4.f4.length e4, .slice X5 a.f4.f5.length e5] 88)).heap.size := Nat.le_trans hBs hal.size
        have hMa := Qb.mk hMa
        have hFa := Qb.mk hFa
        have hBa := Qb.mk hBa
        have hbk := Qb.mk hbk
        have hnk := Qb.mk hnk
        have hsa := Qb.mk hsa
        have hg := Qb.mk (And.intro g3 (And.intro g4 (And.intro g5 g6)))
        have hod := Qb.mk hod
        have hbb := Qb.mk (And.intro hcl (And.intro hdr (And.intro hb2 (And.intro hb3.out (And.intro h5a (And.intro h5h (And.intro hcost.out hbnd.out)))))))
        clear hBw g3 g4 g5 g6 hdr hcl hb2 hF5 hM5 hal hBs h5a h5h hn1 bB ba bh hceq hb30
        go_wp2_with (first | (go_at_call 43; go_loud (with_reducible refine C1.mono ?_); rintro r w5 ⟨rfl, hst5⟩; have HT5 := Qb.mk hst5; have hw5 := St.blk hst5 hbk.out hnk.out; have hy4 := (Qa hw5 4).trans rfl; have hy5 := (Qa hw5 5).trans rfl; have hy6 := (Qa hw5 6).trans rfl; have hy7 := (Qa hw5 7).trans rfl; have hy8 := (Qa hw5 8).trans rfl; have hy9 := (Qa hw5 9).trans rfl; clear hst5 C1 hw5 hv0 hv1 hv2 hv3 hv4 hv5 hv6 hv7 hv8 hv9; have C2 := step_x (ih a.f4 (by have := hbb.out; omega)) hFa.out hBa.out hsa.out HT5.out hod.out.1.2 (by have := hbb.out; rw [List.length_append]; omega) (by have := hbb.out; omega) (by have := hbb.out; omega) hg.out.2.1 hg.out.2.2.1 hg.out.2.2.2 e3 e4 e5) | (go_at_call 44; go_loud (with_reducible refine C2.mono ?_); rintro r w6 ⟨rfl, hst6⟩; have HT6 := Qb.mk hst6; have hz3 := (Qa (St.blk hst6 hbk.out hnk.out) 3).trans rfl; clear hst6 C2 hy4 hy5 hy6 hy7 hy8 hy9; have C3 := step_b hFa.out hBa.out hsa.out a.f3 HT6.out hg.out.1 hod.out.1.1 d3 (by have := hbb.out; rw [List.length_append]; omega) (by have := hbb.out; omega)) | (go_at_call 43; go_loud (with_reducible refine C3.mono ?_); rintro r w7 ⟨rfl, hst7⟩; have HT7 := Qb.mk (St.comp hMa.out hst7); clear hst7 C3 hz3))
        go_roundg (gk - 1)
        case measure => omega
        case rel => exact ⟨i3 + 1, fx ds a.f4 (a.f3 ++ B) o2, na5 + a.f3.length + cost a.f4 + a.f3.length, nh5 + cost a.f4, by go_num, by omega, by omega, hsd, ⟨hod.out.2⟩, HT7, ⟨by have := hbb.out; omega, by have := hbb.out; omega⟩⟩
       ·have q1 : decide ((i3 : Int) < (e.f5.length : Int)) = false := decide_eq_false (by omega)
        have hd0 : e.f5.drop i3 = [] := List.drop_eq_nil_of_le (by omega)
        have hso3 : o2 = fxA ds e.f5 B o := by rw [← hs3.out, hd0]; simp only [fxA]
        have hb4 := hbd3.out
        rw [hd0] at hb4
        simp only [Zy, Nat.add_zero] at hb4
        have hfin : Qb (St W wr w0.heap.size pb ab hb (.slice Ad nd cd) (.slice Af ds.length cf) B (fx ds e B out) (na + cost e) (nh + cost e)) := ⟨by
         rw [hone.out, ← hso, ← hso3]
         exact (St.comp (Mod.of_below hbl9.out _) hst3.out).mono (by have := hb3.out; have := hcost.out; omega) (by have := hb3.out; have := hcost.out; omega)⟩
        go_wp2
        refine bodyPost_end (v := .tuple #[]) (by simp [results, Tryd.results44, go_sem]) rfl ?_
        exact ⟨rfl, hfin.out⟩
  ·have q1 : (e.f0 == 1) = false := by simpa using y1
   refine QZ (n := 13) (S := fun w' => w'.cell? ⟨W.heap.size, 0, none⟩ = some (.int .i64 e.f0)) (ds := []) (bm 13 0) (by kernel_rfl) rfl rfl (K0.out) (fun hHeld => ?_)
   generalize (W.alloc (.cells #[.int .i64 e.f0, .string e.f1, .int .i64 e.f2, .slice A3 e.f3.length c3, .slice A4 e.f4.length c4, .slice A5 e.f5.length c5] 29)).drew = W9 at *
   refine Q4 (i := 0) (N := some 10) (v := ?_) (a' := ?_) (bm 13 1) rfl rfl (by kernel_rfl) (fun _ _ _ h => h) (Or.inl ⟨by rfl, ?_⟩) ?_ ?_
   rotate_left
   ·intro w'
    go_simp
    with_reducible rfl
   rotate_left
   ·simp only [Act.put, sA, sB, sC, Qk, Ql]
    rfl
   refine QE (i := 1) (N := some 11) (v := ?_) (a' := ?_) (bm 13 3) rfl rfl (by kernel_rfl) (fun _ _ _ h => h) (Or.inl ⟨by rfl, ?_⟩) hHeld ?_ ?_
   rotate_left
   ·intro w' s0
    go_simp
    with_reducible rfl
   rotate_left
   ·simp only [Act.put, sA, sB, sC, Qk, Ql]
    rfl
   refine Q4 (i := 2) (N := some 12) (v := ?_) (a' := ?_) (bm 13 7) rfl rfl (by kernel_rfl) (fun _ _ _ h => h) (Or.inl ⟨by rfl, ?_⟩) ?_ ?_
   rotate_left
   ·intro w'
    go_simp
    with_reducible rfl
   rotate_left
   ·simp only [Act.put, sA, sB, sC, Qk, Ql]
    rfl
   refine Q4 (i := 3) (N := some 13) (v := ?_) (a' := ?_) (bm 13 15) rfl rfl (by kernel_rfl) (fun _ _ _ h => h) (Or.inl ⟨by rfl, ?_⟩) ?_ ?_
   rotate_left
   ·intro w'
    go_simp
    with_reducible rfl
   rotate_left
   ·simp only [Act.put, sA, sB, sC, Qk, Ql]
    rfl
   refine Q4 (i := 4) (N := some 14) (v := undef) (a' := ?_) (bm 13 31) rfl rfl (by kernel_rfl) (fun _ _ _ h => h) (Or.inr ⟨by rfl, rfl⟩) ?_ ?_
   rotate_left
   ·simp only [Act.put, sA, sB, sC, Qk, Ql]
    rfl
   refine Q4 (i := 5) (N := some 15) (v := undef) (a' := ?_) (bm 13 63) rfl rfl (by kernel_rfl) (fun _ _ _ h => h) (Or.inr ⟨by rfl, rfl⟩) ?_ ?_
   rotate_left
   ·simp only [Act.put, sA, sB, sC, Qk, Ql]
    rfl
   refine Q4 (i := 6) (N := some 16) (v := undef) (a' := ?_) (bm 13 127) rfl rfl (by kernel_rfl) (fun _ _ _ h => h) (Or.inr ⟨by rfl, rfl⟩) ?_ ?_
   rotate_left
   ·simp only [Act.put, sA, sB, sC, Qk, Ql]
    rfl
   refine Q4 (i := 7) (N := some 17) (v := undef) (a' := ?_) (bm 13 255) rfl rfl (by kernel_rfl) (fun _ _ _ h => h) (Or.inr ⟨by rfl, rfl⟩) ?_ ?_
   rotate_left
   ·simp only [Act.put, sA, sB, sC, Qk, Ql]
    rfl
   refine Q4 (i := 8) (N := some 18) (v := undef) (a' := ?_) (bm 13 511) rfl rfl (by kernel_rfl) (fun _ _ _ h => h) (Or.inr ⟨by rfl, rfl⟩) ?_ ?_
   rotate_left
   ·simp only [Act.put, sA, sB, sC, Qk, Ql]
    rfl
   refine Q4 (i := 9) (N := some 19) (v := undef) (a' := ?_) (bm 13 1023) rfl rfl (by kernel_rfl) (fun _ _ _ h => h) (Or.inr ⟨by rfl, rfl⟩) ?_ ?_
   rotate_left
   ·simp only [Act.put, sA, sB, sC, Qk, Ql]
    rfl
   refine Q4 (i := 10) (N := some 20) (v := undef) (a' := ?_) (bm 13 2047) rfl rfl (by kernel_rfl) (fun _ _ _ h => h) (Or.inr ⟨by rfl, rfl⟩) ?_ ?_
   rotate_left
   ·simp only [Act.put, sA, sB, sC, Qk, Ql]
    rfl
   refine Q4 (i := 11) (N := some 21) (v := undef) (a' := ?_) (bm 13 4095) rfl rfl (by kernel_rfl) (fun _ _ _ h => h) (Or.inr ⟨by rfl, rfl⟩) ?_ ?_
   rotate_left
   ·simp only [Act.put, sA, sB, sC, Qk, Ql]
    rfl
   refine Q4 (i := 12) (N := some 22) (v := ?_) (a' := ?_) (bm 13 8191) rfl rfl (by kernel_rfl) (fun _ _ _ h => h) (Or.inl ⟨by rfl, ?_⟩) ?_ ?_
   rotate_left
   ·intro w'
    go_simp
    with_reducible rfl
   rotate_left
   ·simp only [Act.put, sA, sB, sC, Qk, Ql]
    rfl
   refine Zx (by kernel_rfl) ?_
   have hF9 := hF1
   have hB9 := hB1
   have hbl9 := hbl
   have hbx9 := hbx
   have hnb9 := hnb
   have hsz9 : Qb (w0.heap.size ≤ W9.heap.size) := ⟨hB9.out.size⟩
   have ho1 : one ds e B out = out := by unfold one hit; rw [if_neg (by simp [y1])]
   have hFr : Qb (FS W9 w0.heap.size pb ab hb (.slice Ad nd cd) (.slice Af ds.length cf) na nh (cnt B) (memN (one ds e B out))) := ⟨by rw [ho1]; exact hF9.out⟩
   have hMr := Qb.mk (Mod.refl W9 (FP pb ab hb))
   have hBr := hB9
   have hbxc := hbx9
   have hnh : Qb (nh ≤ nh + 1) := ⟨Nat.le_succ _⟩
   clear hF1 hB1 hbl hbx hnb K0 K1 KA KL ho1 hHeld
   obtain ⟨hn1, bB, ba, bh⟩ := hbnd.out
   have hceq := hcost.out
   have hx3 := (Qa hbxc.out 3).trans rfl
   have CB := bind_st hFr.out hMr.out hBr.out e.f3 hC3.out hok3.out (c := c3) 1 (by decide) (addk_in e.f3 B) (by omega) (by omega)
   go_wp2_with (first | (go_at_call 43; go_loud (with_reducible refine CB.mono ?_); rintro r w2 ⟨rfl, hst2⟩; have HS2 := Qb.mk hst2; have hx4 := (Qa (St.blk hst2 hbx9.out hnb9.out) 4).trans rfl; clear hst2 CB hx3))
   clear hx4
   go_loopg [46] (e.f4.length + 1) (fun kq v46 w' => ∃ (i : Nat) (o : List Int) (ca ch : Nat), v46 = .int .i64 (i : Int) ∧ i + kq = e.f4.length + 1 ∧ 1 ≤ kq ∧ Qb (fxL ds (e.f4.drop i) (e.f3 ++ B) o = fxL ds e.f4 (e.f3 ++ B) (one ds e B out)) ∧ Qb (okL (e.f4.drop i) = true) ∧ Qb (St W9 w' w0.heap.size pb ab hb (.slice Ad nd cd) (.slice Af ds.length cf) (e.f3 ++ B) o ca ch) ∧ Qb (ca + Z4 (e.f4.drop i) ≤ na + e.f3.length + Z4 e.f4 ∧ ch + Z4 (e.f4.drop i) ≤ nh + 1 + Z4 e.f4))
   case atStart => exact ⟨0, one ds e B out, na + e.f3.length, nh + 1, rfl, by omega, by omega, ⟨rfl⟩, hok4, ⟨HS2.out.mono (Nat.le_refl _) hnh.out⟩, ⟨by simp, by simp⟩⟩
   case round =>
    obtain ⟨i, o, ca, ch, rfl, hi, hk, hs, hol, hst, hbd⟩ := hrel
    by_cases hlt : i < e.f4.length
    ·have hBw := hB9.out.trans (St.below hst.out hF9.out hsz9.out)
     obtain ⟨ad, X3, d3, X4, d4, X5, d5, rfl, hv0, hv1, hv2, hv3, hv4, hv5, g3, g4, g5⟩ := at_e hBw hC4.out i hlt
     have p0 : (0 : Int) ≤ (i : Int) := by omega
     have q0 : (i : Int) < (e.f4.length : Int) := by omega
     have q1 : decide ((i : Int) < (e.f4.length : Int)) = true := decide_eq_true q0
     have hdr := costL_drop hlt
     have hcl := costL_le hlt
     have hod := okL_drop hlt hol.out
     have hsd : Qb (fxL ds (e.f4.drop (i + 1)) (e.f3 ++ B) (fx ds e.f4[i] (e.f3 ++ B) o) = fxL ds e.f4 (e.f3 ++ B) (one ds e B out)) := ⟨by rw [← hs.out, List.drop_eq_getElem_cons hlt]; simp only [fxL]⟩
     have hb2 := hbd.out
     generalize e.f4[i] = x at *
     have hal := Qd (Below.refl wr.heap.size wr) (.cells #[.int .i64 x.f0, .string x.f1, .int .i64 x.f2, .slice X3 x.f3.length d3, .slice X4 x.f4.length d4, .slice X5 x.f5.length d5] 29)
     have CX := step_x (ih x (by omega)) hF9.out hB9.out hsz9.out (hst.out.alloc hal) hod.1 (by rw [List.length_append]; omega) (by omega) (by omega) g3 g4 g5 d3 d4 d5
     have hbb := Qb.mk (And.intro hdr hb2)
     have hod2 := Qb.mk hod.2
     clear hBw g3 g4 g5 hdr hcl hod hb2 hal hceq hn1 bB ba bh
     go_wp2_with (first | (go_at_call 44; go_loud (with_reducible refine CX.mono ?_); rintro r w3 ⟨rfl, hst3⟩; have HS3 := Qb.mk hst3; clear hst3 CX))
     go_roundg (gk - 1)
     case measure => omega
     case rel => exact ⟨i + 1, fx ds x (e.f3 ++ B) o, ca + cost x, ch + cost x, by go_num, by omega, by omega, hsd, hod2, HS3, ⟨by have := hbb.out; omega, by have := hbb.out; omega⟩⟩
    ·have q1 : decide ((i : Int) < (e.f4.length : Int)) = false := decide_eq_false (by omega)
     have hd0 : e.f4.drop i = [] := List.drop_eq_nil_of_le (by omega)
     have hso : o = fxL ds e.f4 (e.f3 ++ B) (one ds e B out) := by rw [← hs.out, hd0]; simp only [fxL]
     have hb2 := hbd.out
     rw [hd0] at hb2
     simp only [Z4, Nat.add_zero] at hb2
     have hBw := hB9.out.trans (St.below hst.out hF9.out hsz9.out)
     have hx3 := (Qa (St.blk hst.out hbx9.out hnb9.out) 3).trans rfl
     have CB := step_b hF9.out hB9.out hsz9.out e.f3 hst.out hC3.out hok3.out c3 (by rw [List.length_append]; omega) (by omega)
     have hb3 := Qb.mk hb2
     clear hbd hb2 hd0 hBw hs hol hst hceq hn1 bB ba bh
     go_wp2_with (first | (go_at_call 43; go_loud (with_reducible refine CB.mono ?_); rintro r w4 ⟨rfl, hst4⟩; have HS4 := Qb.mk hst4; have hx5 := (Qa (St.blk hst4 hbx9.out hnb9.out) 5).trans rfl; clear hst4 CB hx3))
     clear hx5
     go_loopg [61] (e.f5.length + 1) (fun kq v61 w' => ∃ (i : Nat) (o2 : List Int) (ca3 ch3 : Nat), v61 = .int .i64 (i : Int) ∧ i + kq = e.f5.length + 1 ∧ 1 ≤ kq ∧ Qb (fxA ds (e.f5.drop i) B o2 = fxA ds e.f5 B o) ∧ Qb (okA (e.f5.drop i) = true) ∧ Qb (St W9 w' w0.heap.size pb ab hb (.slice Ad nd cd) (.slice Af ds.length cf) B o2 ca3 ch3) ∧ Qb (ca3 + Zy (e.f5.drop i) ≤ ca + e.f3.length + Zy e.f5 ∧ ch3 + Zy (e.f5.drop i) ≤ ch + Zy e.f5))
     case atStart => exact ⟨0, o, ca + e.f3.length, ch, rfl, by omega, by omega, ⟨rfl⟩, hok5, HS4, ⟨by simp, by simp⟩⟩
     case round =>
      obtain ⟨i3, o2, ca3, ch3, rfl, hi3, hk3, hs3, hol3, hst3, hbd3⟩ := hrel
      by_cases hlt3 : i3 < e.f5.length
      ·have hBw := hB9.out.trans (St.below hst3.out hF9.out hsz9.out)
       obtain ⟨ad, Y3, d3, X3, e3, X4, e4, X5, e5, rfl, hv0, hv1, hv2, hv3, hv4, hv5, hv6, hv7, hv8, hv9, g3, g4, g5, g6⟩ := at_a hBw hC5.out i3 hlt3
       have p0 : (0 : Int) ≤ (i3 : Int) := by omega
       have q0 : (i3 : Int) < (e.f5.length : Int) := by omega
       have q1 : decide ((i3 : Int) < (e.f5.length : Int)) = true := decide_eq_true q0
       have hdr := costA_drop hlt3
       have hcl := costA_le hlt3
       have hod := okA_drop hlt3 hol3.out
       have hsd : Qb (fxA ds (e.f5.drop (i3 + 1)) B (fx ds e.f5[i3].f4 (e.f5[i3].f3 ++ B) o2) = fxA ds e.f5 B o) := ⟨by rw [← hs3.out, List.drop_eq_getElem_cons hlt3, fxA_cons]⟩
       have hb2 := hbd3.out
       generalize e.f5[i3] = a at *
       obtain ⟨na5, nh5, hF5, hM5, h5a, h5h⟩ := hst3.out
       have hal := Qd (Below.refl wr.heap.size wr) (.cells #[.int .i64 a.f0, .string a.f1, .int .i64 a.f2, .slice Y3 a.f3.length d3, .int .i64 a.f4.f0, .string a.f4.f1, .int .i64 a.f4.f2, .slice X3 a.f4.f3.length e3, .slice X4 a.f4.f4.length e4, .slice X5 a.f4.f5.length e5] 88)
       have hBs : w0.heap.size ≤ wr.heap.size := hBw.size
       have hMa := hM5.trans (Mod.of_below hal (FP pb ab hb)) (fun _ _ hj => hj)
       have hFa := hF5.below hal
       have hBa := hBw.trans (hal.mono hBs)
       obtain ⟨hn1, bB, ba, bh⟩ := hbnd.out
       have hceq := hcost.out
       have hb30 := hb3.out
       have C1 := bind_st hFa (Mod.refl _ (FP pb ab hb)) hBa a.f3 g3 hod.1.1 (c := d3) 1 (by decide) (addk_in a.f3 B) (by omega) (by omega)
       have hbk : (wr.alloc (.cells #[.int .i64 a.f0, .string a.f1, .int .i64 a.f2, .slice Y3 a.f3.length d3, .int .i64 a.f4.f0, .string a.f4.f1, .int .i64 a.f4.f2, .slice X3 a.f4.f3.length e3, .slice X4 a.f4.f4.length e4, .slice X5 a.f4.f5.length e5] 88)).heap[wr.heap.size]? = some (.cells #[.int .i64 a.f0, .string a.f1, .int .i64 a.f2, .slice Y3 a.f3.length d3, .int .i64 a.f4.f0, .string a.f4.f1, .int .i64 a.f4.f2, .slice X3 a.f4.f3.length e3, .slice X4 a.f4.f4.length e4, .slice X5 a.f4.f5.length e5] 88 (0, 0)) := Qv wr _
       have hnk : ¬ FP pb ab hb wr.heap.size := fun hh => by have := hF5.lt hh; omega
       have hsa : w0.heap.size ≤ (wr.alloc (.cells #[.int .i64 a.f0, .string a.f1, .int .i64 a.f2, .slice Y3 a.f3.length d3, .int .i64 a.f4.f0, .string a.f4.f1, .int .i64 a.f4.f2, .slice X3 a.f4.f3.length e3, .slice X4 a.f4.f4.length e4, .slice X5 a.f4.f5.length e5] 88)).heap.size := Nat.le_trans hBs hal.size
       have hMa := Qb.mk hMa
       have hFa := Qb.mk hFa
       have hBa := Qb.mk hBa
       have hbk := Qb.mk hbk
       have hnk := Qb.mk hnk
       have hsa := Qb.mk hsa
       have hg := Qb.mk (And.intro g3 (And.intro g4 (And.intro g5 g6)))
       have hod := Qb.mk hod
       have hbb := Qb.mk (And.intro hcl (And.intro hdr (And.intro hb2 (And.intro hb3.out (And.intro h5a (And.intro h5h (And.intro hcost.out hbnd.out)))))))
       clear hBw g3 g4 g5 g6 hdr hcl hb2 hF5 hM5 hal hBs h5a h5h hn1 bB ba bh hceq hb30
       go_wp2_with (first | (go_at_call 43; go_loud (with_reducible refine C1.mono ?_); rintro r w5 ⟨rfl, hst5⟩; have HT5 := Qb.mk hst5; have hw5 := St.blk hst5 hbk.out hnk.out; have hy4 := (Qa hw5 4).trans rfl; have hy5 := (Qa hw5 5).trans rfl; have hy6 := (Qa hw5 6).trans rfl; have hy7 := (Qa hw5 7).trans rfl; have hy8 := (Qa hw5 8).trans rfl; have hy9 := (Qa hw5 9).trans rfl; clear hst5 C1 hw5 hv0 hv1 hv2 hv3 hv4 hv5 hv6 hv7 hv8 hv9; have C2 := step_x (ih a.f4 (by have := hbb.out; omega)) hFa.out hBa.out hsa.out HT5.out hod.out.1.2 (by have := hbb.out; rw [List.length_append]; omega) (by have := hbb.out; omega) (by have := hbb.out; omega) hg.out.2.1 hg.out.2.2.1 hg.out.2.2.2 e3 e4 e5) | (go_at_call 44; go_loud (with_reducible refine C2.mono ?_); rintro r w6 ⟨rfl, hst6⟩; have HT6 := Qb.mk hst6; have hz3 := (Qa (St.blk hst6 hbk.out hnk.out) 3).trans rfl; clear hst6 C2 hy4 hy5 hy6 hy7 hy8 hy9; have C3 := step_b hFa.out hBa.out hsa.out a.f3 HT6.out hg.out.1 hod.out.1.1 d3 (by have := hbb.out; rw [List.length_append]; omega) (by have := hbb.out; omega)) | (go_at_call 43; go_loud (with_reducible refine C3.mono ?_); rintro r w7 ⟨rfl, hst7⟩; have HT7 := Qb.mk (St.comp hMa.out hst7); clear hst7 C3 hz3))
       go_roundg (gk - 1)
       case measure => omega
       case rel => exact ⟨i3 + 1, fx ds a.f4 (a.f3 ++ B) o2, na5 + a.f3.length + cost a.f4 + a.f3.length, nh5 + cost a.f4, by go_num, by omega, by omega, hsd, ⟨hod.out.2⟩, HT7, ⟨by have := hbb.out; omega, by have := hbb.out; omega⟩⟩
      ·have q1 : decide ((i3 : Int) < (e.f5.length : Int)) = false := decide_eq_false (by omega)
       have hd0 : e.f5.drop i3 = [] := List.drop_eq_nil_of_le (by omega)
       have hso3 : o2 = fxA ds e.f5 B o := by rw [← hs3.out, hd0]; simp only [fxA]
       have hb4 := hbd3.out
       rw [hd0] at hb4
       simp only [Zy, Nat.add_zero] at hb4
       have hfin : Qb (St W wr w0.heap.size pb ab hb (.slice Ad nd cd) (.slice Af ds.length cf) B (fx ds e B out) (na + cost e) (nh + cost e)) := ⟨by
        rw [hone.out, ← hso, ← hso3]
        exact (St.comp (Mod.of_below hbl9.out _) hst3.out).mono (by have := hb3.out; have := hcost.out; omega) (by have := hb3.out; have := hcost.out; omega)⟩
       go_wp2
       refine bodyPost_end (v := .tuple #[]) (by simp [results, Tryd.results44, go_sem]) rfl ?_
       exact ⟨rfl, hfin.out⟩
end Go.Proofs.YtlgpoigbadajnaaDoor.DepA
namespace Go.Proofs.YtlgpoigbadajnaaDoor.DepA
open Go.RowKit Go.Proofs.YtlgpoigbadajnaaDoorW.PrintWords Go.Proofs.YtlgpoigbadajnaaDoorW.PrintLast Go.Proofs.YtlgpoigbadajnaaDoorW.PrintMore Go.Proofs.YtlgpoigbadajnaaDoor.PDepA
set_option linter.unusedVariables false
set_option linter.unusedSimpArgs false
theorem infI : (Tryd.prog.info? 3).map (fun i => (i.zero, i.size, i.bytes)) = some (some (.int .i64 0), 1, 8) := by kernel_rfl
abbrev kI : Kd Int := Kd.int .i64
theorem at_int {w : World} {A : Option Addr} {n : Nat} {xs : List Int} (h : Kd.C kI w A n xs) (i : Nat) (hi : i < xs.length) (hn : i < n) : ∃ ad, A = some ad ∧ w.cell? (ad.add i) = some (.int .i64 xs[i]) := by
 obtain ⟨ad, c, e, _, hK, hc⟩ := Kd.C_get h (0 : Int) (i : Int) (by omega) (by omega)
 have hK' : c = [.int .i64 (xs.getD i 0)] := hK
 subst hK'
 refine ⟨ad, e, ?_⟩
 have := hc 0 _ rfl
 have hsz : kI.sz = 1 := rfl
 rw [hsz, Int.toNat_natCast, Nat.mul_one, Nat.add_zero] at this
 rw [this]
 simp [hi]
def ris (g : Int → Int) : Nat → Nat → List Int
 | 0, _ => []
 | k + 1, i => if 0 < g (i : Int) then (i : Int) :: ris g k (i + 1) else ris g k (i + 1)
theorem ris_len (g : Int → Int) : ∀ (k i : Nat), (ris g k i).length ≤ k
 | 0, i => Nat.le_refl _
 | k + 1, i => by
  have := ris_len g k (i + 1)
  simp only [ris]
  split
  ·simp only [List.length_cons]; omega
  ·omega
set_option maxHeartbeats 4000000 in
set_option maxRecDepth 100000 in
theorem rising_calls {W : World} {hb nh : Nat} {g : Int → Int} (h : MapN W hb nh g) (n : Nat) (hn : n ≤ 1000000000000) :
  Calls Tryd.prog 31 #[.int .i64 (n : Int), .map (some hb)] W fun e w' => ∃ v0_ : Value, e = .returned v0_ ∧ Kd.R kI 3 w' W.heap.size (fun _ => True) v0_ (ris g n 0) ∧ Below W.heap.size W w' := by
 have h9 := Qb.mk h
 clear h
 go_enter Tryd.func31, Tryd.ntmps31
 go_wp2
 go_loopg [5, 8] (n + 1) (fun kq v5 v8 w' => ∃ (i : Nat) (A1 : Option Addr) (c1 m1 : Nat) (xs : List Int), v5 = .slice A1 m1 c1 ∧ v8 = .int .i64 (i : Int) ∧ i + kq = n + 1 ∧ 1 ≤ kq ∧ Qb (m1 = xs.length ∧ xs.length ≤ i) ∧ Qb (xs ++ ris g (n - i) i = ris g n 0) ∧ Qb (Kd.R kI 3 w' W.heap.size (fun _ => True) (.slice A1 m1 c1) xs) ∧ Qb (Below W.heap.size W w'))
 case atStart => exact ⟨0, none, 0, 0, [], rfl, rfl, by omega, by omega, ⟨rfl, Nat.le_refl _⟩, ⟨rfl⟩, ⟨Kd.R_nil _ _ _ _ _⟩, ⟨Below.refl _ _⟩⟩
 case round =>
  obtain ⟨i, A1, c1, m1, xs, rfl, rfl, hi, hk, hm, hs, hR, hBr⟩ := hrel
  by_cases hlt : i < n
  ·have q1 : decide ((i : Int) < (n : Int)) = true := decide_eq_true (by omega)
   have hlk := (h9.out.of_block (hBr.out.block _ h9.out.lt)).look (show WF (i : Int) from ⟨by omega, by omega⟩)
   have hst : ris g (n - i) i = if 0 < g (i : Int) then (i : Int) :: ris g (n - (i + 1)) (i + 1) else ris g (n - (i + 1)) (i + 1) := by
    rw [show n - i = (n - (i + 1)) + 1 by omega]; rfl
   generalize g (i : Int) = gi at *
   have hL : Qb ((xs.length + 1) * 8 ≤ 140737488355328) := ⟨by have := hm.out; omega⟩
   by_cases y1 : 0 < gi
   ·have q2 : decide (0 < gi) = true := decide_eq_true y1
    have hs2 : Qb ((xs ++ [(i : Int)]) ++ ris g (n - (i + 1)) (i + 1) = ris g n 0) := ⟨by rw [← hs.out, hst, if_pos y1, List.append_assoc]; rfl⟩
    clear hst
    go_wp2_with (first | ((with_reducible refine Zi (b := .append) (xs := #[.tmp 15, .tmp 17]) rfl ?_); at_builtin; go_loud (refine Kd.R_append kI (w0 := W) W.heap.size rfl (.tmp 15) (.tmp 17) 42 3 (.int .i64 0) 8 rfl Tryd.underlying42 infI rfl (by decide) (by decide) (.slice A1 m1 c1) xs (i : Int) [.int .i64 (i : Int)] (fun _ => True) (fun _ => False) rfl rfl ?aP (fun _ hk => hk.elim) (fun _ _ => trivial) ?aO ?aB ?aS ?aL ?_); (case aP => exact rfl); (case aO => exact hR.out); (case aB => exact hBr.out); (case aS => exact hBr.out.size); (case aL => exact hL.out); intro v3 w3 hr3 hb3 hg3 hat3; obtain ⟨A3, c3, hv3⟩ := Kd.Z8 hr3; rw [List.length_append, List.length_singleton] at hv3; subst hv3; have hr3 := Qb.mk hr3; have hb3 := Qb.mk hb3; clear hg3 hat3))
    go_roundg (gk - 1)
    case measure => omega
    case rel => exact ⟨i + 1, A3, c3, _, xs ++ [(i : Int)], rfl, by go_num, by omega, by omega, ⟨by simp, by have := hm.out; simp; omega⟩, hs2, hr3, hb3⟩
   ·have q2 : decide (0 < gi) = false := decide_eq_false y1
    have hs2 : Qb (xs ++ ris g (n - (i + 1)) (i + 1) = ris g n 0) := ⟨by rw [← hs.out, hst, if_neg y1]⟩
    clear hst
    go_wp2
    go_roundg (gk - 1)
    case measure => omega
    case rel => exact ⟨i + 1, A1, c1, m1, xs, rfl, by go_num, by omega, by omega, ⟨hm.out.1, by have := hm.out; omega⟩, hs2, hR, hBr⟩
  ·have q1 : decide ((i : Int) < (n : Int)) = false := decide_eq_false (by omega)
   have hfin : Qb (Kd.R kI 3 wr W.heap.size (fun _ => True) (.slice A1 m1 c1) (ris g n 0)) := ⟨by
    have h1 := hs.out
    rw [show n - i = 0 by omega] at h1
    simp only [ris, List.append_nil] at h1
    rw [← h1]
    exact hR.out⟩
   go_wp2
   go_ret
   exact ⟨_, rfl, hfin.out, hBr.out⟩
def okD (d : S34) : Bool := nsz d.f1 && okE d.f2 && decide (d.f1.length + cost d.f2 ≤ 10000000000) && decide (d.f0.size ≤ 140737488351232)
def usesL (ds : List S34) (k : Nat) : List Int := match ds[k]? with
 | some d => ris (memN (fx ds d.f2 (d.f1 ++ []) [])) ds.length 0
 | none => []
theorem empties : (cnt [] = fun _ => 0) ∧ (memN [] = fun _ => 0) := ⟨by funext s; rfl, by funext s; rfl⟩
set_option maxHeartbeats 8000000 in
set_option maxRecDepth 100000 in
theorem uses_calls {w : World} (ds : List S34) {Ad Af : Option Addr} {nd cd cf : Nat} (hC : Kd.C k34 w Af ds.length ds) (k : Nat) (hk : k < ds.length) (hok : okD ds[k] = true) (hl : ds.length ≤ 1000000) :
  Calls Tryd.prog 19 #[.agg #[.slice Ad nd cd, .slice Af ds.length cf], .int .i64 (k : Int)] w fun e w' => ∃ v0_ : Value, e = .returned v0_ ∧ Kd.R kI 3 w' w.heap.size (fun _ => True) v0_ (usesL ds k) ∧ Below w.heap.size w w' := by
 have hmm := @run_makeMap Tryd.prog
 have E : ∀ W : World, ∀ o : Obj, (W.alloc o).heap.size = W.heap.size + 1 := fun W o => Array.size_push _
 obtain ⟨ad, A1, c1, A3, c3, A4, c4, A5, c5, rfl, _, u1, u2, u3, u4, u5, u6, u7, g1, g3, g4, g5⟩ := at_d (Below.refl _ _) hC k hk
 have hcells : ∀ w2 : World, Below w.heap.size w w2 → w2.cell? ⟨(ad.add (k * 8)).block, (ad.add (k * 8)).off + 1, none⟩ = some (.slice A1 ds[k].f1.length c1) ∧ w2.cell? ⟨(ad.add (k * 8)).block, (ad.add (k * 8)).off + 2, none⟩ = some (.int .i64 ds[k].f2.f0) ∧ w2.cell? ⟨(ad.add (k * 8)).block, (ad.add (k * 8)).off + 3, none⟩ = some (.string ds[k].f2.f1) ∧ w2.cell? ⟨(ad.add (k * 8)).block, (ad.add (k * 8)).off + 4, none⟩ = some (.int .i64 ds[k].f2.f2) ∧ w2.cell? ⟨(ad.add (k * 8)).block, (ad.add (k * 8)).off + 5, none⟩ = some (.slice A3 ds[k].f2.f3.length c3) ∧ w2.cell? ⟨(ad.add (k * 8)).block, (ad.add (k * 8)).off + 6, none⟩ = some (.slice A4 ds[k].f2.f4.length c4) ∧ w2.cell? ⟨(ad.add (k * 8)).block, (ad.add (k * 8)).off + 7, none⟩ = some (.slice A5 ds[k].f2.f5.length c5) := by
  intro w2 hb2
  have T : ∀ {a : Addr} {u : Value}, w.cell? a = some u → w2.cell? a = some u := fun h => (hb2.cell (World.block_lt_of_cell? _ _ h)).trans h
  exact ⟨T u1, T u2, T u3, T u4, T u5, T u6, T u7⟩
 clear u1 u2 u3 u4 u5 u6 u7
 have hu : usesL ds k = ris (memN (fx ds ds[k].f2 (ds[k].f1 ++ []) [])) ds.length 0 := by unfold usesL; rw [List.getElem?_eq_getElem hk]
 rw [hu]
 clear hu
 generalize ds[k] = d at *
 unfold okD at hok
 simp only [Bool.and_eq_true, decide_eq_true_eq] at hok
 obtain ⟨⟨⟨hok1, hok2⟩, hok3⟩, _⟩ := hok
 have hb4 : Below w.heap.size w ((((w.alloc (.cells #[.slice Ad nd cd, .slice (some ad) ds.length cf] 38)).alloc (.map #[] 0)).alloc (.map #[] 0)).alloc (.cells #[.slice Ad nd cd, .slice (some ad) ds.length cf, .map (some (w.heap.size + 1)), .map (some (w.heap.size + 1 + 1))] 81)) := Qd (Qd (Qd (Qd (Below.refl _ _) _) _) _) _
 have hF : FS ((((w.alloc (.cells #[.slice Ad nd cd, .slice (some ad) ds.length cf] 38)).alloc (.map #[] 0)).alloc (.map #[] 0)).alloc (.cells #[.slice Ad nd cd, .slice (some ad) ds.length cf, .map (some (w.heap.size + 1)), .map (some (w.heap.size + 1 + 1))] 81)) w.heap.size (w.heap.size + 1 + 1 + 1) (w.heap.size + 1) (w.heap.size + 1 + 1) (.slice Ad nd cd) (.slice (some ad) ds.length cf) 0 0 (cnt []) (memN []) := by
  refine ⟨?_, ?_, ?_, ⟨by omega, by omega, by omega⟩, by omega⟩
  ·have h := Qv (((w.alloc (.cells #[.slice Ad nd cd, .slice (some ad) ds.length cf] 38)).alloc (.map #[] 0)).alloc (.map #[] 0)) (.cells #[.slice Ad nd cd, .slice (some ad) ds.length cf, .map (some (w.heap.size + 1)), .map (some (w.heap.size + 1 + 1))] 81 (0, 0))
   rwa [E, E, E] at h
  ·rw [empties.1]
   have h := MapS.made (w.alloc (.cells #[.slice Ad nd cd, .slice (some ad) ds.length cf] 38))
   rw [E] at h
   have h2 : w.heap.size + 1 < ((w.alloc (.cells #[.slice Ad nd cd, .slice (some ad) ds.length cf] 38)).alloc (.map #[] 0)).heap.size := by rw [E, E]; omega
   exact h.of_block ((Below.heap_alloc _ _ _ (by rw [E, E, E]; omega)).trans (Below.heap_alloc _ _ _ h2))
  ·rw [empties.2]
   have h := MapN.made ((w.alloc (.cells #[.slice Ad nd cd, .slice (some ad) ds.length cf] 38)).alloc (.map #[] 0))
   rw [E, E] at h
   exact h.of_block (Below.heap_alloc _ _ _ (by rw [E, E, E]; omega))
 have hPb : ((((w.alloc (.cells #[.slice Ad nd cd, .slice (some ad) ds.length cf] 38)).alloc (.map #[] 0)).alloc (.map #[] 0)).alloc (.cells #[.slice Ad nd cd, .slice (some ad) ds.length cf, .map (some (w.heap.size + 1)), .map (some (w.heap.size + 1 + 1))] 81)).heap[w.heap.size]? = some (.cells #[.slice Ad nd cd, .slice (some ad) ds.length cf] 38 (0, 0)) := by
  have h := Qv w (.cells #[.slice Ad nd cd, .slice (some ad) ds.length cf] 38 (0, 0))
  exact (Below.heap_alloc _ _ _ (by rw [E, E, E]; omega)).trans ((Below.heap_alloc _ _ _ (by rw [E, E]; omega)).trans ((Below.heap_alloc _ _ _ (by rw [E]; omega)).trans h))
 have hnP : ¬ FP (w.heap.size + 1 + 1 + 1) (w.heap.size + 1) (w.heap.size + 1 + 1) w.heap.size := by unfold FP; omega
 have hv1 := (hcells _ hb4).1
 have CB := bind_st hF (Mod.refl _ (FP (w.heap.size + 1 + 1 + 1) (w.heap.size + 1) (w.heap.size + 1 + 1))) hb4 d.f1 g1 (c := c1) hok1 1 (by decide) (addk_in d.f1 []) (by simp; omega) (by omega)
 have hcells := Qb.mk hcells
 have hF9 := Qb.mk hF
 have hb9 := Qb.mk hb4
 have hP9 := Qb.mk hPb
 have hn9 := Qb.mk hnP
 have hC9 := Qb.mk hC
 have hs9 : Qb (w.heap.size ≤ ((((w.alloc (.cells #[.slice Ad nd cd, .slice (some ad) ds.length cf] 38)).alloc (.map #[] 0)).alloc (.map #[] 0)).alloc (.cells #[.slice Ad nd cd, .slice (some ad) ds.length cf, .map (some (w.heap.size + 1)), .map (some (w.heap.size + 1 + 1))] 81)).heap.size) := ⟨hb4.size⟩
 have hok2 := Qb.mk hok2
 have hok3 := Qb.mk hok3
 have hg9 := Qb.mk (And.intro g3 (And.intro g4 g5))
 have p1 : decide ((k : Int) < 0) = false := decide_eq_false (by omega)
 have p2 : decide ((ds.length : Int) ≤ (k : Int)) = false := decide_eq_false (by omega)
 have p3 : (0 : Int) ≤ (k : Int) := by omega
 have p4 : (k : Int) < (ds.length : Int) := by omega
 clear hC hb4 hF hPb hnP g1 g3 g4 g5 hok1
 go_enter Tryd.func19, Tryd.ntmps19
 go_wp2_with (first | (go_at_call 43; go_loud (with_reducible refine CB.mono ?_); rintro r w5 ⟨rfl, hst5⟩; have HS5 := Qb.mk hst5; have hbw5 := hb9.out.trans (St.below hst5 hF9.out hs9.out); have hx5 := (Qa (St.blk hst5 hP9.out hn9.out) 1).trans rfl; obtain ⟨_, hy2, hy3, hy4, hy5, hy6, hy7⟩ := hcells.out w5 hbw5; have CX := step_x (expr_calls hC9.out (cost d.f2) d.f2 (Nat.le_refl _)) hF9.out hb9.out hs9.out hst5 hok2.out (by have := hok3.out; simp; omega) (by have := hok3.out; omega) (by have := hok3.out; omega) hg9.out.1 hg9.out.2.1 hg9.out.2.2 c3 c4 c5; clear hst5 hbw5 CB hv1) | (go_at_call 44; go_loud (with_reducible refine CX.mono ?_); rintro r w6 ⟨rfl, hst6⟩; have HS6 := Qb.mk hst6; clear hst6 CX hx5 hy2 hy3 hy4 hy5 hy6 hy7))
 have hbw6 := Qb.mk (hb9.out.trans (St.below HS6.out hF9.out hs9.out))
 have hPw6 := Qb.mk (St.blk HS6.out hP9.out hn9.out)
 obtain ⟨na6, nh6, hF6, _⟩ := HS6.out
 have hF6 : Qb (FS w6.drew w.heap.size (w.heap.size + 1 + 1 + 1) (w.heap.size + 1) (w.heap.size + 1 + 1) (.slice Ad nd cd) (.slice (some ad) ds.length cf) na6 nh6 (cnt (d.f1 ++ [])) (memN (fx ds d.f2 (d.f1 ++ []) []))) := ⟨hF6.below (Qi (Below.refl _ _))⟩
 have hbd6 : Qb (Below w.heap.size w w6.drew) := ⟨Qi hbw6.out⟩
 have X1 : Qb (w6.drew.cell? ⟨w.heap.size, 1, none⟩ = some (.slice (some ad) ds.length cf)) := ⟨(Qa hPw6.out 1).trans rfl⟩
 have X3 : Qb (w6.drew.cell? ⟨w.heap.size + 1 + 1 + 1, 3, none⟩ = some (.map (some (w.heap.size + 1 + 1)))) := ⟨hF6.out.cells.2.2.2⟩
 clear HS6 hPw6 hbw6
 refine QZ (n := 9) (S := fun w' => w'.cell? ⟨w.heap.size, 1, none⟩ = some (.slice (some ad) ds.length cf) ∧ w'.cell? ⟨w.heap.size + 1 + 1 + 1, 3, none⟩ = some (.map (some (w.heap.size + 1 + 1)))) (ds := []) (bm 9 0) (by kernel_rfl) rfl rfl ⟨X1.out, X3.out⟩ (fun hHeld => ?_)
 generalize w6.drew = W9 at *
 refine Q4 (i := 0) (N := some 36) (v := ?_) (a' := ?_) (bm 9 1) rfl rfl (by kernel_rfl) (fun _ _ _ h => h) (Or.inl ⟨by rfl, ?_⟩) ?_ ?_
 rotate_left
 ·intro w'
  go_simp
  with_reducible rfl
 rotate_left
 ·simp only [Act.put, sA, sB, sC, Qk, Ql]
  rfl
 refine Q4 (i := 3) (N := some 39) (v := ?_) (a' := ?_) (bm 9 9) rfl rfl (by kernel_rfl) (fun _ _ _ h => h) (Or.inl ⟨by rfl, ?_⟩) ?_ ?_
 rotate_left
 ·intro w'
  go_simp
  with_reducible rfl
 rotate_left
 ·simp only [Act.put, sA, sB, sC, Qk, Ql]
  rfl
 refine Q4 (i := 4) (N := some 40) (v := ?_) (a' := ?_) (bm 9 25) rfl rfl (by kernel_rfl) (fun _ _ _ h => h) (Or.inl ⟨by rfl, ?_⟩) ?_ ?_
 rotate_left
 ·intro w'
  go_simp
  with_reducible rfl
 rotate_left
 ·simp only [Act.put, sA, sB, sC, Qk, Ql]
  rfl
 refine Q4 (i := 5) (N := some 41) (v := ?_) (a' := ?_) (bm 9 57) rfl rfl (by kernel_rfl) (fun _ _ _ h => h) (Or.inl ⟨by rfl, ?_⟩) ?_ ?_
 rotate_left
 ·intro w'
  go_simp
  with_reducible rfl
 rotate_left
 ·simp only [Act.put, sA, sB, sC, Qk, Ql]
  rfl
 refine QE (i := 1) (N := some 37) (v := ?_) (a' := ?_) (bm 9 59) rfl rfl (by kernel_rfl) (fun _ _ _ h => h) (Or.inl ⟨by rfl, ?_⟩) hHeld ?_ ?_
 rotate_left
 ·rintro w' ⟨s0, s1⟩
  go_simp
  with_reducible rfl
 rotate_left
 ·simp only [Act.put, sA, sB, sC, Qk, Ql]
  rfl
 refine Q4 (i := 2) (N := some 38) (v := ?_) (a' := ?_) (bm 9 63) rfl rfl (by kernel_rfl) (fun _ _ _ h => h) (Or.inl ⟨by rfl, ?_⟩) ?_ ?_
 rotate_left
 ·intro w'
  go_simp
  with_reducible rfl
 rotate_left
 ·simp only [Act.put, sA, sB, sC, Qk, Ql]
  rfl
 refine QE (i := 6) (N := some 42) (v := ?_) (a' := ?_) (bm 9 127) rfl rfl (by kernel_rfl) (fun _ _ _ h => h) (Or.inl ⟨by rfl, ?_⟩) hHeld ?_ ?_
 rotate_left
 ·rintro w' ⟨s0, s1⟩
  go_simp
  with_reducible rfl
 rotate_left
 ·simp only [Act.put, sA, sB, sC, Qk, Ql]
  rfl
 refine QQ (i := 7) (N := some 43) (bm 9 255) rfl rfl (by kernel_rfl) (by decide) (fun K hK => ?_)
 refine QI Tryd.func31 (by kernel_rfl) rfl #[.int .i64 (ds.length : Int), .map (some (w.heap.size + 1 + 1))] (by rfl) rfl rfl (by simp only [List.map_toArray, List.map_cons, List.map_nil]; rfl) ?_
 (with_reducible refine (rising_calls hF6.out.hm ds.length (by omega)).mono ?_)
 rintro e w7 ⟨v7, rfl, hr7, hbq⟩
 refine ⟨_, rfl, ?_⟩
 have HRr := Qb.mk (Kd.ZT hr7 hbd6.out.size)
 have HBr := Qb.mk (hbd6.out.trans (hbq.mono hbd6.out.size))
 refine hK.out _ _ ⟨(hbq.cell (World.block_lt_of_cell? _ _ (hHeld.1))).trans (hHeld.1), (hbq.cell (World.block_lt_of_cell? _ _ (hHeld.2))).trans (hHeld.2)⟩ (fun hHeld => ?_)
 clear hK K
 refine Qq (a' := ?_) ?_ ?_
 rotate_left
 ·show Act.put _ (some 43) _ = _
  simp only [Act.put, sA, sB, sC, Qk, Ql]
  rfl
 refine Q4 (i := 8) (N := some 4) (v := ?_) (a' := ?_) (bm 9 511) rfl rfl (by kernel_rfl) (fun _ _ _ h => h) (Or.inl ⟨by rfl, ?_⟩) ?_ ?_
 rotate_left
 ·intro w'
  go_simp
  with_reducible rfl
 rotate_left
 ·simp only [Act.put, sA, sB, sC, Qk, Ql]
  rfl
 refine Zx (by kernel_rfl) ?_
 clear hHeld
 go_wp2
 go_ret
 exact ⟨_, rfl, HRr.out, HBr.out⟩
end Go.Proofs.YtlgpoigbadajnaaDoor.DepA
namespace Go.Proofs.YtlgpoigbadajnaaDoor.DepA
open Go.Maps (Keyed)
open Go.RowKit Go.Proofs.YtlgpoigbadajnaaDoorW.PrintWords Go.Proofs.YtlgpoigbadajnaaDoorW.PrintLast Go.Proofs.YtlgpoigbadajnaaDoorW.PrintMore Go.Proofs.YtlgpoigbadajnaaDoor.PDepA
set_option linter.unusedVariables false
set_option linter.unusedSimpArgs false
abbrev kII : Kd (List Int) := Kd.slice 3 kI
theorem at_row {w0 wr : World} (hB : Below w0.heap.size w0 wr) {A : Option Addr} {l : List (List Int)} (hC : Kd.C kII w0 A l.length l) (i : Nat) (hi : i < l.length) : ∃ ad A1 c1, A = some ad ∧ wr.cell? (ad.add i) = some (.slice A1 l[i].length c1) ∧ Kd.C kI w0 A1 l[i].length l[i] ∧ l[i].length ≤ c1 := by
 obtain ⟨ad, c, e, _, hK, hc⟩ := Kd.C_get hC ([] : List Int) (i : Int) (by omega) (by omega)
 obtain ⟨A1, c1, hc1, hl, hr⟩ := hK
 subst hc1
 have hx : l.getD i [] = l[i] := by simp [hi]
 simp only [Int.toNat_natCast] at hl hr hc
 rw [hx] at hl hr
 have := hc 0 _ rfl
 have hsz : kII.sz = 1 := rfl
 rw [hsz, Nat.mul_one, Nat.add_zero, hx] at this
 exact ⟨ad, A1, c1, e, (hB.cell (World.block_lt_of_cell? _ _ this)).trans this, hr, hl⟩
def inI (h : List Int) (n : Int) : Bool := h.any fun t => decide (t = n)
theorem memN_in (h : List Int) (n : Int) : memN h n = if inI h n then 1 else 0 := rfl
def FD (r : List Int) : Lit → Option Value
 | .int .i64 s => if inI r s then some (.int .i64 1) else none
 | _ => none
def ZU (W : World) (b n : Nat) (r : List Int) : Prop := ∃ D : DataW Value, W.ownsMap Tryd.prog 3 rawR b n D ∧ Maps.Tidy D ∧ (∀ l z, D.atKey l z = match FD r l with | some v => .held v | none => z) ∧ Maps.size D = r.length
section
variable {W W1 : World} {b n : Nat} {r : List Int}
theorem ZU.mapF (h : ZU W b n r) : MapF W Tryd.prog 3 b n (FD r) := by
 obtain ⟨D, h1, h2, h3, h4⟩ := h
 exact ⟨D, h1, h2.isMap, h3⟩
theorem ZU.mapN (h : ZU W b n r) : MapN W b n (memN r) := ⟨FD r, h.mapF, fun s => by
 simp only [FD, memN_in]
 split <;> rename_i hh
 ·split at hh
  ·rename_i h2; rw [if_pos h2]; exact (Option.some.inj hh).symm
  ·cases hh
 ·split at hh
  ·cases hh
  ·rename_i h2; rw [if_neg h2]⟩
theorem ZU.lt (h : ZU W b n r) : b < W.heap.size := h.mapF.lt
theorem ZU.of_block (h : ZU W b n r) (hb : W1.heap[b]? = W.heap[b]?) : ZU W1 b n r := by
 obtain ⟨D, ⟨es, clock, h1, h2⟩, h3⟩ := h
 exact ⟨D, ⟨es, clock, hb.trans h1, h2⟩, h3⟩
theorem ZU.made (W : World) : ZU (W.alloc (.map #[] 0)) W.heap.size 0 [] := ⟨.map [], World.ownsMap_made W Tryd.prog 3 rawR, Maps.tidy_empty, fun l z => by
 have : FD [] l = none := by
  unfold FD
  split <;> rfl
 rw [this]; rfl, rfl⟩
theorem ZU.look (h : ZU W b n r) {s : Int} (hs : WF s) : (Instr.lookup 59 (.map (some b)) (.int .i64 s) false).run Tryd.prog W = .ok (.int .i64 (memN r s)) W := h.mapN.look hs
theorem has_of {D : DataW Value} {F : Lit → Option Value} (hD : ∀ l z, D.atKey l z = match F l with | some v => .held v | none => z) (l : Lit) : Maps.has D l = (F l).isSome := by
 cases hf : F l with
 | none => exact Maps.has_false_of_atKey (fun z => by have := hD l z; rwa [hf] at this)
 | some v => exact Maps.has_true_of_atKey (y := .held v) (fun z => by have := hD l z; rwa [hf] at this)
theorem ZU.store (h : ZU W b n r) (hn : n < maxLen) {s : Int} (hs : WF s) (hnew : inI r s = false) : ∃ W', (Instr.mapUpdate 59 (.map (some b)) (.int .i64 s) (.int .i64 1)).run Tryd.prog W = .ok () W' ∧ ZU W' b (n + 1) (r ++ [s]) ∧ W.grownBy W' (some b) := by
 obtain ⟨D, ho, ht, hD, hsz⟩ := h
 obtain ⟨W', hrun, ho', hg⟩ := ho.update keyedI Tryd.underlying59 hn (keyI hs) (val := .int .i64 1) (d := .held (.int .i64 1)) (ps := []) rfl
 refine ⟨W', hrun, ⟨_, ho', ht.put (keyI_is s) _, fun l z => ?_, ?_⟩, hg⟩
 ·by_cases hl : l = .int .i64 s
  ·subst hl
   rw [Maps.atKey_put_same ht.isMap (keyI_is s)]
   have : FD (r ++ [s]) (.int .i64 s) = some (.int .i64 1) := by simp [FD, inI]
   rw [this]
  ·rw [Maps.atKey_put_other hl, hD l z]
   have : FD (r ++ [s]) l = FD r l := by
    unfold FD
    split
    ·rename_i q
     have hq : ¬ s = q := fun e => hl (by rw [e])
     simp [inI, hq]
    ·rfl
   rw [this]
 ·rw [Maps.size_put ht, has_of hD, hsz]
  have : FD r (.int .i64 s) = none := by simp [FD, hnew]
  rw [this]
  simp
end
def nAdd (p : List Int × List Int) (n : Int) : List Int × List Int := if inI p.1 n then p else (p.1 ++ [n], p.2 ++ [n])
def small (us : List (List Int)) : Bool := decide (us.length ≤ 1000) && us.all (fun l => decide (l.length ≤ 1000) && l.all (fun n => decide (0 ≤ n) && decide (n < 100000)))
def bfs (us : List (List Int)) : Nat → List Int → List Int → Option (List Int)
 | 0, _, _ => none
 | F + 1, h, t => match t with
  | [] => some h
  | k :: t' => if decide (h.length ≤ 100000) && decide (t'.length ≤ 100000) && decide (0 ≤ k) then (match us[k.toNat]? with
   | some row => let p := row.foldl nAdd (h, t'); bfs us F p.1 p.2
   | none => none) else none
theorem bfs_step {us : List (List Int)} {F : Nat} {h : List Int} {k : Int} {t' r : List Int} (hb : bfs us (F + 1) h (k :: t') = some r) : h.length ≤ 100000 ∧ t'.length ≤ 100000 ∧ 0 ≤ k ∧ ∃ hk : k.toNat < us.length, bfs us F (us[k.toNat].foldl nAdd (h, t')).1 (us[k.toNat].foldl nAdd (h, t')).2 = some r := by
 simp only [bfs] at hb
 split at hb
 ·rename_i hc
  simp only [Bool.and_eq_true, decide_eq_true_eq] at hc
  split at hb
  ·rename_i row hrow
   obtain ⟨hk, he⟩ := List.getElem?_eq_some_iff.1 hrow
   subst he
   exact ⟨hc.1.1, hc.1.2, hc.2, hk, hb⟩
  ·cases hb
 ·cases hb
theorem small_row {us : List (List Int)} (h : small us = true) {i : Nat} (hi : i < us.length) : us[i].length ≤ 1000 ∧ ∀ n ∈ us[i], 0 ≤ n ∧ n < 100000 := by
 simp only [small, Bool.and_eq_true, decide_eq_true_eq] at h
 have h1 := List.all_eq_true.1 h.2 _ (List.getElem_mem hi)
 simp only [Bool.and_eq_true, decide_eq_true_eq] at h1
 exact ⟨h1.1, fun n hn => by simpa using List.all_eq_true.1 h1.2 n hn⟩
set_option maxHeartbeats 16000000 in
set_option maxRecDepth 100000 in
theorem needed_calls {w : World} (us : List (List Int)) (hsm : small us = true) {U : Option Addr} {cu : Nat} (hU : Kd.C kII w U us.length us) (d : Int) (hd : 0 ≤ d ∧ d < 100000) {F0 : Nat} {r : List Int} (hr0 : bfs us F0 [d] [d] = some r) :
  Calls Tryd.prog 29 #[.slice U us.length cu, .int .i64 d] w fun e w' => ∃ hb nh, e = .returned (.map (some hb)) ∧ ZU w' hb nh r ∧ w.heap.size ≤ hb ∧ Below w.heap.size w w' := by
 have hmm := @run_makeMap Tryd.prog
 have E : ∀ W : World, ∀ o : Obj, (W.alloc o).heap.size = W.heap.size + 1 := fun W o => Array.size_push _
 obtain ⟨W1, hst, hM1, hg1⟩ := (ZU.made w).store (by unfold maxLen; omega) (show WF d from ⟨by omega, by omega⟩) rfl
 have hM1' : ZU W1 w.heap.size 1 [d] := hM1
 have hb1 : Below w.heap.size w W1 := (Qd (Below.refl _ _) _).trans ((Mod.of_grown hg1).below (by rw [E]; omega) (fun j _ hj => by omega))
 have hb2 : Below w.heap.size w (W1.alloc (.cells #[.int .i64 d] 3)) := Qd hb1 _
 have hQ : Kd.Q kI 3 (W1.alloc (.cells #[.int .i64 d] 3)) w.heap.size (fun j => j ≠ w.heap.size) (.slice (some ⟨W1.heap.size, 0, none⟩) 1 1) [d] := by
  refine Kd.Q_of_R ⟨fun j hj => ?_, [.int .i64 d], ?_, ⟨rfl, fun j p hj => ?_⟩⟩
  ·have : j = W1.heap.size := by simpa [Value.ownBlock] using hj.symm
   have := hM1'.lt
   omega
  ·have h2 := World.ownsRow_lit (base := w.heap.size) (e := 3) (size := 1) W1 #[.int .i64 d] 1 hb1.size (by decide) (by simp)
   have hsz : kI.sz = 1 := rfl
   rw [hsz]
   simpa using h2
  ·match j, hj with
   | 0, hj => obtain rfl := Option.some.inj hj; rfl
 have hM2 := hM1'.of_block (W1 := W1.alloc (.cells #[.int .i64 d] 3)) (Below.heap_alloc _ _ _ hM1'.lt)
 have hM2 := Qb.mk hM2
 have hQ := Qb.mk hQ
 have hb2 := Qb.mk hb2
 have hU := Qb.mk hU
 have hsm := Qb.mk hsm
 have hr0 := Qb.mk hr0
 obtain ⟨i0, hi0, hzz⟩ := Option.map_eq_some_iff.1 infI
 simp only [Prod.mk.injEq] at hzz
 have hcut9 := Qb.mk (fun A n c h1 => cut_from (P := Tryd.prog) 42 3 .i64 Tryd.underlying42 hi0 1 hzz.2.1 A n c 1 (by omega) h1)
 clear hM1 hM1' hg1 hb1 hzz
 go_enter Tryd.func29, Tryd.ntmps29
 go_wp2
 go_loopg [6] F0 (fun kq v6 w' => ∃ (h t : List Int) (A : Option Addr) (c m nh : Nat), v6 = .slice A m c ∧ Qb (bfs us kq h t = some r) ∧ Qb (m = t.length) ∧ Qb (Kd.Q kI 3 w' w.heap.size (fun j => j ≠ w.heap.size) (.slice A m c) t) ∧ Qb (ZU w' w.heap.size nh h ∧ nh ≤ h.length) ∧ Qb (Below w.heap.size w w'))
 case atStart => exact ⟨[d], [d], _, _, _, 1, rfl, hr0, ⟨rfl⟩, hQ, ⟨hM2.out, Nat.le_refl _⟩, hb2⟩
 case round =>
  obtain ⟨h, t, A, c, m, nh, rfl, hbf, hm, hQr, hMr, hBr⟩ := hrel
  cases t with
  | nil =>
   have hm0 : m = 0 := hm.out
   subst hm0
   have hrr : h = r := by
    have := hbf.out
    cases gk with
    | zero => cases this
    | succ F => simpa [bfs] using this
   subst hrr
   go_wp2
   go_ret
   exact ⟨_, nh, rfl, hMr.out.1, Nat.le_refl _, hBr.out⟩
  | cons k t' =>
   cases gk with
   | zero => cases hbf.out
   | succ F =>
   obtain ⟨l1, l2, hk0, hku, hbn⟩ := bfs_step hbf.out
   have hmt : m = t'.length + 1 := hm.out
   subst hmt
   obtain ⟨adU, A1, c1, rfl, hv0, hrow, _⟩ := at_row hBr.out hU.out k.toNat hku
   obtain ⟨hs1, hs2⟩ := small_row hsm.out hku
   obtain ⟨ad, rfl, hv1⟩ := at_int (Kd.Q_reads' hQr.out).2.2 0 (by simp) (by simp)
   have hcm := (Kd.Q_reads' hQr.out).2.1
   have hcut := hcut9.out (some ad) (t'.length + 1) c (by omega)
   have hQd := Kd.Q_drop (k := 1) hQr.out (by simp)
   obtain ⟨A', hA'⟩ : ∃ A', (if c = 1 then (some ad) else (some ad : Option Addr).map (·.add (1 * kI.sz))) = A' := ⟨_, rfl⟩
   rw [hA'] at hQd
   have hsz : kI.sz = 1 := rfl
   rw [hsz] at hA'
   rw [show (1 : Int).toNat = 1 from rfl, hA', show t'.length + 1 - 1 = t'.length by omega] at hcut
   rw [show t'.length + 1 - 1 = t'.length by omega] at hQd
   simp only [List.drop_succ_cons, List.drop_zero] at hQd
   simp only [List.getElem_cons_zero] at hv1
   rw [show (ad.add 0) = ad by simp [Addr.add]] at hv1
   have p1 : decide ((0 : Int) < ((t'.length : Int) + 1)) = true := decide_eq_true (by omega)
   have p3 : k < (us.length : Int) := by omega
   have hQd := Qb.mk hQd
   have hrow := Qb.mk hrow
   have hs1' := Qb.mk hs1
   have hs2 := Qb.mk hs2
   have hbn := Qb.mk hbn
   have hl12 := Qb.mk (And.intro l1 l2)
   generalize us[k.toNat] = row at *
   clear hA' hsz hcm
   go_wp2
   go_loopg [6, 28] (row.length + 1) (fun kq v6 v28 w' => ∃ (i : Nat) (h2 t2 : List Int) (A2 : Option Addr) (c2 m2 nh2 : Nat), v6 = .slice A2 m2 c2 ∧ v28 = .int .i64 (i : Int) ∧ i + kq = row.length + 1 ∧ 1 ≤ kq ∧ Qb ((row.drop i).foldl nAdd (h2, t2) = row.foldl nAdd (h, t')) ∧ Qb (m2 = t2.length ∧ t2.length ≤ t'.length + i ∧ h2.length ≤ h.length + i) ∧ Qb (Kd.Q kI 3 w' w.heap.size (fun j => j ≠ w.heap.size) (.slice A2 m2 c2) t2) ∧ Qb (ZU w' w.heap.size nh2 h2 ∧ nh2 ≤ h2.length) ∧ Qb (Below w.heap.size w w'))
   case atStart => exact ⟨0, h, t', _, _, _, nh, rfl, rfl, by omega, by omega, ⟨rfl⟩, ⟨rfl, Nat.le_refl _, Nat.le_refl _⟩, hQd, hMr, hBr⟩
   case round =>
    obtain ⟨i, h2, t2, A2, c2, m2, nh2, rfl, rfl, hi, hk, hfo, hm2, hQ2, hM2r, hB2⟩ := hrel
    by_cases hlt : i < row.length
    ·obtain ⟨adr, rfl, hv⟩ := at_int (Kd.Qj hrow.out hB2.out) i hlt hlt
     have p0 : (0 : Int) ≤ (i : Int) := by omega
     have q0 : (i : Int) < (row.length : Int) := by omega
     have q1 : decide ((i : Int) < (row.length : Int)) = true := decide_eq_true q0
     have hnb := hs2.out row[i] (List.getElem_mem hlt)
     have hfo2 : (row.drop (i + 1)).foldl nAdd (nAdd (h2, t2) row[i]) = row.foldl nAdd (h, t') := by rw [← hfo.out, List.drop_eq_getElem_cons hlt]; rfl
     generalize row[i] = x at *
     have hwx : WF x := ⟨by omega, by omega⟩
     have hlk := hM2r.out.1.look hwx
     rw [memN_in] at hlk
     by_cases y1 : inI h2 x = true
     ·rw [if_pos y1] at hlk
      have e1 : nAdd (h2, t2) x = (h2, t2) := by unfold nAdd; rw [if_pos y1]
      rw [e1] at hfo2
      have hfo2 := Qb.mk hfo2
      clear e1 hnb hwx y1
      go_wp2
      go_roundg (gk - 1)
      case measure => omega
      case rel => exact ⟨i + 1, h2, t2, A2, c2, m2, nh2, rfl, by go_num, by omega, by omega, hfo2, ⟨hm2.out.1, by have := hm2.out; omega, by have := hm2.out; omega⟩, hQ2, hM2r, hB2⟩
     ·rw [if_neg y1] at hlk
      have e1 : nAdd (h2, t2) x = (h2 ++ [x], t2 ++ [x]) := by unfold nAdd; rw [if_neg y1]
      rw [e1] at hfo2
      have hfo2 := Qb.mk hfo2
      obtain ⟨W7, hst7, hM7, hg7⟩ := hM2r.out.1.store (by have := hm2.out; have := hM2r.out.2; have := hl12.out; have := hs1'.out; unfold maxLen; omega) hwx (by simpa using y1)
      have hQ7 := Qb.mk (Kd.Q_grown hQ2.out hg7 (fun j hj e => hj (Option.some.inj e)))
      have hB7 : Qb (Below w.heap.size w W7) := ⟨hB2.out.trans ((Mod.of_grown hg7).below hB2.out.size (fun j _ hj => Nat.le_of_eq hj.symm))⟩
      have hM7 := Qb.mk hM7
      have hL7 : Qb ((t2.length + 1) * 8 ≤ 140737488355328) := ⟨by have := hm2.out; have := hl12.out; have := hs1'.out; omega⟩
      have hfr : Qb (∀ j, W7.heap.size ≤ j → j ≠ w.heap.size) := ⟨fun j hj => by have := hM7.out.lt; omega⟩
      clear e1 hnb hwx y1 hg7
      go_wp2_with (first | ((with_reducible refine Zi (b := .append) (xs := #[.tmp 38, .tmp 40]) rfl ?_); at_builtin; go_loud (refine Kd.Q_append kI (w0 := w) w.heap.size rfl (.tmp 38) (.tmp 40) 42 3 (.int .i64 0) 8 rfl Tryd.underlying42 infI rfl (by decide) (by decide) (.slice A2 m2 c2) t2 x [.int .i64 x] (fun j => j ≠ w.heap.size) (fun _ => False) rfl rfl ?aP (fun _ hk => hk.elim) ?aF ?aO ?aB ?aS ?aL ?_); (case aP => exact rfl); (case aF => exact hfr.out); (case aO => exact hQ7.out); (case aB => exact hB7.out); (case aS => exact hB7.out.size); (case aL => exact hL7.out); intro v3 w3 hr3 hb3 hg3 hat3; obtain ⟨A3, c3, hv3, _⟩ := Kd.Q_slice hr3; rw [List.length_append, List.length_singleton] at hv3; subst hv3; have hm3 := Qb.mk (hM7.out.of_block (W1 := w3) (hg3.block _ hM7.out.lt (fun e => hQ7.out.1 _ e.symm rfl))); have hr3 := Qb.mk hr3; have hb3 := Qb.mk hb3; clear hg3 hat3))
      go_roundg (gk - 1)
      case measure => omega
      case rel => exact ⟨i + 1, h2 ++ [x], t2 ++ [x], A3, c3, t2.length + 1, nh2 + 1, rfl, by go_num, by omega, by omega, hfo2, ⟨by simp, by have := hm2.out; simp; omega, by have := hm2.out; simp; omega⟩, hr3, ⟨hm3.out, by have := hM2r.out.2; simp; omega⟩, hb3⟩
    ·have q1 : decide ((i : Int) < (row.length : Int)) = false := decide_eq_false (by omega)
     have hfin : Qb (bfs us F h2 t2 = some r) := ⟨by
      have h5 := hfo.out
      rw [List.drop_eq_nil_of_le (by omega)] at h5
      simp only [List.foldl_nil] at h5
      have h6 := hbn.out
      rw [← h5] at h6
      exact h6⟩
     go_wp2
     go_roundg F
     case measure => omega
     case rel => exact ⟨h2, t2, A2, c2, m2, nh2, rfl, hfin, ⟨hm2.out.1⟩, hQ2, hM2r, hB2⟩
end Go.Proofs.YtlgpoigbadajnaaDoor.DepA
namespace Go.Proofs.YtlgpoigbadajnaaDoor.DepA
open Go.RowKit Go.Proofs.YtlgpoigbadajnaaDoorW.PrintWords Go.Proofs.YtlgpoigbadajnaaDoorW.PrintLast Go.Proofs.YtlgpoigbadajnaaDoorW.PrintMore Go.Proofs.YtlgpoigbadajnaaDoor.PDepA
set_option linter.unusedVariables false
set_option linter.unusedSimpArgs false
theorem infSI : (Tryd.prog.info? 42).map (fun i => (i.zero, i.size, i.bytes)) = some (some (.slice none 0 0), 1, 24) := by kernel_rfl
theorem made_one (z : Value) (hz : z.cells = #[z]) (n : Nat) : (madeCells z.cells (n * 1)).toList = List.replicate n z := by
 rw [hz, Nat.mul_one]
 apply List.ext_getElem
 ·simp [size_madeCells]
 ·intro i h1 h2
  simp [madeCells, Nat.mod_one]
theorem add_i (g i : Nat) : (⟨g, 0, none⟩ : Addr).add i = ⟨g, i, none⟩ := by
 simp only [Addr.add]
 split <;> simp_all
def allL (ds : List S34) : List (List Int) := (List.range ds.length).map (usesL ds)
theorem Rn_ok {base : Nat} {ok ok' : Nat → Prop} {W : World} {v : Value} {xs : List Int} (h : Kd.R kI 3 W base ok v xs) (hok : ∀ j, v.ownBlock = some j → ok' j) : Kd.R kI 3 W base ok' v xs := by
 obtain ⟨h0, inner, ho, hr⟩ := h
 exact ⟨hok, inner, ho, hr.imp_ (fun _ _ hm => hm)⟩
theorem Rn_step {base : Nat} {ok ok' : Nat → Prop} {W W1 : World} {v : Value} {xs : List Int} (h : Kd.R kI 3 W base ok v xs) (hb : ∀ j, v.ownBlock = some j → W1.heap[j]? = W.heap[j]?) (hok : ∀ j, v.ownBlock = some j → ok' j) : Kd.R kI 3 W1 base ok' v xs :=
 Rn_ok (Kd.R_step (Rn_ok (ok' := fun j => v.ownBlock = some j) h (fun _ hj => hj)) (fun j hj _ => hb j hj)) hok
structure AL (W : World) (base g n : Nat) (ls : List (List Int)) : Prop where
 blk : ∃ vs : List Value, W.heap[g]? = some (.cells (vs ++ List.replicate (n - ls.length) (Value.slice none 0 0)).toArray 42 (0, 0)) ∧ vs.length = ls.length ∧ ∀ j (h : j < ls.length) v, vs[j]? = some v → Kd.R kI 3 W base (fun k => k ≠ g) v ls[j]
 ge : base ≤ g
 le : ls.length ≤ n
theorem AL.below {W W1 : World} {base g n : Nat} {ls : List (List Int)} (h : AL W base g n ls) (hb : Below W.heap.size W W1) : AL W1 base g n ls := by
 obtain ⟨⟨vs, h1, h2, h3⟩, h4, h5⟩ := h
 exact ⟨⟨vs, Qc h1 hb, h2, fun j hj v hv => Rn_step (h3 j hj v hv) (fun k hk => hb.block k (Kd.R_lt (h3 j hj v hv) k hk)) (fun k hk => (h3 j hj v hv).1 k hk)⟩, h4, h5⟩
theorem AL.lt {W : World} {base g n : Nat} {ls : List (List Int)} (h : AL W base g n ls) : g < W.heap.size := by
 obtain ⟨⟨vs, h1, _⟩, _⟩ := h
 exact (Array.getElem?_eq_some_iff.1 h1).1
theorem AL.put {W : World} {base g n : Nat} {ls : List (List Int)} (h : AL W base g n ls) (hlt : ls.length < n) {v : Value} {l : List Int} (hr : Kd.R kI 3 W base (fun k => k ≠ g) v l) : AL (W.setCell ⟨g, ls.length, none⟩ v) base g n (ls ++ [l]) := by
 obtain ⟨⟨vs, h1, h2, h3⟩, h4, h5⟩ := h
 have hfar : ∀ k, k ≠ g → (W.setCell ⟨g, ls.length, none⟩ v).heap[k]? = W.heap[k]? := fun k hk => Below.heap_setCell W ⟨g, ls.length, none⟩ v k hk
 refine ⟨⟨vs ++ [v], ?_, by simp [h2], fun j hj u hu => ?_⟩, h4, by simp; omega⟩
 ·refine QP h1 ls.length v ?_
  rw [← h2]
  apply Array.toList_inj.1
  rw [Array.toList_setIfInBounds, List.toList_toArray, List.toList_toArray]
  rw [show n - vs.length = (n - (vs ++ [v]).length) + 1 by simp; omega, List.replicate_succ]
  have h6 : (ls ++ [l]).length = (vs ++ [v]).length := by simp [h2]
  rw [h6]
  simp
 ·have hjl : j < vs.length + 1 := by have := (List.getElem?_eq_some_iff.1 hu).1; simpa using this
  rcases Nat.lt_or_ge j vs.length with hj2 | hj2
  ·rw [List.getElem?_append_left hj2] at hu
   have h7 := h3 j (by omega) u hu
   rw [List.getElem_append_left (by omega)]
   exact Rn_step h7 (fun k hk => hfar k (h7.1 k hk)) (fun k hk => h7.1 k hk)
  ·have : j = vs.length := by omega
   subst this
   rw [List.getElem?_append_right (Nat.le_refl _), Nat.sub_self] at hu
   obtain rfl : v = u := by simpa using hu
   have h8 : (ls ++ [l])[vs.length]'hj = l := by simp [h2]
   rw [h8]
   exact Rn_step hr (fun k hk => hfar k (hr.1 k hk)) (fun k hk => hr.1 k hk)
theorem AL.row {W : World} {base g n : Nat} {ls : List (List Int)} (h : AL W base g n ls) (hn : ls.length = n) (hm : n ≤ maxLen) : Kd.C kII W (some ⟨g, 0, none⟩) ls.length ls := by
 obtain ⟨⟨vs, h1, h2, h3⟩, h4, h5⟩ := h
 refine ⟨rfl, by rw [hn]; exact hm, fun _ => ⟨_, rfl, fun j p hj => ?_⟩⟩
 obtain ⟨hjl, hp⟩ := List.getElem?_eq_some_iff.1 hj
 have hv : vs[j]? = some vs[j] := List.getElem?_eq_getElem (by omega)
 have hR := h3 j hjl _ hv
 rw [hp] at hR
 obtain ⟨A, c, he, hl, hC⟩ := Kd.R_reads hR
 refine ⟨[vs[j]], rfl, ⟨A, c, by rw [he], hl, hC⟩, fun i u hu => ?_⟩
 match i, hu with
 | 0, hu =>
  have hsz : kII.sz = 1 := rfl
  rw [hsz, Nat.mul_one, Nat.add_zero, add_i, Qa h1]
  rw [hn, Nat.sub_self]
  simpa [hv] using hu
theorem AL.cell {W : World} {base g n : Nat} {ls : List (List Int)} (h : AL W base g n ls) (hlt : ls.length < n) : W.cell? ((⟨g, 0, none⟩ : Addr).add ls.length) = some (.slice none 0 0) ∧ W.frozen? ((⟨g, 0, none⟩ : Addr).add ls.length) = false := by
 obtain ⟨⟨vs, h1, h2, h3⟩, h4, h5⟩ := h
 rw [add_i]
 refine ⟨?_, Qg h1 _⟩
 rw [Qa h1, ← h2]
 rw [show n - vs.length = (n - vs.length - 1) + 1 by omega, List.replicate_succ]
 simp
theorem AL.made {w : World} (n : Nat) {W1 : World} (hW : W1 = w.alloc (.cells (madeCells (Value.slice none 0 0).cells (n * 1)) 42)) {base : Nat} (hb : base ≤ w.heap.size) : AL W1 base w.heap.size n [] := by
 subst hW
 refine ⟨⟨[], ?_, rfl, fun j hj => by simp at hj⟩, hb, Nat.zero_le _⟩
 have h := Qv w (.cells (madeCells (Value.slice none 0 0).cells (n * 1)) 42 (0, 0))
 have e : (madeCells (Value.slice none 0 0).cells (n * 1)) = (List.replicate n (Value.slice none 0 0)).toArray := by
  apply Array.toList_inj.1
  rw [made_one _ rfl, List.toList_toArray]
 rw [e] at h ⊢
 simpa using h
def okDs (ds : List S34) : Bool := ds.all okD && decide (ds.length ≤ 1000)
theorem okDs_at {ds : List S34} (h : okDs ds = true) {k : Nat} (hk : k < ds.length) : okD ds[k] = true ∧ ds.length ≤ 1000 := by
 simp only [okDs, Bool.and_eq_true, decide_eq_true_eq] at h
 exact ⟨List.all_eq_true.1 h.1 _ (List.getElem_mem hk), h.2⟩
set_option maxHeartbeats 8000000 in
set_option maxRecDepth 100000 in
theorem all_calls {w : World} (ds : List S34) (hok : okDs ds = true) {Ad Af : Option Addr} {nd cd cf : Nat} (hC : Kd.C k34 w Af ds.length ds) :
  Calls Tryd.prog 28 #[.agg #[.slice Ad nd cd, .slice Af ds.length cf]] w fun e w' => ∃ A, e = .returned (.slice A (allL ds).length (allL ds).length) ∧ Kd.C kII w' A (allL ds).length (allL ds) ∧ Below w.heap.size w w' := by
 have hl : ds.length ≤ 1000 := by simp only [okDs, Bool.and_eq_true, decide_eq_true_eq] at hok; exact hok.2
 obtain ⟨i0, hi, hzz⟩ := Option.map_eq_some_iff.1 infSI
 simp only [Prod.mk.injEq] at hzz
 obtain ⟨hz0, hz1, hz2⟩ := hzz
 have hb1 := Qd (Below.refl w.heap.size w) (.cells #[.slice Ad nd cd, .slice Af ds.length cf] 38)
 have hr := run_make (P := Tryd.prog) (w := w.alloc (.cells #[.slice Ad nd cd, .slice Af ds.length cf] 38)) 40 42 i0 (.slice none 0 0) Tryd.underlying40 hi hz0 .i64 .i64 (ds.length : Int) (ds.length : Int) (by omega) (by omega) (by rw [hz2]; omega) (by omega)
 simp only [Int.toNat_natCast] at hr
 rw [hz1] at hr
 obtain ⟨W1, hW1⟩ : ∃ W1, (w.alloc (.cells #[.slice Ad nd cd, .slice Af ds.length cf] 38)).alloc (.cells (madeCells (Value.slice none 0 0).cells (ds.length * 1)) 42) = W1 := ⟨_, rfl⟩
 rw [hW1] at hr
 have hal := AL.made ds.length hW1.symm (base := w.heap.size) hb1.size
 obtain ⟨g, hg⟩ : ∃ g, (w.alloc (.cells #[.slice Ad nd cd, .slice Af ds.length cf] 38)).heap.size = g := ⟨_, rfl⟩
 rw [hg] at hr hal
 have hgw : w.heap.size < g := by rw [← hg]; simp
 have hb2 : Below w.heap.size w W1 := by rw [← hW1]; exact Qd hb1 _
 have hPb : W1.heap[w.heap.size]? = some (.cells #[.slice Ad nd cd, .slice Af ds.length cf] 38 (0, 0)) := by
  rw [← hW1]
  exact (Below.heap_alloc _ _ _ (by simp)).trans (Qv w (.cells #[.slice Ad nd cd, .slice Af ds.length cf] 38 (0, 0)))
 have hC9 := Qb.mk hC
 have hok9 := Qb.mk hok
 have hal := Qb.mk hal
 have hb2 := Qb.mk hb2
 have hPb := Qb.mk hPb
 have hgw := Qb.mk hgw
 clear hC hok hb1 hW1 hg hz0 hz1 hz2 hi
 go_enter Tryd.func28, Tryd.ntmps28
 go_wp2
 go_loopg [11] (ds.length + 1) (fun kq v11 w' => ∃ (i : Nat), v11 = .int .i64 (i : Int) ∧ i + kq = ds.length + 1 ∧ 1 ≤ kq ∧ Qb (AL w' w.heap.size g ds.length ((List.range i).map (usesL ds))) ∧ Qb (w'.heap[w.heap.size]? = some (.cells #[.slice Ad nd cd, .slice Af ds.length cf] 38 (0, 0))) ∧ Qb (Below w.heap.size w w'))
 case atStart => exact ⟨0, rfl, by omega, by omega, hal, hPb, hb2⟩
 case round =>
  obtain ⟨i, rfl, hi, hk, hA, hP, hBr⟩ := hrel
  by_cases hlt : i < ds.length
  ·have p0 : (0 : Int) ≤ (i : Int) := by omega
   have q0 : (i : Int) < (ds.length : Int) := by omega
   have q1 : decide ((i : Int) < (ds.length : Int)) = true := decide_eq_true q0
   have hx0 := (Qa hP.out 0).trans rfl
   have hx1 := (Qa hP.out 1).trans rfl
   have CU := uses_calls ds (Kd.Qj hC9.out hBr.out) i hlt (okDs_at hok9.out hlt).1 (by omega) (Ad := Ad) (nd := nd) (cd := cd) (cf := cf)
   go_wp2_with (first | (go_at_call 19; go_loud (with_reducible refine CU.mono ?_); rintro e w5 ⟨v5, rfl, hr5, hb5⟩; obtain ⟨A5, c5, hv5⟩ := Kd.Z8 hr5; subst hv5; have HA5 := Qb.mk (hA.out.below hb5); have HR5 := Qb.mk (Kd.ZT (Rn_ok (ok' := fun k => k ≠ g) hr5 (fun k hk => by have := Kd.R_base hr5 k hk; have := hA.out.lt; omega)) hBr.out.size); have HP5 := Qb.mk (Qc hP.out hb5); have HB5 := Qb.mk (hBr.out.trans (hb5.mono hBr.out.size)); obtain ⟨hcz, hfz⟩ := HA5.out.cell (by simpa using hlt); simp only [List.length_map, List.length_range, add_i] at hcz hfz; clear hr5 hb5 CU))
   have hA6 : Qb (AL (w5.setCell ⟨g, i, none⟩ (.slice A5 (usesL ds i).length c5)) w.heap.size g ds.length ((List.range (i + 1)).map (usesL ds))) := ⟨by
    have := HA5.out.put (by simpa using hlt) HR5.out
    simp only [List.length_map, List.length_range] at this
    rw [List.range_succ, List.map_append]
    exact this⟩
   have hP6 : Qb ((w5.setCell ⟨g, i, none⟩ (.slice A5 (usesL ds i).length c5)).heap[w.heap.size]? = some (.cells #[.slice Ad nd cd, .slice Af ds.length cf] 38 (0, 0))) := ⟨by exact (Below.heap_setCell w5 ⟨g, i, none⟩ _ _ (Nat.ne_of_lt hgw.out)).trans HP5.out⟩
   have hB6 : Qb (Below w.heap.size w (w5.setCell ⟨g, i, none⟩ (.slice A5 (usesL ds i).length c5))) := ⟨by exact HB5.out.setCell (p := ⟨g, i, none⟩) (Nat.le_of_lt hgw.out) _⟩
   clear hfz hcz
   go_roundg (gk - 1)
   case measure => omega
   case rel => exact ⟨i + 1, by go_num, by omega, by omega, hA6, hP6, hB6⟩
  ·have q1 : decide ((i : Int) < (ds.length : Int)) = false := decide_eq_false (by omega)
   have hi2 : i = ds.length := by omega
   subst hi2
   have hfin := Qb.mk (hA.out.row (by simp) (by unfold maxLen; omega))
   have hll : (allL ds).length = ds.length := by simp [allL]
   go_wp2
   go_ret
   rw [hll]
   exact ⟨_, rfl, by have := hfin.out; simpa [allL] using this, hBr.out⟩
end Go.Proofs.YtlgpoigbadajnaaDoor.DepA
namespace Go.Proofs.YtlgpoigbadajnaaDoor.DepA
open Go.Maps (Keyed)
open Go.RowKit Go.Proofs.YtlgpoigbadajnaaDoorW.PrintWords Go.Proofs.YtlgpoigbadajnaaDoorW.PrintLast Go.Proofs.YtlgpoigbadajnaaDoorW.PrintMore Go.Proofs.YtlgpoigbadajnaaDoor.PDepA
set_option linter.unusedVariables false
set_option linter.unusedSimpArgs false
def RgD (W : World) (b r n : Nat) (rr : List Int) (left : Lit → Bool) (cnt : Nat) : Prop :=
 ∃ D : DataW Value, W.ranges Tryd.prog 3 rawR b r n D left cnt ∧ ∀ l z, D.atKey l z = match FD rr l with | some v => .held v | none => z
section
variable {W W1 : World} {b r n cnt : Nat} {rr : List Int} {left : Lit → Bool}
theorem RgD.kept {row : Option Nat} (h : RgD W b r n rr left cnt) (hg : W.grownBy W1 row) (hb : some b ≠ row) (hr : some r ≠ row) : RgD W1 b r n rr left cnt := by
 obtain ⟨D, h, hD⟩ := h
 exact ⟨D, h.kept hg hb hr, hD⟩
theorem rd_range {ops : Array Oper} {rest : List Oper} {o : Oper} {a : Act} {Q : Exit → Act → World → Prop} (h : ZU W b n rr) (hg : o.guard = none) (m : Operand) (hop : o.op = Op.range 59 m) (hm : a.eval m = .map (some b))
  (hK : ∀ w' left cnt, RgD w' b W.heap.size n rr left cnt → (∀ l, left l = (FD rr l).isSome) → W.grownBy w' none → w'.heap.size = W.heap.size + 1 → wpList Tryd.prog ops Q rest (a.put o.dst (.pointer (some ⟨W.heap.size, 0, none⟩))) w') :
  wpList Tryd.prog ops Q (o :: rest) a W := by
 obtain ⟨D, h, ht, hD, hsz⟩ := h
 exact wpList_range_own W hg m 59 hop 3 3 keyedI Tryd.underlying59 rawR b n D hm h (fun w' hr hg2 hs => hK w' _ _ ⟨D, hr, hD⟩ (fun l => has_of hD l) hg2 hs)
set_option maxRecDepth 100000 in
theorem rd_next {ops : Array Oper} {rest : List Oper} {o : Oper} {a : Act} {Q : Exit → Act → World → Prop} (h : RgD W b r n rr left cnt) (hg : o.guard = none) (it : Operand) (hop : o.op = Op.next it false) (hit : a.eval it = .pointer (some ⟨r, 0, none⟩))
  (hDone : Qb (∀ l, left l = false) → wpList Tryd.prog ops Q rest (a.put o.dst (.tuple #[.bool false])) W)
  (hMore : ∀ (x : Int) (w' : World) (cnt' : Nat), Qb (WF x) → Qb (left (.int .i64 x) = true) → Qb (inI rr x = true) → Qb (RgD w' b r n rr (fun z => left z && !z.sameKey (.int .i64 x)) cnt') → Qb (cnt' < cnt) → Qb (W.grownBy w' (some r)) →
   (Instr.entry (.pointer (some ⟨r, 0, none⟩))).run Tryd.prog w' = .ok (.tuple #[.int .i64 x, .int .i64 1]) w' → wpList Tryd.prog ops Q rest (a.put o.dst (.tuple #[.bool true, .int .i64 x, .int .i64 1])) w') :
  wpList Tryd.prog ops Q (o :: rest) a W := by
 obtain ⟨D, h, hD⟩ := h
 refine wpList_next_ranges W hg it hop 3 keyedI rawR (Value.int .i64) (fun v : Value => v) (fun key kl hkey => by obtain ⟨x, rfl, _⟩ := Maps.keyOf_int_inv Tryd.underlying3 hkey; exact ⟨x, rfl⟩) (fun v y _ => ⟨v, rfl⟩) b r n D left cnt hit h (fun _ hl => hDone ⟨hl⟩) (fun x v kl y w' cnt' hkey hlk hv hat hrg hlt hgr hsz hen => ?_)
 obtain ⟨x', ex, rfl, hwx⟩ := Maps.keyOf_int_inv Tryd.underlying3 hkey
 cases ex
 have hy : y = (.held v, []) := (Option.some.inj hv).symm
 subst hy
 have hF : FD rr (.int .i64 x) = some v := by
  have h1 := (hD (.int .i64 x) .nil).symm.trans (hat .nil)
  cases hf : FD rr (.int .i64 x) with
  | none => rw [hf] at h1; cases h1
  | some u => rw [hf] at h1; injection h1 with h1; rw [h1]
 have hin : inI rr x = true ∧ v = .int .i64 1 := by
  simp only [FD] at hF
  split at hF
  ·rename_i hh; exact ⟨hh, (Option.some.inj hF).symm⟩
  ·cases hF
 obtain ⟨hin, rfl⟩ := hin
 have hWF : WF x := by
  simp [Lit.wf, IntKind.min, IntKind.max, IntKind.signed, IntKind.bits] at hwx
  unfold WF
  omega
 exact hMore x w' cnt' ⟨hWF⟩ ⟨hlk⟩ ⟨hin⟩ ⟨D, hrg, hD⟩ ⟨hlt⟩ ⟨hgr⟩ hen
end
abbrev kM : Kd Nat := Kd.scalar (fun b : Nat => Value.map (some b)) (fun _ => rfl)
abbrev NM := List (Nat × Nat × List Int)
theorem at_map {w : World} {A : Option Addr} {n : Nat} {xs : List Nat} (h : Kd.C kM w A n xs) (i : Nat) (hi : i < xs.length) (hn : i < n) : ∃ ad, A = some ad ∧ w.cell? (ad.add i) = some (.map (some xs[i])) := by
 obtain ⟨ad, c, e, _, hK, hc⟩ := Kd.C_get h (0 : Nat) (i : Int) (by omega) (by omega)
 have hK' : c = [.map (some (xs.getD i 0))] := hK
 subst hK'
 refine ⟨ad, e, ?_⟩
 have := hc 0 _ rfl
 have hsz : kM.sz = 1 := rfl
 rw [hsz, Int.toNat_natCast, Nat.mul_one, Nat.add_zero] at this
 rw [this]
 simp [hi]
structure NE (W : World) (nbx : Nat) (ms : NM) : Prop where
 row : ∃ A c, W.heap[nbx]? = some (.cells #[.slice A ms.length c] 58 (0, 0)) ∧ Kd.C kM W A ms.length (ms.map (·.1))
 maps : ∀ m ∈ ms, ZU W m.1 m.2.1 m.2.2
theorem NE.below {W W1 : World} {nbx : Nat} {ms : NM} (h : NE W nbx ms) (hb : Below W.heap.size W W1) : NE W1 nbx ms := by
 obtain ⟨⟨A, c, h1, h2⟩, h3⟩ := h
 exact ⟨⟨A, c, Qc h1 hb, Kd.Qj h2 hb⟩, fun m hm => (h3 m hm).of_block (hb.block _ (h3 m hm).lt)⟩
def okK (ms : NM) (done : List Int) (i k : Int) : Bool := inI done k || (match ms[k.toNat]? with | some m => inI m.2.2 i | none => true)
def rdy (ms : NM) (done : List Int) (i : Nat) : Bool := match ms[i]? with
 | some m => m.2.2.all (okK ms done (i : Int)) && !inI done (i : Int)
 | none => false
def okM (ms : NM) : Bool := decide (ms.length ≤ 1000) && ms.all fun m => m.2.2.all fun k => decide (0 ≤ k) && decide (k < (ms.length : Int))
theorem Va {h : List Int} {n : Int} : inI h n = true ↔ n ∈ h := by simp [inI]
theorem inI_all {h : List Int} {p : Int → Bool} (ha : h.all p = true) {n : Int} (hn : inI h n = true) : p n = true := List.all_eq_true.1 ha n (Va.1 hn)
theorem ready_at {W w4 : World} {nbx db nd : Nat} {ms : NM} {done : List Int} {i : Nat} {ad : Addr} {c : Nat} (hN : NE W nbx ms) (hD : ZU W db nd done) (hB : Below W.heap.size W w4) (hrow : W.heap[nbx]? = some (.cells #[.slice (some ad) ms.length c] 58 (0, 0))) (hC : Kd.C kM W (some ad) ms.length (ms.map (·.1))) {x : Int} (h0 : 0 ≤ x) (h1 : x < (ms.length : Int)) (hi : i < 1000) (hl : ms.length ≤ 1000) :
  ∃ bx, w4.cell? (ad.add x.toNat) = some (.map (some bx)) ∧ w4.cell? ⟨nbx, 0, none⟩ = some (.slice (some ad) ms.length c) ∧
   ((okK ms done (i : Int) x = true ∧ (Instr.lookup 59 (.map (some db)) (.int .i64 x) false).run Tryd.prog w4 = .ok (.int .i64 1) w4) ∨
    (okK ms done (i : Int) x = true ∧ (Instr.lookup 59 (.map (some db)) (.int .i64 x) false).run Tryd.prog w4 = .ok (.int .i64 0) w4 ∧ (Instr.lookup 59 (.map (some bx)) (.int .i64 (i : Int)) false).run Tryd.prog w4 = .ok (.int .i64 1) w4) ∨
    (okK ms done (i : Int) x = false ∧ (Instr.lookup 59 (.map (some db)) (.int .i64 x) false).run Tryd.prog w4 = .ok (.int .i64 0) w4 ∧ (Instr.lookup 59 (.map (some bx)) (.int .i64 (i : Int)) false).run Tryd.prog w4 = .ok (.int .i64 0) w4)) := by
 have hxl : x.toNat < ms.length := by omega
 obtain ⟨ad', e, hv⟩ := at_map (Kd.Qj hC hB) x.toNat (by simpa using hxl) hxl
 obtain rfl := Option.some.inj e
 rw [List.getElem_map] at hv
 have hm := hN.maps ms[x.toNat] (List.getElem_mem hxl)
 have hok : okK ms done (i : Int) x = (inI done x || inI ms[x.toNat].2.2 (i : Int)) := by unfold okK; rw [List.getElem?_eq_getElem hxl]
 rw [hok]
 generalize ms[x.toNat] = m at *
 obtain ⟨bx, nx, rx⟩ := m
 have h4 := (hm.of_block (hB.block _ hm.lt)).look (show WF (i : Int) from ⟨by omega, by omega⟩)
 have h5 := (hD.of_block (hB.block _ hD.lt)).look (show WF x from ⟨by omega, by omega⟩)
 rw [memN_in] at h4 h5
 refine ⟨bx, hv, (Qa (Qc hrow hB) 0).trans rfl, ?_⟩
 cases e1 : inI done x with
 | true => rw [e1] at h5; exact .inl ⟨rfl, h5⟩
 | false =>
  rw [e1] at h5
  cases e2 : inI rx (i : Int) with
  | true => rw [e2] at h4; exact .inr (.inl ⟨rfl, h5, h4⟩)
  | false => rw [e2] at h4; exact .inr (.inr ⟨rfl, h5, h4⟩)
theorem same_int {p q : Int} : (Lit.int .i64 p).sameKey (.int .i64 q) = decide (p = q) := by
 by_cases h : p = q
 ·subst h
  rw [WideAt.sameKey_self (keyI_is p)]
  simp
 ·rw [Maps.sameKey_ne (fun e => h (by injection e))]
  simp [h]
theorem all_next {mr : List Int} {P : Int → Bool} {lf : Lit → Bool} (hA : ∀ x, inI mr x = true → lf (.int .i64 x) = false → P x = true) {x : Int} (hx : P x = true) : ∀ y, inI mr y = true → (lf (.int .i64 y) && !(Lit.int .i64 y).sameKey (.int .i64 x)) = false → P y = true := by
 intro y hy hl
 by_cases h : y = x
 ·subst h; exact hx
 ·refine hA y hy ?_
  simpa [same_int, h] using hl
set_option maxHeartbeats 16000000 in
set_option maxRecDepth 100000 in
theorem ready_calls {W : World} {nbx dbx db nd : Nat} {ms : NM} {done : List Int} (hN : NE W nbx ms) (hok : okM ms = true) (hD : ZU W db nd done) (hd : W.heap[dbx]? = some (.cells #[.map (some db)] 59 (0, 0))) (i : Nat) (hi : i < ms.length) :
  Calls Tryd.prog 30 #[.int .i64 (i : Int), .pointer (some ⟨nbx, 0, none⟩), .pointer (some ⟨dbx, 0, none⟩)] W fun e w' => e = .returned (.bool (rdy ms done i)) ∧ Below W.heap.size W w' := by
 have hN9 := Qb.mk hN
 have hD9 := Qb.mk hD
 have hd9 := Qb.mk hd
 have hmi := hN.maps ms[i] (List.getElem_mem hi)
 have hrd : rdy ms done i = (ms[i].2.2.all (okK ms done (i : Int)) && !inI done (i : Int)) := by unfold rdy; rw [List.getElem?_eq_getElem hi]
 simp only [okM, Bool.and_eq_true, decide_eq_true_eq] at hok
 obtain ⟨hlm, hok⟩ := hok
 have hmk := List.all_eq_true.1 hok _ (List.getElem_mem hi)
 obtain ⟨A, c, hrow, hC⟩ := hN.row
 obtain ⟨ad, rfl, hv⟩ := at_map hC i (by simpa using hi) hi
 have hc0 := (Qa hrow 0).trans rfl
 have hdc := (Qa hd 0).trans rfl
 rw [List.getElem_map] at hv
 have hrow9 := Qb.mk hrow
 have hC9 := Qb.mk hC
 generalize hme : ms[i] = m at *
 obtain ⟨mb, mn, mr⟩ := m
 simp only at hv hmi hrd hmk
 have hmi := Qb.mk hmi
 have hmk := Qb.mk hmk
 have hrd := Qb.mk hrd
 have p0 : (0 : Int) ≤ (i : Int) := by omega
 have q0 : (i : Int) < (ms.length : Int) := by omega
 clear hN hD hd hrow hC hok hme
 go_enter Tryd.func30, Tryd.ntmps30
 go_wp2_with (first | (at_range; refine rd_range hmi.out rfl _ rfl rfl ?_; intro w3 left cnt hrg hleft hgr hs3; have hrg := Qb.mk hrg; have hleft := Qb.mk hleft; have hgr := Qb.mk hgr; have hs3 := Qb.mk hs3))
 go_frame
 have hb3 : Qb (Below W.heap.size W w3) := ⟨⟨hgr.out.os, hgr.out.tape, hgr.out.output, hgr.out.size, fun j hj => hgr.out.block j hj (by simp)⟩⟩
 have hall : Qb (∀ x, inI mr x = true → left (.int .i64 x) = false → okK ms done (i : Int) x = true) := ⟨fun x hx hl => by rw [hleft.out] at hl; simp [FD, hx] at hl⟩
 clear hv hc0 hdc
 go_loopg [5] (cnt + 1) (fun kq v5 w' => ∃ (lf : Lit → Bool) (ct : Nat), kq = ct + 1 ∧ Qb (RgD w' mb W.heap.size mn mr lf ct) ∧ Qb (∀ x, inI mr x = true → lf (.int .i64 x) = false → okK ms done (i : Int) x = true) ∧ Qb (Below W.heap.size W w'))
 case atStart => exact ⟨left, cnt, rfl, hrg, hall, hb3⟩
 case round =>
  obtain ⟨lf, ct, hk, hR, hA, hB⟩ := hrel
  have hdc := (Qa (Qc hd9.out hB.out) 0).trans rfl
  have hli := (hD9.out.of_block (hB.out.block _ hD9.out.lt)).look (show WF (i : Int) from ⟨by omega, by omega⟩)
  rw [memN_in] at hli
  have hq : Qb (W.heap.size ≤ W.heap.size) := ⟨Nat.le_refl _⟩
  go_wp2_with (first | (at_next; refine rd_next hR.out rfl _ rfl rfl (fun hdn => ?_) (fun x w4 ct' hwx hlx hin hrg4 hct hg4 hen => ?_); rotate_left; have hB4 : Qb (Below W.heap.size W w4) := ⟨hB.out.trans ((Mod.of_grown hg4.out).below hB.out.size (fun j _ hj => Nat.le_of_eq hj.symm))⟩; have hx := inI_all hmk.out hin.out; simp only [Bool.and_eq_true, decide_eq_true_eq] at hx; obtain ⟨hx0, hx1⟩ := hx; have hdc4 := (Qa (Qc hd9.out hB4.out) 0).trans rfl; obtain ⟨bx, hv4, hc4, hcase⟩ := ready_at hN9.out hD9.out hB4.out hrow9.out hC9.out hx0 hx1 (i := i) (by omega) hlm; clear hdc hli; rcases hcase with ⟨hok4, hl4⟩ | ⟨hok4, hl4, hl5⟩ | ⟨hok4, hl4, hl5⟩; (have hok4 := Qb.mk hok4); rotate_left; (have hok4 := Qb.mk hok4); rotate_left; (have hok4 := Qb.mk hok4); rotate_left))
  ·go_ret
   exact ⟨rfl, hB.out⟩
  ·have hall : mr.all (okK ms done (i : Int)) = true := List.all_eq_true.2 (fun x hx => hA.out x (Va.2 hx) (hdn.out _))
   go_ret
   exact ⟨by rw [hall]; rfl, hB.out⟩
  ·go_roundg (ct' + 1)
   case measure => have := hct.out; omega
   case rel => exact ⟨_, ct', rfl, hrg4, ⟨all_next hA.out hok4.out⟩, hB4⟩
  ·go_roundg (ct' + 1)
   case measure => have := hct.out; omega
   case rel => exact ⟨_, ct', rfl, hrg4, ⟨all_next hA.out hok4.out⟩, hB4⟩
  ·have hno : rdy ms done i = false := by
    rw [hrd.out]
    have : mr.all (okK ms done (i : Int)) = false := by
     cases he : mr.all (okK ms done (i : Int)) with
     | false => rfl
     | true => have := inI_all he hin.out; rw [hok4.out] at this; cases this
    rw [this]
    rfl
   go_ret
   exact ⟨by rw [hno]; rfl, hB4.out⟩
end Go.Proofs.YtlgpoigbadajnaaDoor.DepA
namespace Go.Proofs.YtlgpoigbadajnaaDoor.DepA
open Go.Maps (Keyed)
open Go.RowKit Go.Proofs.YtlgpoigbadajnaaDoorW.PrintWords Go.Proofs.YtlgpoigbadajnaaDoorW.PrintLast Go.Proofs.YtlgpoigbadajnaaDoorW.PrintMore Go.Proofs.YtlgpoigbadajnaaDoor.PDepA
set_option linter.unusedVariables false
set_option linter.unusedSimpArgs false
theorem infMI : (Tryd.prog.info? 59).map (fun i => (i.zero, i.size, i.bytes)) = some (some (.map none), 1, 8) := by kernel_rfl
structure NS' (W : World) (base nbx : Nat) (v : Value) (ms : NM) : Prop where
 box : W.heap[nbx]? = some (.cells #[v] 58 (0, 0))
 row : Kd.R kM 59 W base (fun j => j ≠ nbx) v (ms.map (·.1))
 maps : ∀ m ∈ ms, ZU W m.1 m.2.1 m.2.2
 ge : base ≤ nbx
theorem Rm_ok {base : Nat} {ok ok' : Nat → Prop} {W : World} {v : Value} {xs : List Nat} (h : Kd.R kM 59 W base ok v xs) (hok : ∀ j, v.ownBlock = some j → ok' j) : Kd.R kM 59 W base ok' v xs := by
 obtain ⟨h0, inner, ho, hr⟩ := h
 exact ⟨hok, inner, ho, hr.imp_ (fun _ _ hm => hm)⟩
theorem Rm_step {base : Nat} {ok ok' : Nat → Prop} {W W1 : World} {v : Value} {xs : List Nat} (h : Kd.R kM 59 W base ok v xs) (hb : ∀ j, v.ownBlock = some j → W1.heap[j]? = W.heap[j]?) (hok : ∀ j, v.ownBlock = some j → ok' j) : Kd.R kM 59 W1 base ok' v xs :=
 Rm_ok (Kd.R_step (Rm_ok (ok' := fun j => v.ownBlock = some j) h (fun _ hj => hj)) (fun j hj _ => hb j hj)) hok
theorem R_cells {α : Type} {d : Kd α} {e base : Nat} {ok : Nat → Prop} {W : World} {v : Value} {xs : List α} (h : d.R e W base ok v xs) {g : Nat} (hg : v.ownBlock = some g) : ∃ cur, W.heap[g]? = some (.cells cur e (0, 0)) := by
 obtain ⟨_, inner, ho, _⟩ := h
 rcases ho.2 with ⟨he, _⟩ | ⟨g', cap, cur, he, _, hh, _⟩
 ·subst he; cases hg
 ·subst he
  have : g' = g := by simpa [Value.ownBlock] using hg
  subst this
  exact ⟨cur, hh⟩
theorem ZU.ne_cells {W : World} {b n g : Nat} {r : List Int} (h : ZU W b n r) {cur : Array Value} {t : TypeId} {q : Nat × Nat} (hg : W.heap[g]? = some (.cells cur t q)) : b ≠ g := by
 rintro rfl
 obtain ⟨es, c, hm⟩ := h.mapF.blk
 rw [hg] at hm
 cases hm
section
variable {W W1 : World} {base nbx : Nat} {v v3 : Value} {ms : NM}
theorem NS'.below (h : NS' W base nbx v ms) (hb : Below W.heap.size W W1) : NS' W1 base nbx v ms :=
 ⟨Qc h.box hb, Rm_step h.row (fun j hj => hb.block j (Kd.R_lt h.row j hj)) (fun j hj => h.row.1 j hj), fun m hm => (h.maps m hm).of_block (hb.block _ (h.maps m hm).lt), h.ge⟩
theorem NS'.add (h : NS' W base nbx v ms) {b n : Nat} {r : List Int} (hm : ZU W b n r) (hr : Kd.R kM 59 W1 base (fun j => j ≠ nbx) v3 (ms.map (·.1) ++ [b])) (hg : W.grownBy W1 v.ownBlock) : NS' (W1.setCell ⟨nbx, 0, none⟩ v3) base nbx v3 (ms ++ [(b, n, r)]) := by
 have hfar : ∀ k, k ≠ nbx → (W1.setCell ⟨nbx, 0, none⟩ v3).heap[k]? = W1.heap[k]? := fun k hk => Below.heap_setCell W1 ⟨nbx, 0, none⟩ v3 k hk
 have hbx : W1.heap[nbx]? = W.heap[nbx]? := hg.block nbx (Array.getElem?_eq_some_iff.1 h.box).1 (fun e => h.row.1 nbx e.symm rfl)
 have hmap : ∀ b' n' r', ZU W b' n' r' → ZU (W1.setCell ⟨nbx, 0, none⟩ v3) b' n' r' := fun b' n' r' hm' => hm'.of_block ((hfar b' (hm'.ne_cells h.box)).trans (hg.block b' hm'.lt (fun e => by
  obtain ⟨cur, hc⟩ := R_cells h.row e.symm
  exact hm'.ne_cells hc rfl)))
 refine ⟨QP (hbx.trans h.box) 0 v3 rfl, ?_, fun m hmm => ?_, h.ge⟩
 ·rw [List.map_append]
  exact Rm_step hr (fun j hj => hfar j (hr.1 j hj)) (fun j hj => hr.1 j hj)
 ·rcases List.mem_append.1 hmm with hmm | hmm
  ·exact hmap _ _ _ (h.maps m hmm)
  ·obtain rfl : m = (b, n, r) := by simpa using hmm
   exact hmap _ _ _ hm
theorem NS'.ne (h : NS' W base nbx v ms) : NE W nbx ms := by
 refine ⟨?_, h.maps⟩
 obtain ⟨A, c, he, _, hC⟩ := Kd.R_reads h.row
 rw [List.length_map] at he hC
 exact ⟨A, c, by rw [← he]; exact h.box, hC⟩
end
def okKr (rs : List (List Int)) (done : List Int) (i k : Int) : Bool := inI done k || (match rs[k.toNat]? with | some r => inI r i | none => true)
def rdyR (rs : List (List Int)) (done : List Int) (i : Nat) : Bool := match rs[i]? with
 | some r => r.all (okKr rs done (i : Int)) && !inI done (i : Int)
 | none => false
theorem okK_r (ms : NM) (done : List Int) (i : Int) : okK ms done i = okKr (ms.map (·.2.2)) done i := by
 funext k
 unfold okK okKr
 rw [List.getElem?_map]
 cases ms[k.toNat]? <;> rfl
theorem rdy_r (ms : NM) (done : List Int) (i : Nat) : rdy ms done i = rdyR (ms.map (·.2.2)) done i := by
 unfold rdy rdyR
 rw [List.getElem?_map, okK_r]
 cases ms[i]? <;> rfl
def nxt (rs : List (List Int)) (done : List Int) : Nat → Nat → Option Nat
 | 0, _ => none
 | F + 1, i => if i < rs.length then (if rdyR rs done i then some i else nxt rs done F (i + 1)) else none
def both (rs : List (List Int)) (i k : Nat) : Bool := (match rs[i]? with | some r => inI r (k : Int) | none => false) && (match rs[k]? with | some r => inI r (i : Int) | none => false)
def gr (rs : List (List Int)) (i : Nat) : Nat → Nat → List Int
 | 0, _ => []
 | F + 1, k => if both rs i k then (k : Int) :: gr rs i F (k + 1) else gr rs i F (k + 1)
def grps (rs : List (List Int)) : Nat → List Int → List (List Int) → Option (List (List Int))
 | 0, _, _ => none
 | F + 1, done, out => if done.length < rs.length then (match nxt rs done 2000 0 with
  | none => none
  | some i => if (gr rs i rs.length 0).all (fun x => !inI done x) && decide (out.length ≤ 1000) then grps rs F (done ++ gr rs i rs.length 0) (out ++ [gr rs i rs.length 0]) else none) else some out
theorem grps_step {rs : List (List Int)} {F : Nat} {done : List Int} {out R : List (List Int)} (h : grps rs (F + 1) done out = some R) (hl : done.length < rs.length) : ∃ i, nxt rs done 2000 0 = some i ∧ (∀ x ∈ gr rs i rs.length 0, inI done x = false) ∧ out.length ≤ 1000 ∧ grps rs F (done ++ gr rs i rs.length 0) (out ++ [gr rs i rs.length 0]) = some R := by
 simp only [grps, if_pos hl] at h
 split at h
 ·cases h
 ·rename_i i hi
  split at h
  ·rename_i hc
   simp only [Bool.and_eq_true, decide_eq_true_eq] at hc
   exact ⟨i, hi, fun x hx => by simpa using List.all_eq_true.1 hc.1 x hx, hc.2, h⟩
  ·cases h
theorem nxt_lt {rs : List (List Int)} {done : List Int} : ∀ {F i k : Nat}, nxt rs done F i = some k → k < rs.length
 | 0, _, _, h => by cases h
 | F + 1, i, k, h => by
  simp only [nxt] at h
  split at h
  ·rename_i hi
   split at h
   ·obtain rfl := Option.some.inj h; exact hi
   ·exact nxt_lt h
  ·cases h
def ZN (us : List (List Int)) (j : Nat) : List Int := (bfs us 3000 [(j : Int)] [(j : Int)]).getD []
def rsL (us : List (List Int)) : List (List Int) := (List.range us.length).map (ZN us)
def okR (us : List (List Int)) : Bool := small us && decide (us.length ≤ 1000) && (List.range us.length).all (fun j => (bfs us 3000 [(j : Int)] [(j : Int)]).isSome) && (rsL us).all (fun r => r.all fun k => decide (0 ≤ k) && decide (k < (us.length : Int)))
theorem needR_eq {us : List (List Int)} (h : okR us = true) {j : Nat} (hj : j < us.length) : bfs us 3000 [(j : Int)] [(j : Int)] = some (ZN us j) := by
 simp only [okR, Bool.and_eq_true] at h
 have := List.all_eq_true.1 h.1.2 j (List.mem_range.2 hj)
 unfold ZN
 cases hb : bfs us 3000 [(j : Int)] [(j : Int)] with
 | none => rw [hb] at this; cases this
 | some r => rfl
set_option maxHeartbeats 8000000 in
set_option maxRecDepth 100000 in
theorem needs_round {W : World} {base : Nat} {us : List (List Int)} (hok : okR us = true) {U : Option Addr} {cu : Nat} (hU : Kd.C kII W U us.length us) {nbx : Nat} {v : Value} {ms : NM} (h : NS' W base nbx v ms) (j : Nat) (hj : j < us.length) :
  Calls Tryd.prog 29 #[.slice U us.length cu, .int .i64 (j : Int)] W fun e w' => ∃ hb nh, e = .returned (.map (some hb)) ∧ ZU w' hb nh (ZN us j) ∧ NS' w' base nbx v ms ∧ Below W.heap.size W w' := by
 have hh := hok
 simp only [okR, Bool.and_eq_true, decide_eq_true_eq] at hok
 refine (needed_calls us hok.1.1.1 hU (j : Int) ⟨by omega, by omega⟩ (needR_eq hh hj)).mono ?_
 rintro e w' ⟨hb, nh, rfl, hm, _, hbl⟩
 exact ⟨hb, nh, rfl, hm, h.below hbl, hbl⟩
structure GS (w1 w' : World) (dbx db B2 nd : Nat) (done : List Int) (A : Option Addr) (c : Nat) (out : List (List Int)) : Prop where
 b : Below db w1 w'
 d : ZU w' db nd done
 n : nd ≤ done.length
 x : w'.heap[dbx]? = some (.cells #[.map (some db)] 59 (0, 0))
 r : Kd.R kII 42 w' B2 (fun _ => True) (.slice A out.length c) out
 z : db < B2 ∧ dbx < B2 ∧ B2 ≤ w'.heap.size
theorem GS.below {w1 w' w2 : World} {dbx db B2 nd : Nat} {done : List Int} {A : Option Addr} {c : Nat} {out : List (List Int)} (h : GS w1 w' dbx db B2 nd done A c out) (hb : Below w'.heap.size w' w2) : GS w1 w2 dbx db B2 nd done A c out :=
 ⟨h.b.trans (hb.mono (by have := h.z; omega)), h.d.of_block (hb.block _ h.d.lt), h.n, Qc h.x hb, Kd.R_step h.r (fun j _ hj => hb.block j hj), ⟨h.z.1, h.z.2.1, Nat.le_trans h.z.2.2 hb.size⟩⟩
theorem mapLen {W : World} {b n : Nat} {r : List Int} (h : ZU W b n r) : (Builtin.len_ #[59] 3 #[.map (some b)]).run Tryd.prog W = .ok (.int .i64 (r.length : Int)) W := by
 obtain ⟨D, ho, _, _, hs⟩ := h
 rw [ho.len Tryd.underlying59 3, hs]
theorem okM_r {ms : NM} {us : List (List Int)} (hok : okR us = true) (h : ms.map (·.2.2) = rsL us) : okM ms = true := by
 have hl : ms.length = us.length := by have := congrArg List.length h; simpa [rsL] using this
 simp only [okR, Bool.and_eq_true, decide_eq_true_eq] at hok
 unfold okM
 rw [hl]
 simp only [Bool.and_eq_true, decide_eq_true_eq]
 refine ⟨hok.1.1.2, ?_⟩
 have h2 := hok.2
 rw [← h, List.all_map] at h2
 exact h2
theorem grp_at {W : World} {nbx : Nat} {ms : NM} (hN : NE W nbx ms) (h0 : 0 < ms.length) : ∃ ad c, W.cell? ⟨nbx, 0, none⟩ = some (.slice (some ad) ms.length c) ∧ ∀ i (hi : i < ms.length), W.cell? (ad.add i) = some (.map (some ms[i].1)) ∧ ∀ x, WF x → (Instr.lookup 59 (.map (some ms[i].1)) (.int .i64 x) false).run Tryd.prog W = .ok (.int .i64 (memN ms[i].2.2 x)) W := by
 obtain ⟨⟨A, c, h1, h2⟩, h3⟩ := hN
 obtain ⟨ad, rfl, _⟩ := at_map h2 0 (by simpa using h0) h0
 refine ⟨ad, c, (Qa h1 0).trans rfl, fun i hi => ⟨?_, fun x hx => (h3 _ (List.getElem_mem hi)).look hx⟩⟩
 obtain ⟨ad', e, hv⟩ := at_map h2 i (by simpa using hi) hi
 obtain rfl := Option.some.inj e
 rw [List.getElem_map] at hv
 exact hv
theorem both_eq {ms : NM} {rs : List (List Int)} (h : ms.map (·.2.2) = rs) {i k : Nat} (hi : i < ms.length) (hk : k < ms.length) : both rs i k = (inI ms[i].2.2 (k : Int) && inI ms[k].2.2 (i : Int)) := by
 subst h
 unfold both
 rw [List.getElem?_map, List.getElem?_map, List.getElem?_eq_getElem hi, List.getElem?_eq_getElem hk]
 rfl
set_option maxHeartbeats 16000000 in
set_option maxRecDepth 100000 in
theorem groups_calls {w : World} (ds : List S34) (hok : okDs ds = true) (hor : okR (allL ds) = true) {R : List (List Int)} (hg : grps (rsL (allL ds)) 2000 [] [] = some R) {Ad Af : Option Addr} {nd cd cf : Nat} (hC : Kd.C k34 w Af ds.length ds) :
  Calls Tryd.prog 13 #[.agg #[.slice Ad nd cd, .slice Af ds.length cf]] w fun e w' => ∃ A c, e = .returned (.slice A R.length c) ∧ R.length ≤ c ∧ Kd.C kII w' A R.length R ∧ Below w.heap.size w w' := by
 have hmm := @run_makeMap Tryd.prog
 have hb1 := Qd (Below.refl w.heap.size w) (.cells #[.slice Ad nd cd, .slice Af ds.length cf] 38)
 have CA := all_calls ds hok (Kd.Qj hC hb1) (Ad := Ad) (nd := nd) (cd := cd) (cf := cf)
 have hlu : (allL ds).length ≤ 1000 := by simp only [okR, Bool.and_eq_true, decide_eq_true_eq] at hor; exact hor.1.1.2
 have hb1 := Qb.mk hb1
 have hor := Qb.mk hor
 have hg := Qb.mk hg
 clear hok hC
 generalize allL ds = us at *
 go_enter Tryd.func13, Tryd.ntmps13
 go_wp2_with (first | (go_at_call 28; go_loud (with_reducible refine CA.mono ?_); rintro e w2 ⟨U, rfl, hU, hb2⟩; have HB2 := Qb.mk (Qe hb1.out hb2); have HU := Qb.mk hU; have HNS := Qb.mk (show NS' (w2.alloc (.cells #[.slice none 0 0] 58)) w2.heap.size w2.heap.size (.slice none 0 0) [] from ⟨Qv w2 _, Kd.R_nil _ _ _ _ _, (fun m hm => nomatch hm), Nat.le_refl _⟩); clear hU hb2 CA))
 have hBa : Qb (Below w2.heap.size w2 (w2.alloc (.cells #[.slice none 0 0] 58))) := ⟨Qd (Below.refl _ _) _⟩
 have hCU : Qb (∀ W, Below w2.heap.size w2 W → Kd.C kII W U us.length us) := ⟨fun W hW => Kd.Qj HU.out hW⟩
 have hBw : Qb (∀ W, Below w2.heap.size w2 W → Below w.heap.size w W) := ⟨fun W hW => HB2.out.trans (hW.mono HB2.out.size)⟩
 clear HU HB2
 obtain ⟨nbx, hnx⟩ : ∃ nbx, w2.heap.size = nbx := ⟨_, rfl⟩
 rw [hnx] at HNS hBa hCU hBw ⊢
 clear hnx
 go_loopg [16] (us.length + 1) (fun kq v16 w' => ∃ (i : Nat) (A : Option Addr) (c : Nat) (ms : NM), v16 = .int .i64 (i : Int) ∧ i + kq = us.length + 1 ∧ 1 ≤ kq ∧ Qb (ms.map (·.2.2) = (List.range i).map (ZN us)) ∧ Qb (NS' w' nbx nbx (.slice A ms.length c) ms) ∧ Qb (Below nbx w2 w'))
 case atStart => exact ⟨0, none, 0, [], rfl, by omega, by omega, ⟨rfl⟩, HNS, hBa⟩
 case round =>
  obtain ⟨i, A, c, ms, rfl, hi, hk, hms, hns, hB⟩ := hrel
  have hml : ms.length = i := by have := congrArg List.length hms.out; simpa using this
  by_cases hlt : i < us.length
  ·have q1 : decide ((i : Int) < (us.length : Int)) = true := decide_eq_true (by omega)
   have hwd : Qb (Below wr.heap.size wr wr.drew) := ⟨Qi (Below.refl _ _)⟩
   have hns2 : Qb (NS' wr.drew nbx nbx (.slice A ms.length c) ms) := ⟨hns.out.below hwd.out⟩
   have hB2 : Qb (Below nbx w2 wr.drew) := ⟨Qi hB.out⟩
   have hU2 : Qb (Kd.C kII wr.drew U us.length us) := ⟨hCU.out _ hB2.out⟩
   have X0 : Qb (wr.drew.cell? ⟨nbx, 0, none⟩ = some (.slice A ms.length c)) := ⟨(Qa hns2.out.box 0).trans rfl⟩
   replace hml := Qb.mk hml
   go_wp2
   refine QZ (n := 7) (S := fun w' => w'.cell? ⟨nbx, 0, none⟩ = some (.slice A ms.length c)) (ds := [6]) (bm 7 0) (by kernel_rfl) rfl rfl (X0.out) (fun hHeld => ?_)
   generalize wr.drew = W9 at *
   refine Q4 (i := 1) (N := some 20) (v := ?_) (a' := ?_) (bm 7 2) rfl rfl (by kernel_rfl) (fun _ _ _ h => h) (Or.inl ⟨by rfl, ?_⟩) ?_ ?_
   rotate_left
   ·intro w'
    go_simp
    with_reducible rfl
   rotate_left
   ·simp only [Act.put, sA, sB, sC, Qk, Ql]
    rfl
   refine Q4 (i := 2) (N := some 21) (v := ?_) (a' := ?_) (bm 7 6) rfl rfl (by kernel_rfl) (fun _ _ _ h => h) (Or.inl ⟨by rfl, ?_⟩) ?_ ?_
   rotate_left
   ·intro w'
    go_simp
    with_reducible rfl
   rotate_left
   ·simp only [Act.put, sA, sB, sC, Qk, Ql]
    rfl
   refine QE (i := 0) (N := some 19) (v := ?_) (a' := ?_) (bm 7 7) rfl rfl (by kernel_rfl) (fun _ _ _ h => h) (Or.inl ⟨by rfl, ?_⟩) hHeld ?_ ?_
   rotate_left
   ·intro w' s0
    go_simp
    with_reducible rfl
   rotate_left
   ·simp only [Act.put, sA, sB, sC, Qk, Ql]
    rfl
   refine QQ (i := 3) (N := some 22) (bm 7 15) rfl rfl (by kernel_rfl) (by decide) (fun K hK => ?_)
   refine QI Tryd.func29 (by kernel_rfl) rfl #[.slice U us.length us.length, .int .i64 (i : Int)] (by rfl) rfl rfl (by simp only [List.map_toArray, List.map_cons, List.map_nil]; rfl) ?_
   (with_reducible refine (needs_round hor.out hU2.out hns2.out i hlt).mono ?_)
   rintro e w5 ⟨mb, mn, rfl, hm5, hn5, hbq⟩
   refine ⟨_, rfl, ?_⟩
   have HM5 := Qb.mk hm5
   have HN5 := Qb.mk hn5
   have HBQ := Qb.mk hbq
   have X5 : w5.cell? ⟨nbx, 0, none⟩ = some (.slice A ms.length c) := (Qa hn5.box 0).trans rfl
   clear hm5 hn5 hbq
   refine hK.out _ _ (X5) (fun hHeld => ?_)
   clear hK K
   refine Qq (a' := ?_) ?_ ?_
   rotate_left
   ·show Act.put _ (some 22) _ = _
    simp only [Act.put, sA, sB, sC, Qk, Ql]
    rfl
   refine QQ (i := 4) (N := some 23) (bm 7 31) rfl rfl (by kernel_rfl) (by decide) (fun K hK => ?_)
   refine QM (w1 := ?_) (v := ?_) (by rfl) rfl ?_ ?_
   rotate_left 2
   ·go_simp
    constructor
    ·rfl
    ·rfl
   refine hK.out _ _ ((World.cell?_alloc_lt _ _ _ (World.block_lt_of_cell? _ _ hHeld)).trans hHeld) (fun hHeld => ?_)
   clear hK K
   refine Qq (a' := ?_) ?_ ?_
   rotate_left
   ·show Act.put _ (some 23) _ = _
    simp only [Act.put, sA, sB, sC, Qk, Ql]
    rfl
   refine QQ (i := 5) (N := some 24) (bm 7 63) rfl rfl (by kernel_rfl) (by decide) (fun K hK => ?_)
   refine Kd.R_append_step kM (w0 := w5) nbx (by rfl) (.tmp 19) (.tmp 23) 58 59 (.map none) 8 rfl Tryd.underlying58 infMI rfl (by decide) (by decide) (.slice A ms.length c) (ms.map (·.1)) mb [.map (some mb)] (fun j => j ≠ nbx) (fun _ => False) rfl rfl rfl (fun _ hk => hk.elim) ?aF ?aO ?aB ?aS ?aL ?_
   case aF => exact fun k hk e => by have := (Array.getElem?_eq_some_iff.1 HN5.out.box).1; omega
   case aO => exact HN5.out.row
   case aB => exact Below.refl _ _
   case aS => exact Nat.le_of_lt (Array.getElem?_eq_some_iff.1 HN5.out.box).1
   case aL => rw [List.length_map]; have := hml.out; omega
   intro v3 w3 ho hb3 hg3 hat3
   obtain ⟨Ao, co, hv3⟩ := Kd.Z8 ho
   rw [List.length_append, List.length_map, List.length_singleton] at hv3
   subst hv3
   have hbk3 := (hg3.block nbx (Array.getElem?_eq_some_iff.1 HN5.out.box).1 (fun e => HN5.out.row.1 nbx e.symm rfl)).trans HN5.out.box
   have hfz3 := Qg hbk3 0
   have hcz3 : w3.cell? ⟨nbx, 0, none⟩ = some (.slice A ms.length c) := (Qa hbk3 0).trans rfl
   refine hK.out _ _ (hcz3) (fun hHeld => ?_)
   clear hK K
   refine Qq (a' := ?_) ?_ ?_
   rotate_left
   ·show Act.put _ (some 24) _ = _
    simp only [Act.put, sA, sB, sC, Qk, Ql]
    rfl
   refine Zw (i := 6) (N := none) (bm 7 127) rfl rfl (by kernel_rfl) (by decide) (fun K hK => ?_)
   refine Vk (w1 := ?_) (by rfl) rfl ?_ ?_
   rotate_left
   ·go_simp
    rfl
   refine hK.out _ _ ?_
   clear hK K
   refine Zx (by kernel_rfl) ?_
   have hN6 := HN5.out.add HM5.out ho hg3
   have hB5 : Below nbx w2 w5 := hB2.out.trans (HBQ.out.mono (Nat.le_of_lt (Array.getElem?_eq_some_iff.1 hns2.out.box).1))
   have hB6 : Qb (Below nbx w2 (w3.setCell ⟨nbx, 0, none⟩ (.slice Ao (ms.length + 1) co))) := ⟨(hB5.trans ((Mod.of_own hg3).below (Nat.le_of_lt (Array.getElem?_eq_some_iff.1 HN5.out.box).1) (fun j _ hj => Kd.R_base HN5.out.row j hj))).setCell (p := ⟨nbx, 0, none⟩) (Nat.le_refl _) _⟩
   have hN6 : Qb (NS' (w3.setCell ⟨nbx, 0, none⟩ (.slice Ao (ms.length + 1) co)) nbx nbx (.slice Ao (ms ++ [(mb, mn, ZN us i)]).length co) (ms ++ [(mb, mn, ZN us i)])) := ⟨by
    rw [List.length_append, List.length_singleton]
    exact hN6⟩
   have hms6 : Qb ((ms ++ [(mb, mn, ZN us i)]).map (·.2.2) = (List.range (i + 1)).map (ZN us)) := ⟨by rw [List.map_append, hms.out, List.range_succ, List.map_append]; rfl⟩
   have hlen6 : (ms ++ [(mb, mn, ZN us i)]).length = ms.length + 1 := by simp
   generalize w3.setCell ⟨nbx, 0, none⟩ (.slice Ao (ms.length + 1) co) = Wc at *
   clear hg3 ho hat3 hbk3 hfz3 hcz3 hHeld hB5
   go_wp2
   rw [← hlen6]
   go_roundg (gk - 1)
   case measure => omega
   case rel => exact ⟨i + 1, Ao, co, ms ++ [(mb, mn, ZN us i)], by go_num, by omega, by omega, hms6, hN6, hB6⟩
  ·have q1 : decide ((i : Int) < (us.length : Int)) = false := decide_eq_false (by omega)
   have hi2 : i = us.length := by omega
   subst hi2
   have hrs : ms.map (·.2.2) = rsL us := hms.out
   have hokm := Qb.mk (okM_r hor.out hrs)
   have hrs := Qb.mk hrs
   have hNE := Qb.mk hns.out.ne
   have hBr := Qb.mk (hBw.out _ hB.out)
   have hrl : Qb ((rsL us).length = us.length) := ⟨by simp [rsL]⟩
   have E : ∀ W : World, ∀ o : Obj, (W.alloc o).heap.size = W.heap.size + 1 := fun W o => Array.size_push _
   have hGS : Qb (GS wr ((wr.alloc (.map #[] 0)).alloc (.cells #[.map (some wr.heap.size)] 59)) (wr.heap.size + 1) wr.heap.size (wr.heap.size + 1 + 1) 0 [] none 0 []) := ⟨⟨Qd (Qd (Below.refl _ _) _) _, (ZU.made wr).of_block (Below.heap_alloc _ _ _ (by rw [E]; omega)), Nat.le_refl _, by have := Qv (wr.alloc (.map #[] 0)) (.cells #[.map (some wr.heap.size)] 59 (0, 0)); rwa [E] at this, Kd.R_nil _ _ _ _ _, ⟨by omega, by omega, by rw [E, E]; exact Nat.le_refl _⟩⟩⟩
   replace hml := Qb.mk hml
   clear hms hns hB
   go_wp2
   have hNEw : Qb (∀ W : World, Below wr.heap.size wr W → NE W nbx ms) := ⟨fun W hW => hNE.out.below hW⟩
   have hBw2 : Qb (∀ W : World, Below wr.heap.size wr W → Below w.heap.size w W) := ⟨fun W hW => hBr.out.trans (hW.mono hBr.out.size)⟩
   have hdd : Qb (wr.heap.size + 1 ≠ wr.heap.size) := ⟨by omega⟩
   clear hNE hBr hBw
   generalize ((wr.alloc (.map #[] 0)).alloc (.cells #[.map (some wr.heap.size)] 59)) = wS at *
   generalize wr.heap.size + 1 = dbx at *
   generalize wr.heap.size = db at *
   generalize dbx + 1 = B2 at *
   generalize wr = wN at *
   go_loopg [8] 2000 (fun kq v8 w' => ∃ (done : List Int) (out : List (List Int)) (A : Option Addr) (c nd : Nat), v8 = .slice A out.length c ∧ Qb (grps (rsL us) kq done out = some R) ∧ Qb (GS wN w' dbx db B2 nd done A c out))
   case atStart => exact ⟨[], [], none, 0, 0, rfl, hg, hGS⟩
   case round =>
    obtain ⟨done, out, A, c, nd, rfl, hgr, hgs⟩ := hrel
    have hdx : Qb (∀ W : World, W.heap[dbx]? = some (.cells #[.map (some db)] 59 (0, 0)) → W.cell? ⟨dbx, 0, none⟩ = some (.map (some db))) := ⟨fun W hW => (Qa hW 0).trans rfl⟩
    have hc0 := hdx.out _ hgs.out.x
    have hln := mapLen hgs.out.d
    cases gk with
    | zero => cases hgr.out
    | succ F =>
    by_cases hlt : done.length < us.length
    ·obtain ⟨i0, hnx, hdn, hol, hgn⟩ := grps_step hgr.out (by rw [hrl.out]; exact hlt)
     have q1 : decide ((done.length : Int) < (us.length : Int)) = true := decide_eq_true (by omega)
     have hi0 := nxt_lt hnx
     have hnx := Qb.mk hnx
     have hdn := Qb.mk hdn
     have hgn := Qb.mk hgn
     have hol := Qb.mk hol
     have hi0 := Qb.mk hi0
     have hlt := Qb.mk hlt
     clear hgr
     go_wp2
     go_loopg [9] 2000 (fun kq v9 w' => ∃ (i : Nat) , v9 = .int .i64 (i : Int) ∧ Qb (nxt (rsL us) done kq i = some i0) ∧ Qb (GS wN w' dbx db B2 nd done A c out))
     case atStart => exact ⟨0, rfl, hnx, hgs⟩
     case round =>
      clear hgs
      obtain ⟨i, rfl, hnx, hgs⟩ := hrel
      cases gk with
      | zero => cases hnx.out
      | succ F2 =>
      have hil : i < (rsL us).length := by
       have := hnx.out
       simp only [nxt] at this
       split at this
       ·assumption
       ·cases this
      have CR := ready_calls (hNEw.out _ hgs.out.b) hokm.out hgs.out.d hgs.out.x i (by rw [hrl.out] at hil; have := hml.out; omega)
      rw [rdy_r, hrs.out] at CR
      have hnx2 := hnx.out
      simp only [nxt, if_pos hil] at hnx2
      by_cases hr : rdyR (rsL us) done i = true
      ·rw [if_pos hr] at hnx2
       obtain rfl := Option.some.inj hnx2
       rw [hr] at CR
       clear hnx2 hr hil hnx
       go_wp2_with (first | (go_at_call 30; go_loud (with_reducible refine CR.mono ?_); rintro e w5 ⟨rfl, hb5⟩; have hgs5 := Qb.mk (hgs.out.below hb5); clear hb5 CR))
       have hil : i < ms.length := by have := hi0.out; rw [hrl.out] at this; have := hml.out; omega
       have hmu : ms.length = us.length := hml.out
       have hil := Qb.mk hil
       have hmu := Qb.mk hmu
       clear hgs
       go_loopg [10, 41] (us.length + 1) (fun kq v10 v41 w' => ∃ (k : Nat) (grp : List Int) (A3 : Option Addr) (c3 nd3 : Nat), v10 = .slice A3 grp.length c3 ∧ v41 = .int .i64 (k : Int) ∧ k + kq = us.length + 1 ∧ 1 ≤ kq ∧ Qb (grp ++ gr (rsL us) i (us.length - k) k = gr (rsL us) i us.length 0) ∧ Qb (ZU w' db nd3 (done ++ grp) ∧ nd3 ≤ done.length + grp.length ∧ grp.length ≤ k ∧ ∀ x ∈ grp, x < (k : Int)) ∧ Qb (Mod w5 w' (· = db)) ∧ Qb (Kd.R kI 3 w' w5.heap.size (fun _ => True) (.slice A3 grp.length c3) grp))
       case atStart => exact ⟨0, [], none, 0, nd, rfl, rfl, by omega, by omega, ⟨rfl⟩, ⟨by rw [List.append_nil]; exact hgs5.out.d, hgs5.out.n, Nat.le_refl _, fun x hx => nomatch hx⟩, ⟨Mod.refl _ _⟩, ⟨Kd.R_nil _ _ _ _ _⟩⟩
       case round =>
        obtain ⟨k, grp, A3, c3, nd3, rfl, rfl, hk1, hk2, hgq, hmd, hmod, hR3⟩ := hrel
        have hBk : Qb (Below db wN wr) := ⟨hgs5.out.b.trans (hmod.out.below (by have := hgs5.out.z; omega) (fun j _ hj => Nat.le_of_eq hj.symm))⟩
        by_cases hkl : k < us.length
        ·have q1 : decide ((k : Int) < (us.length : Int)) = true := decide_eq_true (by omega)
         have hkm : k < ms.length := by have := hmu.out; omega
         obtain ⟨ad, cN, hcN, hat⟩ := grp_at (hNEw.out _ hBk.out) (by omega)
         obtain ⟨hv1, hlk1⟩ := hat i hil.out
         obtain ⟨hv2, hlk2⟩ := hat k hkm
         have hlk1 := hlk1 (k : Int) ⟨by omega, by omega⟩
         have hlk2 := hlk2 (i : Int) ⟨by omega, by have := hil.out; have := hmu.out; omega⟩
         rw [memN_in] at hlk1 hlk2
         have hbo := both_eq hrs.out hil.out hkm
         have hgk : gr (rsL us) i (us.length - k) k = if both (rsL us) i k then (k : Int) :: gr (rsL us) i (us.length - (k + 1)) (k + 1) else gr (rsL us) i (us.length - (k + 1)) (k + 1) := by
          rw [show us.length - k = (us.length - (k + 1)) + 1 by omega]; rfl
         have pi0 : (0 : Int) ≤ (i : Int) := by omega
         have pi1 : (i : Int) < (ms.length : Int) := by have := hil.out; omega
         have pk0 : (0 : Int) ≤ (k : Int) := by omega
         have pk1 : (k : Int) < (ms.length : Int) := by omega
         generalize ms[i]'hil.out = mi at *
         generalize ms[k]'hkm = mk at *
         obtain ⟨bi, ni, ri⟩ := mi
         obtain ⟨bk, nk, rk⟩ := mk
         simp only at hv1 hv2 hlk1 hlk2 hbo
         clear hat
         have hgk := Qb.mk hgk
         have hbo := Qb.mk hbo
         by_cases y1 : inI ri (k : Int) = true
         ·rw [if_pos y1] at hlk1
          by_cases y2 : inI rk (i : Int) = true
          ·rw [if_pos y2] at hlk2
           have hgq2 : Qb ((grp ++ [(k : Int)]) ++ gr (rsL us) i (us.length - (k + 1)) (k + 1) = gr (rsL us) i us.length 0) := ⟨by
            rw [← hgq.out, hgk.out, hbo.out, if_pos (by simp [y1, y2]), List.append_assoc]; rfl⟩
           have hnew : Qb (inI (done ++ grp) (k : Int) = false) := ⟨by
            have h1 := hdn.out (k : Int) (by rw [hrl.out, ← hgq2.out]; simp)
            have h2 : inI grp (k : Int) = false := by
             cases e : inI grp (k : Int) with
             | false => rfl
             | true => have := hmd.out.2.2.2 _ (Va.1 e); omega
            unfold inI at h1 h2 ⊢
            rw [List.any_append, h1, h2]; rfl⟩
           have hnm : Qb (nd3 < maxLen) := ⟨by have := hmd.out; have := hlt.out; unfold maxLen; omega⟩
           have hs5 : Qb (w5.heap.size ≤ wr.heap.size) := ⟨hmod.out.size⟩
           have hz5 : Qb (db < w5.heap.size ∧ dbx < w5.heap.size ∧ dbx ≠ db) := ⟨by have := hgs5.out.z; omega, by have := hgs5.out.z; omega, hdd.out⟩
           have hxc : Qb (wr.heap[dbx]? = some (.cells #[.map (some db)] 59 (0, 0))) := ⟨(hmod.out.block dbx hz5.out.2.1 hz5.out.2.2).trans hgs5.out.x⟩
           have hL7 : Qb ((grp.length + 1) * 8 ≤ 140737488355328) := ⟨by have := hmd.out; omega⟩
           have hwk : Qb (WF (k : Int)) := ⟨⟨by omega, by omega⟩⟩
           clear y1 y2
           go_wp2_with (first | ((with_reducible refine Zi (b := .append) (xs := #[.tmp 60, .tmp 62]) rfl ?_); at_builtin; go_loud (refine Kd.R_append kI (w0 := wr) w5.heap.size rfl (.tmp 60) (.tmp 62) 42 3 (.int .i64 0) 8 rfl Tryd.underlying42 infI rfl (by decide) (by decide) (.slice A3 grp.length c3) grp (k : Int) [.int .i64 (k : Int)] (fun _ => True) (fun _ => False) rfl rfl ?aP (fun _ hk => hk.elim) ?aF ?aO ?aB ?aS ?aL ?_); (case aP => exact rfl); (case aF => exact fun _ _ => trivial); (case aO => exact hR3.out); (case aB => exact Below.refl _ _); (case aS => exact hs5.out); (case aL => exact hL7.out); intro v3 w3 hr3 hb3 hg3 hat3; obtain ⟨A4, c4, hv3⟩ := Kd.Z8 hr3; rw [List.length_append, List.length_singleton] at hv3; subst hv3; have hfb : ∀ j, j < w5.heap.size → w3.heap[j]? = wr.heap[j]? := (fun j hj => hg3.block j (Nat.lt_of_lt_of_le hj hs5.out) (fun e => by have := Kd.R_base hR3.out j e.symm; omega)); have hcx3 := hdx.out _ ((hfb dbx hz5.out.2.1).trans hxc.out); obtain ⟨W7, hst7, hM7, hg7⟩ := (hmd.out.1.of_block (hfb db hz5.out.1)).store hnm.out hwk.out hnew.out; have hM7 := Qb.mk hM7; have hg7 := Qb.mk hg7; have hr3 := Qb.mk hr3; have hg3 := Qb.mk hg3; have hfb := Qb.mk hfb; clear hat3 hb3))
           go_roundg (gk - 1)
           case measure => omega
           case rel => exact ⟨k + 1, grp ++ [(k : Int)], A4, c4, nd3 + 1, by simp, by go_num, by omega, by omega, hgq2, ⟨by rw [← List.append_assoc]; exact hM7.out, by have := hmd.out; simp; omega, by have := hmd.out; simp; omega, fun x hx => by
            rcases List.mem_append.1 hx with hx | hx
            ·have := hmd.out.2.2.2 x hx; omega
            ·have : x = (k : Int) := by simpa using hx
             omega⟩, ⟨(hmod.out.trans (Mod.of_own hg3.out) (fun j hj e => absurd (Kd.R_base hR3.out j e) (by omega))).trans (Mod.of_grown hg7.out) (fun j _ hj => hj)⟩, ⟨by rw [List.length_append, List.length_singleton]; exact Rn_step hr3.out (fun j hj => hg7.out.block j (Kd.R_lt hr3.out j hj) (fun e => by have h1 := Option.some.inj e; have h2 := Kd.R_base hr3.out j hj; have := hz5.out; omega)) (fun _ _ => trivial)⟩⟩
          ·rw [if_neg y2] at hlk2
           have hgq2 : Qb (grp ++ gr (rsL us) i (us.length - (k + 1)) (k + 1) = gr (rsL us) i us.length 0) := ⟨by
            rw [← hgq.out, hgk.out, hbo.out, if_neg (by simp [y2])]⟩
           clear y1 y2
           go_wp2
           go_roundg (gk - 1)
           case measure => omega
           case rel => exact ⟨k + 1, grp, A3, c3, nd3, rfl, by go_num, by omega, by omega, hgq2, ⟨hmd.out.1, hmd.out.2.1, by have := hmd.out; omega, fun x hx => by have := hmd.out.2.2.2 x hx; omega⟩, hmod, hR3⟩
         ·rw [if_neg y1] at hlk1
          have hgq2 : Qb (grp ++ gr (rsL us) i (us.length - (k + 1)) (k + 1) = gr (rsL us) i us.length 0) := ⟨by
           rw [← hgq.out, hgk.out, hbo.out, if_neg (by simp [y1])]⟩
          clear y1 hlk2
          go_wp2
          go_roundg (gk - 1)
          case measure => omega
          case rel => exact ⟨k + 1, grp, A3, c3, nd3, rfl, by go_num, by omega, by omega, hgq2, ⟨hmd.out.1, hmd.out.2.1, by have := hmd.out; omega, fun x hx => by have := hmd.out.2.2.2 x hx; omega⟩, hmod, hR3⟩
        ·have q1 : decide ((k : Int) < (us.length : Int)) = false := decide_eq_false (by omega)
         have hk9 : k = us.length := by omega
         subst hk9
         have hge : grp = gr (rsL us) i (rsL us).length 0 := by rw [hrl.out, ← hgq.out, Nat.sub_self]; simp [gr]
         rw [← hge] at hgn
         have hgn := Qb.mk hgn.out
         have hRo : Qb (Kd.R kII 42 wr B2 (fun _ => True) (.slice A out.length c) out) := ⟨Kd.R_mono (Kd.R_step (Kd.R_bound hgs5.out.r) (fun j hj hlt => hmod.out.block j hlt (fun e => by have := hj.2.1; have := hgs5.out.z; omega))) (fun _ _ => trivial)⟩
         have hBs : Qb (B2 ≤ w5.heap.size ∧ w5.heap.size ≤ wr.heap.size) := ⟨hgs5.out.z.2.2, hmod.out.size⟩
         have hL7 : Qb ((out.length + 1) * 24 ≤ 140737488355328) := ⟨by have := hol.out; omega⟩
         clear hge
         go_wp2_with (first | ((with_reducible refine Zi (b := .append) (xs := #[.tmp 67, .tmp 69]) rfl ?_); at_builtin; go_loud (refine Kd.R_append kII (w0 := wr) B2 rfl (.tmp 67) (.tmp 69) 40 42 (.slice none 0 0) 24 rfl Tryd.underlying40 infSI rfl (by decide) (by decide) (.slice A out.length c) out grp [.slice A3 grp.length c3] (fun _ => True) (fun j => w5.heap.size ≤ j) rfl rfl ?aP ?aK ?aF ?aO ?aB ?aS ?aL ?_); (case aP => exact Kd.M_row (Rn_ok (ok' := fun j => w5.heap.size ≤ j) (Kd.ZT hR3.out hBs.out.1) (fun j hj => Kd.R_base hR3.out j hj))); (case aK => exact fun j hj => ⟨trivial, fun e => absurd (Kd.R_lt hgs5.out.r j e.symm) (by omega)⟩); (case aF => exact fun _ _ => trivial); (case aO => exact hRo.out); (case aB => exact Below.refl _ _); (case aS => exact Nat.le_trans hBs.out.1 hBs.out.2); (case aL => exact hL7.out); intro v3 w3 hr3 hb3 hg3 hat3; obtain ⟨A4, c4, hv3⟩ := Kd.Z8 hr3; rw [List.length_append, List.length_singleton] at hv3; subst hv3; have hr3 := Qb.mk hr3; have hb3 := Qb.mk hb3; clear hat3 hg3))
         go_roundg F
         case measure => omega
         case rel => exact ⟨done ++ grp, out ++ [grp], A4, c4, nd3, by simp, hgn, ⟨⟨hBk.out.trans (hb3.out.mono (by have := hgs5.out.z; omega)), hmd.out.1.of_block (hb3.out.block db (by have := hgs5.out.z; omega)), by have := hmd.out; simp; omega, (hb3.out.block dbx (by have := hgs5.out.z; omega)).trans ((hmod.out.block dbx (by have := hgs5.out.z; omega) hdd.out).trans hgs5.out.x), by rw [List.length_append, List.length_singleton]; exact hr3.out, ⟨hgs5.out.z.1, hgs5.out.z.2.1, by have := hb3.out.size; have := hBs.out; omega⟩⟩⟩⟩
      ·rw [if_neg hr] at hnx2
       have hr2 : rdyR (rsL us) done i = false := by simpa using hr
       rw [hr2] at CR
       have hnx2 := Qb.mk hnx2
       have hi7 : i < 2000 := by rw [hrl.out] at hil; omega
       clear hr hr2 hil hnx
       go_wp2_with (first | (go_at_call 30; go_loud (with_reducible refine CR.mono ?_); rintro e w5 ⟨rfl, hb5⟩; have hgs5 := Qb.mk (hgs.out.below hb5); clear hb5 CR))
       go_roundg F2
       case measure => omega
       case rel => exact ⟨i + 1, by go_num, hnx2, hgs5⟩
    ·have q1 : decide ((done.length : Int) < (us.length : Int)) = false := decide_eq_false (by omega)
     have hRo : out = R := by
      have := hgr.out
      simp only [grps] at this
      rw [if_neg (by rw [hrl.out]; exact hlt)] at this
      exact Option.some.inj this
     subst hRo
     clear hgr
     go_wp2
     go_ret
     obtain ⟨A7, c7, he7, hl7, hC7⟩ := Kd.R_reads hgs.out.r
     injection he7 with h1 h2 h3
     subst h1 h3
     exact ⟨A, c, rfl, hl7, hC7, hBw2.out _ hgs.out.b⟩
end Go.Proofs.YtlgpoigbadajnaaDoor.DepA
