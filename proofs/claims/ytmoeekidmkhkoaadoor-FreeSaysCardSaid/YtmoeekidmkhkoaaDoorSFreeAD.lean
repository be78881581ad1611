/- Texts of the walks put together: FreeA, FreeB, FreeC, FreeD. Conditions: as each states. -/
import Derived.Test.YtmoeekidmkhkoaaDoorSPFreeAx0
import Derived.Maps.OwnOps
import Derived.Maps.Views
import Derived.WalkSpells
import Derived.Deep.RegionHeld3
namespace Go.Proofs.YtmoeekidmkhkoaaDoor.FreeA
open Go.RowKit Go.Proofs.YtmoeekidmkhkoaaDoorW.PrintWords Go.Proofs.YtmoeekidmkhkoaaDoorW.PrintLast Go.Proofs.YtmoeekidmkhkoaaDoorW.PrintMore Go.Proofs.YtmoeekidmkhkoaaDoor.PFreeA
open Go.Maps (Keyed has IsMap)
set_option linter.unusedVariables false
set_option linter.unusedSimpArgs false
def rawR (v : Value) : Option (DataW Value × List MemPlace) := some (.held v, [])
def MapF (W : World) (P : Program) (k : TypeId) (b n : Nat) (F : Lit → Option Value) : Prop :=
 ∃ D : DataW Value, W.ownsMap P k rawR b n D ∧ IsMap D ∧ ∀ l z, D.atKey l z = match F l with | some v => .held v | none => z
section
variable {P : Program} {k t e : TypeId} {W W1 : World} {b n : Nat} {F : Lit → Option Value} {key val z : Value} {kl : Lit}
theorem MapF.lt (h : MapF W P k b n F) : b < W.heap.size := by obtain ⟨D, h, _⟩ := h; exact h.lt
theorem MapF.of_block (h : MapF W P k b n F) (hb : W1.heap[b]? = W.heap[b]?) : MapF W1 P k b n F := by
 obtain ⟨D, ⟨es, clock, h1, h2⟩, h3⟩ := h
 exact ⟨D, ⟨es, clock, hb.trans h1, h2⟩, h3⟩
theorem MapF.blk (h : MapF W P k b n F) : ∃ es clock, W.heap[b]? = some (.map es clock) := by
 obtain ⟨D, ⟨es, clock, h1, h2⟩, h3⟩ := h
 exact ⟨es, clock, h1⟩
theorem MapF.made (W : World) (P : Program) (k : TypeId) : MapF (W.alloc (.map #[] 0)) P k W.heap.size 0 (fun _ => none) := ⟨.map [], World.ownsMap_made W P k rawR, ⟨[], rfl⟩, fun l z => rfl⟩
theorem MapF.look (h : MapF W P k b n F) (c : Bool) (K : Keyed P k) (ht : P.underlying t = some (.map k e)) (hz : (zeroValue e).run P W = .ok z W) (hkey : keyOf P k key = some kl) :
  (Instr.lookup t (.map (some b)) key c).run P W = .ok (match F kl with | some v => if c then .tuple #[v, .bool true] else v | none => if c then .tuple #[z, .bool false] else z) W := by
 obtain ⟨D, ⟨es, clock, hb, hF, _, rfl⟩, hm, hD⟩ := h
 rcases Maps.fit_look c K ht hz hb hF hkey with ⟨hrun, _, hat⟩ | ⟨e0, y, _, _, hrun, hRv, hat, _⟩
 ·have : F kl = none := by
   have h1 := (hD kl .nil).symm.trans (hat .nil)
   cases hf : F kl with
   | none => rfl
   | some v => rw [hf] at h1; cases h1
  rw [hrun, this]
 ·have : F kl = some e0.val := by
   have hy : y = (.held e0.val, []) := (Option.some.inj hRv).symm
   subst hy
   have h1 := (hD kl .nil).symm.trans (hat .nil)
   cases hf : F kl with
   | none => rw [hf] at h1; cases h1
   | some v => rw [hf] at h1; injection h1 with h1; rw [h1]
  rw [hrun, this]
theorem MapF.store (h : MapF W P k b n F) (K : Keyed P k) (ht : P.underlying t = some (.map k e)) (hn : n < maxLen) (hkey : keyOf P k key = some kl) (hkl : WideAt.IsKeyLit kl) (val : Value) :
  ∃ W' F', (Instr.mapUpdate t (.map (some b)) key val).run P W = .ok () W' ∧ MapF W' P k b (n + 1) F' ∧ F' kl = some val ∧ (∀ l, l ≠ kl → F' l = F l) ∧ W.grownBy W' (some b) := by
 classical
 obtain ⟨D, ho, hm, hD⟩ := h
 obtain ⟨W', hrun, ho', hg⟩ := ho.update K ht hn hkey (val := val) (d := .held val) (ps := []) rfl
 refine ⟨W', fun l => if l = kl then some val else F l, hrun, ⟨_, ho', hm.put _ _, fun l z => ?_⟩, if_pos rfl, fun l hl => if_neg hl, hg⟩
 by_cases hl : l = kl
 ·subst hl
  rw [Maps.atKey_put_same hm hkl]
  simp
 ·rw [Maps.atKey_put_other hl]
  simp only [hl, if_false]
  exact hD l z
end
structure Mod (W W' : World) (S : Nat → Prop) : Prop where
 os : W'.os = W.os
 tape : W'.tape = W.tape
 output : W'.output = W.output
 size : W.heap.size ≤ W'.heap.size
 block : ∀ i, i < W.heap.size → ¬ S i → W'.heap[i]? = W.heap[i]?
theorem Mod.refl (W : World) (S : Nat → Prop) : Mod W W S := ⟨rfl, rfl, rfl, Nat.le_refl _, fun _ _ _ => rfl⟩
theorem Mod.of_below {W W' : World} (h : Below W.heap.size W W') (S : Nat → Prop) : Mod W W' S := ⟨h.os, h.tape, h.output, h.size, fun i hi _ => h.block i hi⟩
theorem Mod.trans {W W' W2 : World} {S S' : Nat → Prop} (h : Mod W W' S) (h' : Mod W' W2 S') (hs : ∀ i, i < W.heap.size → S' i → S i) : Mod W W2 S :=
 ⟨h'.os.trans h.os, h'.tape.trans h.tape, h'.output.trans h.output, Nat.le_trans h.size h'.size, fun i hi hn => (h'.block i (Nat.lt_of_lt_of_le hi h.size) (fun hs' => hn (hs i hi hs'))).trans (h.block i hi hn)⟩
theorem Mod.mono {W W' : World} {S S' : Nat → Prop} (h : Mod W W' S) (hs : ∀ i, i < W.heap.size → S i → S' i) : Mod W W' S' := ⟨h.os, h.tape, h.output, h.size, fun i hi hn => h.block i hi (fun h' => hn (hs i hi h'))⟩
theorem Mod.below {B : Nat} {W W' : World} {S : Nat → Prop} (h : Mod W W' S) (hB : B ≤ W.heap.size) (hs : ∀ i, i < W.heap.size → S i → B ≤ i) : Below B W W' :=
 ⟨h.os, h.tape, h.output, h.size, fun i hi => h.block i (Nat.lt_of_lt_of_le hi hB) (fun h' => by have := hs i (Nat.lt_of_lt_of_le hi hB) h'; omega)⟩
theorem Mod.of_grown {W W' : World} {g : Nat} (h : W.grownBy W' (some g)) : Mod W W' (· = g) := ⟨h.os, h.tape, h.output, h.size, fun i hi hn => h.block i hi (fun e => hn (Option.some.inj e))⟩
theorem Mod.of_own {W W' : World} {v : Value} (h : W.grownBy W' v.ownBlock) : Mod W W' (fun j => v.ownBlock = some j) := ⟨h.os, h.tape, h.output, h.size, fun i hi hn => h.block i hi (fun e => hn e.symm)⟩
theorem Mod.of_set (W : World) (p : Addr) (v : Value) : Mod W (W.setCell p v) (· = p.block) := by
 have hb := (Below.refl p.block W).setCell (Nat.le_refl p.block) v
 exact ⟨hb.os, hb.tape, hb.output, hb.size, fun i _ hn => Below.heap_setCell W p v i hn⟩
theorem Mod.drew {W W' : World} {S : Nat → Prop} (h : Mod W W' S) : Mod W W'.drew S := ⟨h.os, h.tape, h.output, h.size, h.block⟩
theorem Rs_ok {base : Nat} {ok ok' : Nat → Prop} {W : World} {v : Value} {xs : List ByteArray} (h : Kd.R Kd.string 9 W base ok v xs) (hok : ∀ j, v.ownBlock = some j → ok' j) : Kd.R Kd.string 9 W base ok' v xs := by
 obtain ⟨h0, inner, ho, hr⟩ := h
 exact ⟨hok, inner, ho, hr.imp_ (fun _ _ hm => hm)⟩
theorem Rs_step {base : Nat} {ok ok' : Nat → Prop} {W W1 : World} {v : Value} {xs : List ByteArray} (h : Kd.R Kd.string 9 W base ok v xs) (hb : ∀ j, v.ownBlock = some j → W1.heap[j]? = W.heap[j]?) (hok : ∀ j, v.ownBlock = some j → ok' j) : Kd.R Kd.string 9 W1 base ok' v xs :=
 Rs_ok (Kd.R_step (Rs_ok (ok' := fun j => v.ownBlock = some j) h (fun _ hj => hj)) (fun j hj _ => hb j hj)) hok
def key (s : ByteArray) : Lit := .string s.data.toList
theorem key_inj {s t : ByteArray} (h : key s = key t) : s = t := by
 unfold key at h
 injection h with h
 exact ByteArray.ext (Array.toList_inj.1 h)
def updI (g : ByteArray → Int) (s : ByteArray) (x : Int) : ByteArray → Int := fun t => if t = s then x else g t
def MapS (W : World) (b n : Nat) (g : ByteArray → Int) : Prop := ∃ F, MapF W Tryd.prog 9 b n F ∧ ∀ s, (match F (key s) with | some v => v | none => .int .i64 0) = .int .i64 (g s)
theorem keyed9 : Keyed Tryd.prog 9 := Maps.string_keyed Tryd.underlying9
def NS (s : ByteArray) : Prop := s.size ≤ 140737488351232
theorem key9 {s : ByteArray} (hs : NS s) : keyOf Tryd.prog 9 (.string s) = some (key s) := by
 have : s.size ≤ maxLen := Nat.le_trans hs (by decide)
 simp [keyOf, Tryd.underlying9, mapKey, key, this]
theorem zero3 (W : World) : (zeroValue 3).run Tryd.prog W = .ok (.int .i64 0) W := by kernel_rfl
theorem key_is (s : ByteArray) : WideAt.IsKeyLit (key s) := by first | trivial | (simp [WideAt.IsKeyLit, key]) | exact ⟨⟩
section
variable {W W1 : World} {b n : Nat} {g : ByteArray → Int}
theorem MapS.lt (h : MapS W b n g) : b < W.heap.size := h.elim fun _ h => h.1.lt
theorem MapS.of_block (h : MapS W b n g) (hb : W1.heap[b]? = W.heap[b]?) : MapS W1 b n g := h.elim fun F h => ⟨F, h.1.of_block hb, h.2⟩
theorem MapS.blk (h : MapS W b n g) : ∃ es clock, W.heap[b]? = some (.map es clock) := h.elim fun _ h => h.1.blk
theorem MapS.made (W : World) : MapS (W.alloc (.map #[] 0)) W.heap.size 0 (fun _ => 0) := ⟨_, MapF.made W Tryd.prog 9, fun s => rfl⟩
theorem MapS.look (h : MapS W b n g) {s : ByteArray} (hs : NS s) : (Instr.lookup 59 (.map (some b)) (.string s) false).run Tryd.prog W = .ok (.int .i64 (g s)) W := by
 obtain ⟨F, h, hg⟩ := h
 rw [h.look false keyed9 Tryd.underlying59 (zero3 W) (key9 hs), ← hg s]
 cases F (key s) <;> rfl
theorem MapS.store (h : MapS W b n g) (hn : n < maxLen) {s : ByteArray} (hs : NS s) (x : Int) : ∃ W', (Instr.mapUpdate 59 (.map (some b)) (.string s) (.int .i64 x)).run Tryd.prog W = .ok () W' ∧ MapS W' b (n + 1) (updI g s x) ∧ W.grownBy W' (some b) := by
 obtain ⟨F, h, hg⟩ := h
 obtain ⟨W', F', hrun, hM, h1, h2, hgr⟩ := h.store keyed9 Tryd.underlying59 hn (key9 hs) (key_is s) (.int .i64 x)
 refine ⟨W', hrun, ⟨F', hM, fun t => ?_⟩, hgr⟩
 by_cases ht : t = s
 ·subst ht
  rw [h1]
  simp [updI]
 ·rw [h2 _ (fun e => ht (key_inj e)), hg t]
  simp [updI, ht]
end
theorem inf9 : (Tryd.prog.info? 9).map (fun i => (i.zero, i.size, i.bytes)) = some (some (.string ⟨#[]⟩), 1, 16) := by kernel_rfl
structure FS (W : World) (base pb ab hb : Nat) (v : Value) (na nh : Nat) (ga gh : ByteArray → Int) (out : List ByteArray) : Prop where
 blk : W.heap[pb]? = some (.cells #[.map (some ab), .map (some hb), v] 61 (0, 0))
 am : MapS W ab na ga
 hm : MapS W hb nh gh
 row : Kd.R Kd.string 9 W base (fun j => j ≠ pb ∧ j ≠ ab ∧ j ≠ hb) v out
 ge : base ≤ pb ∧ base ≤ ab ∧ base ≤ hb
 ne : ab ≠ hb
def FP (pb ab hb : Nat) (v : Value) (j : Nat) : Prop := j = pb ∨ j = ab ∨ j = hb ∨ v.ownBlock = some j
section
variable {w0 W W1 : World} {base pb ab hb na nh : Nat} {v : Value} {ga gh : ByteArray → Int} {out : List ByteArray}
theorem FS.pne (h : FS W base pb ab hb v na nh ga gh out) : pb ≠ ab ∧ pb ≠ hb := by
 constructor
 ·rintro rfl
  obtain ⟨es, c, hm⟩ := h.am.blk
  rw [h.blk] at hm
  cases hm
 ·rintro rfl
  obtain ⟨es, c, hm⟩ := h.hm.blk
  rw [h.blk] at hm
  cases hm
theorem FS.lt (h : FS W base pb ab hb v na nh ga gh out) {j : Nat} (hj : FP pb ab hb v j) : j < W.heap.size := by
 rcases hj with rfl | rfl | rfl | hj
 ·exact (Array.getElem?_eq_some_iff.1 h.blk).1
 ·exact h.am.lt
 ·exact h.hm.lt
 ·exact Kd.R_lt h.row j hj
theorem FS.fge (h : FS W base pb ab hb v na nh ga gh out) {j : Nat} (hj : FP pb ab hb v j) : base ≤ j := by
 rcases hj with rfl | rfl | rfl | hj
 ·exact h.ge.1
 ·exact h.ge.2.1
 ·exact h.ge.2.2
 ·exact Kd.R_base h.row j hj
theorem FS.step (h : FS W base pb ab hb v na nh ga gh out) (hk : ∀ j, FP pb ab hb v j → W1.heap[j]? = W.heap[j]?) : FS W1 base pb ab hb v na nh ga gh out :=
 ⟨(hk pb (.inl rfl)).trans h.blk, h.am.of_block (hk ab (.inr (.inl rfl))), h.hm.of_block (hk hb (.inr (.inr (.inl rfl)))), Rs_step h.row (fun j hj => hk j (.inr (.inr (.inr hj)))) (fun j hj => h.row.1 j hj), h.ge, h.ne⟩
theorem FS.below (h : FS W base pb ab hb v na nh ga gh out) (hbl : Below W.heap.size W W1) : FS W1 base pb ab hb v na nh ga gh out := h.step (fun j hj => hbl.block j (h.lt hj))
theorem FS.cells (h : FS W base pb ab hb v na nh ga gh out) : W.cell? ⟨pb, 0, none⟩ = some (.map (some ab)) ∧ W.cell? ⟨pb, 1, none⟩ = some (.map (some hb)) ∧ W.cell? ⟨pb, 2, none⟩ = some v ∧ ∀ j, W.frozen? ⟨pb, j, none⟩ = false :=
 ⟨(blk_cell h.blk 0).trans rfl, (blk_cell h.blk 1).trans rfl, (blk_cell h.blk 2).trans rfl, blk_frozen h.blk⟩
theorem FS.putA (h : FS W base pb ab hb v na nh ga gh out) {ga' : ByteArray → Int} (hM : MapS W1 ab (na + 1) ga') (hg : W.grownBy W1 (some ab)) : FS W1 base pb ab hb v (na + 1) nh ga' gh out :=
 ⟨(hg.block pb (h.lt (.inl rfl)) (fun e => h.pne.1 (Option.some.inj e))).trans h.blk, hM, h.hm.of_block (hg.block hb (h.lt (.inr (.inr (.inl rfl)))) (fun e => h.ne (Option.some.inj e).symm)), Rs_step h.row (fun j hj => hg.block j (Kd.R_lt h.row j hj) (fun e => (h.row.1 j hj).2.1 (Option.some.inj e))) (fun j hj => h.row.1 j hj), h.ge, h.ne⟩
theorem FS.putH (h : FS W base pb ab hb v na nh ga gh out) {gh' : ByteArray → Int} (hM : MapS W1 hb (nh + 1) gh') (hg : W.grownBy W1 (some hb)) : FS W1 base pb ab hb v na (nh + 1) ga gh' out :=
 ⟨(hg.block pb (h.lt (.inl rfl)) (fun e => h.pne.2 (Option.some.inj e))).trans h.blk, h.am.of_block (hg.block ab (h.lt (.inr (.inl rfl))) (fun e => h.ne (Option.some.inj e))), hM, Rs_step h.row (fun j hj => hg.block j (Kd.R_lt h.row j hj) (fun e => (h.row.1 j hj).2.2 (Option.some.inj e))) (fun j hj => h.row.1 j hj), h.ge, h.ne⟩
end
theorem at_str {w : World} {A : Option Addr} {n : Nat} {xs : List ByteArray} (h : Kd.C Kd.string w A n xs) (i : Nat) (hi : i < xs.length) (hn : i < n) : ∃ ad, A = some ad ∧ w.cell? (ad.add i) = some (.string xs[i]) := by
 obtain ⟨ad, c, e, _, hK, hc⟩ := Kd.C_get h (⟨#[]⟩ : ByteArray) (i : Int) (by omega) (by omega)
 have hK' : c = [.string (xs.getD i ⟨#[]⟩)] := hK
 subst hK'
 refine ⟨ad, e, ?_⟩
 have := hc 0 _ rfl
 have hsz : Kd.string.sz = 1 := rfl
 rw [hsz, Int.toNat_natCast, Nat.mul_one, Nat.add_zero] at this
 rw [this]
 simp [hi]
def addk (g : ByteArray → Int) (by_ : Int) : List ByteArray → ByteArray → Int
 | [] => g
 | s :: l => addk (updI g s (g s + by_)) by_ l
def Bd (m : Int) (g : ByteArray → Int) : Prop := ∀ s, -m ≤ g s ∧ g s ≤ m
theorem Bd.upd {m : Int} {g : ByteArray → Int} (h : Bd m g) {s : ByteArray} {by_ : Int} (hb : -1 ≤ by_ ∧ by_ ≤ 1) : Bd (m + 1) (updI g s (g s + by_)) := by
 intro t
 have h1 := h t
 have h2 := h s
 unfold updI
 split <;> omega
set_option maxHeartbeats 4000000 in
set_option maxRecDepth 100000 in
theorem bind_calls {w0 W : World} {pb ab hb na nh : Nat} {v : Value} {ga gh : ByteArray → Int} {out : List ByteArray} (h : FS W w0.heap.size pb ab hb v na nh ga gh out) (hB : Below w0.heap.size w0 W) (l : List ByteArray) {A : Option Addr} {c : Nat} (hC : Kd.C Kd.string w0 A l.length l) (hNS : ∀ s ∈ l, NS s) (by_ : Int) (hby : -1 ≤ by_ ∧ by_ ≤ 1) (m : Nat) (hm : Bd m ga) (hml : m + l.length ≤ 1000000000000) (hn : na + l.length ≤ 1000000000000) :
  Calls Tryd.prog 55 #[.pointer (some ⟨pb, 0, none⟩), .slice A l.length c, .int .i64 by_] W fun e W' => e = .returned (.tuple #[]) ∧ FS W' w0.heap.size pb ab hb v (na + l.length) nh (addk ga by_ l) gh out ∧ Mod W W' (· = ab) := by
 have h9 := Aside0.mk h
 have hB9 := Aside0.mk hB
 have hC9 := Aside0.mk hC
 have hm9 := Aside0.mk hm
 have hlen := hC.2.1
 have hNS := Aside0.mk hNS
 clear h hB hC hm
 go_enter Tryd.func55, Tryd.ntmps55
 go_wp2
 go_loopg [10] (l.length + 1) (fun kq v10 w' => ∃ (i : Nat) (g : ByteArray → Int), v10 = .int .i64 (i : Int) ∧ i + kq = l.length + 1 ∧ 1 ≤ kq ∧ Aside0 (addk g by_ (l.drop i) = addk ga by_ l) ∧ Aside0 (Bd (m + i : Nat) g) ∧ Aside0 (FS w' w0.heap.size pb ab hb v (na + i) nh g gh out) ∧ Aside0 (Mod W w' (· = ab)))
 case atStart => exact ⟨0, ga, rfl, by omega, by omega, ⟨rfl⟩, hm9, h9, ⟨Mod.refl _ _⟩⟩
 case round =>
  obtain ⟨i, g, rfl, hi, hk, hs, hbd, hf, hmod⟩ := hrel
  by_cases hlt : i < l.length
  ·obtain ⟨ad, rfl, hv⟩ := at_str (Kd.C_below hC9.out (Below.trans hB9.out (hmod.out.below hB9.out.size (fun j _ hj => hj ▸ h9.out.ge.2.1)))) i hlt hlt
   have p0 : (0 : Int) ≤ (i : Int) := by omega
   have q0 : (i : Int) < (l.length : Int) := by omega
   have q1 : decide ((i : Int) < (l.length : Int)) = true := decide_eq_true q0
   have hns := hNS.out l[i] (List.getElem_mem hlt)
   obtain ⟨hc0, _, _, _⟩ := hf.out.cells
   have hlk := hf.out.am.look hns
   have hb1 := hbd.out l[i]
   obtain ⟨W', hst, hM', hg'⟩ := hf.out.am.store (by unfold maxLen; omega) hns (g l[i] + by_)
   have hw1 : wrap64 (g l[i] + by_) = g l[i] + by_ := by unfold wrap64; omega
   have hF' := Aside0.mk (hf.out.putA hM' hg')
   have hmod' := Aside0.mk (hmod.out.trans (Mod.of_grown hg') (fun j _ hj => hj))
   have hbd' := Aside0.mk (hbd.out.upd (s := l[i]) hby)
   have hs' : Aside0 (addk (updI g l[i] (g l[i] + by_)) by_ (l.drop (i + 1)) = addk ga by_ l) := ⟨by rw [← hs.out, List.drop_eq_getElem_cons hlt]; rfl⟩
   clear hb1 hM' hg' hns
   generalize l[i] = s at *
   go_wp2
   go_roundg (gk - 1)
   case measure => omega
   case rel => exact ⟨i + 1, _, by go_num, by omega, by omega, hs', ⟨by have := hbd'.out; rwa [show (((m + (i + 1) : Nat)) : Int) = ((m + i : Nat) : Int) + 1 by omega]⟩, hF', hmod'⟩
  ·have q1 : decide ((i : Int) < (l.length : Int)) = false := decide_eq_false (by omega)
   have hr := Aside0.mk (show g = addk ga by_ l by rw [← hs.out, List.drop_eq_nil_of_le (by omega)]; rfl)
   have hi2 : i = l.length := by omega
   subst hi2
   go_wp2
   refine bodyPost_end (v := .tuple #[]) (by simp [results, Tryd.results55, go_sem]) rfl ?_
   exact ⟨rfl, hr.out ▸ hf.out, hmod.out⟩
end Go.Proofs.YtmoeekidmkhkoaaDoor.FreeA
namespace Go.Proofs.YtmoeekidmkhkoaaDoor.FreeA
open Go.RowKit Go.Proofs.YtmoeekidmkhkoaaDoorW.PrintWords Go.Proofs.YtmoeekidmkhkoaaDoorW.PrintLast Go.Proofs.YtmoeekidmkhkoaaDoorW.PrintMore Go.Proofs.YtmoeekidmkhkoaaDoor.PFreeA
set_option linter.unusedVariables false
set_option linter.unusedSimpArgs false
def cnt : List ByteArray → ByteArray → Int
 | [], _ => 0
 | t :: l, s => (if s = t then 1 else 0) + cnt l s
def isIn (l : List ByteArray) (s : ByteArray) : Bool := l.any fun t => decide (t = s)
theorem isIn_iff {l : List ByteArray} {s : ByteArray} : isIn l s = true ↔ s ∈ l := by simp [isIn]
def memI (l : List ByteArray) (s : ByteArray) : Int := if isIn l s then 1 else 0
theorem cnt_nonneg : ∀ (l : List ByteArray) (s : ByteArray), 0 ≤ cnt l s ∧ cnt l s ≤ l.length
 | [], s => ⟨Int.le_refl _, Int.le_refl _⟩
 | t :: l, s => by
  have h := cnt_nonneg l s
  by_cases hs : s = t
  ·simp only [cnt, List.length_cons, if_pos hs]; omega
  ·simp only [cnt, List.length_cons, if_neg hs]; omega
theorem cnt_zero : ∀ (l : List ByteArray) (s : ByteArray), cnt l s = 0 ↔ isIn l s = false
 | [], s => by simp [cnt, isIn]
 | t :: l, s => by
  have h := cnt_zero l s
  have h2 := cnt_nonneg l s
  by_cases hs : s = t
  ·subst hs
   simp only [cnt, if_true, isIn, List.any_cons, decide_true, Bool.true_or]
   constructor
   ·intro h3; omega
   ·intro h3; cases h3
  ·have hs' : ¬ t = s := fun e => hs e.symm
   simp only [cnt, if_neg hs, Int.zero_add, h, isIn, List.any_cons, decide_eq_false hs', Bool.false_or]
theorem cnt_append : ∀ (l B : List ByteArray) (s : ByteArray), cnt (l ++ B) s = cnt l s + cnt B s
 | [], B, s => by simp [cnt]
 | t :: l, B, s => by simp only [List.cons_append, cnt, cnt_append l B s]; omega
theorem addk_eq (b : Int) : ∀ (l : List ByteArray) (g : ByteArray → Int) (s : ByteArray), addk g b l s = g s + b * cnt l s
 | [], g, s => by simp [addk, cnt]
 | t :: l, g, s => by
  simp only [addk, addk_eq b l, cnt, updI]
  by_cases hs : s = t
  ·subst hs; simp only [if_true, Int.mul_add, Int.mul_one]; omega
  ·simp only [if_neg hs, Int.zero_add]
theorem addk_in (l B : List ByteArray) : addk (cnt B) 1 l = cnt (l ++ B) := by
 funext s
 rw [addk_eq, cnt_append]; omega
theorem addk_out (l B : List ByteArray) : addk (cnt (l ++ B)) (-1) l = cnt B := by
 funext s
 rw [addk_eq, cnt_append]; omega
theorem cnt_bd (B : List ByteArray) : Bd (B.length : Nat) (cnt B) := fun s => by have := cnt_nonneg B s; omega
theorem memI_upd (out : List ByteArray) (s : ByteArray) : updI (memI out) s 1 = memI (out ++ [s]) := by
 funext t
 unfold updI memI isIn
 by_cases h : t = s
 ·subst h; simp
 ·have h' : ¬ s = t := fun e => h e.symm
  simp only [List.any_append, List.any_cons, List.any_nil, decide_eq_false h', Bool.or_false, if_neg h]
def nsz (l : List ByteArray) : Bool := l.all fun s => decide (s.size ≤ 140737488351232)
theorem nsz_all {l : List ByteArray} (h : nsz l = true) : ∀ s ∈ l, NS s := fun s hs => by
 have := List.all_eq_true.1 h s hs
 simpa [NS] using this
mutual
def fx : S33 → List ByteArray → List ByteArray → List ByteArray
 | ⟨op, nm, _, ns, l, al⟩, B, out => fxA al B (fxL l (ns ++ B) (if op = 1 ∧ isIn B nm = false ∧ isIn out nm = false then out ++ [nm] else out))
def fxL : List S33 → List ByteArray → List ByteArray → List ByteArray
 | [], _, out => out
 | e :: l, B, out => fxL l B (fx e B out)
def fxA : List S40 → List ByteArray → List ByteArray → List ByteArray
 | [], _, out => out
 | ⟨_, _, _, ns, e⟩ :: l, B, out => fxA l B (fx e (ns ++ B) out)
end
mutual
def cost : S33 → Nat
 | ⟨_, _, _, ns, l, al⟩ => 1 + 2 * ns.length + costL l + costA al
def costL : List S33 → Nat
 | [] => 0
 | e :: l => cost e + costL l
def costA : List S40 → Nat
 | [] => 0
 | ⟨_, _, _, ns, e⟩ :: l => 2 * ns.length + cost e + costA l
end
mutual
def okE : S33 → Bool
 | ⟨_, nm, _, ns, l, al⟩ => decide (nm.size ≤ 140737488351232) && nsz ns && okL l && okA al
def okL : List S33 → Bool
 | [] => true
 | e :: l => okE e && okL l
def okA : List S40 → Bool
 | [] => true
 | ⟨_, _, _, ns, e⟩ :: l => nsz ns && okE e && okA l
end
theorem fx_eq (e : S33) (B out : List ByteArray) : fx e B out = fxA e.f5 B (fxL e.f4 (e.f3 ++ B) (if e.f0 = 1 ∧ isIn B e.f1 = false ∧ isIn out e.f1 = false then out ++ [e.f1] else out)) := by cases e; simp only [fx]
theorem fxA_cons (a : S40) (l : List S40) (B out : List ByteArray) : fxA (a :: l) B out = fxA l B (fx a.f4 (a.f3 ++ B) out) := by cases a; simp only [fxA]
theorem cost_eq (e : S33) : cost e = 1 + 2 * e.f3.length + costL e.f4 + costA e.f5 := by cases e; simp only [cost]
theorem costA_cons (a : S40) (l : List S40) : costA (a :: l) = 2 * a.f3.length + cost a.f4 + costA l := by cases a; simp only [costA]
theorem okE_eq (e : S33) : okE e = (decide (e.f1.size ≤ 140737488351232) && nsz e.f3 && okL e.f4 && okA e.f5) := by cases e; simp only [okE]
theorem okA_cons (a : S40) (l : List S40) : okA (a :: l) = (nsz a.f3 && okE a.f4 && okA l) := by cases a; simp only [okA]
theorem costL_drop {l : List S33} {i : Nat} (h : i < l.length) : costL (l.drop i) = cost l[i] + costL (l.drop (i + 1)) := by rw [List.drop_eq_getElem_cons h]; simp only [costL]
theorem costA_drop {l : List S40} {i : Nat} (h : i < l.length) : costA (l.drop i) = 2 * l[i].f3.length + cost l[i].f4 + costA (l.drop (i + 1)) := by rw [List.drop_eq_getElem_cons h, costA_cons]
theorem okL_drop {l : List S33} {i : Nat} (h : i < l.length) (ho : okL (l.drop i) = true) : okE l[i] = true ∧ okL (l.drop (i + 1)) = true := by
 rw [List.drop_eq_getElem_cons h] at ho
 simpa [okL] using ho
theorem okA_drop {l : List S40} {i : Nat} (h : i < l.length) (ho : okA (l.drop i) = true) : (nsz l[i].f3 = true ∧ okE l[i].f4 = true) ∧ okA (l.drop (i + 1)) = true := by
 rw [List.drop_eq_getElem_cons h, okA_cons] at ho
 simpa using ho
theorem costL_le {l : List S33} {i : Nat} (h : i < l.length) : cost l[i] ≤ costL l := by
 induction l generalizing i with
 | nil => simp at h
 | cons x l ih =>
  simp only [costL]
  cases i with
  | zero => simp only [List.getElem_cons_zero]; omega
  | succ i => have := ih (i := i) (by simpa using h); simp only [List.getElem_cons_succ]; omega
theorem costA_le {l : List S40} {i : Nat} (h : i < l.length) : 2 * l[i].f3.length + cost l[i].f4 ≤ costA l := by
 induction l generalizing i with
 | nil => simp at h
 | cons x l ih =>
  rw [costA_cons]
  cases i with
  | zero => simp only [List.getElem_cons_zero]; omega
  | succ i => have := ih (i := i) (by simpa using h); simp only [List.getElem_cons_succ]; omega
section
variable {w0 W W1 w1 : World} {base pb ab hb na nh : Nat} {v v0 : Value} {ga gh : ByteArray → Int} {out : List ByteArray}
theorem FS.fresh (h : FS W base pb ab hb v na nh ga gh out) {k : Nat} (hk : W.heap.size ≤ k) : k ≠ pb ∧ k ≠ ab ∧ k ≠ hb := by
 have h1 := h.lt (.inl rfl)
 have h2 := h.lt (.inr (.inl rfl))
 have h3 := h.lt (.inr (.inr (.inl rfl)))
 omega
theorem cell_own {g : Option Nat} {a : Addr} {u : Value} (hg : W.grownBy W1 g) (h : W.cell? a = some u) (hne : some a.block ≠ g) : W1.cell? a = some u := by
 have := hg.block a.block (World.block_lt_of_cell? _ _ h) hne
 rw [World.cell?] at h ⊢
 rwa [this]
theorem FS.put (h : FS W base pb ab hb v na nh ga gh out) (hbase : base ≤ W.heap.size) {v3 : Value} {out3 : List ByteArray} (hr : Kd.R Kd.string 9 W1 base (fun j => j ≠ pb ∧ j ≠ ab ∧ j ≠ hb) v3 out3) (hg : W.grownBy W1 v.ownBlock) :
  FS (W1.setCell ⟨pb, 2, none⟩ v3) base pb ab hb v3 na nh ga gh out3 := by
 have e : ∀ j, j ≠ pb → (W1.setCell ⟨pb, 2, none⟩ v3).heap[j]? = W1.heap[j]? := fun j hj => Below.heap_setCell W1 ⟨pb, 2, none⟩ v3 j hj
 have hp : W1.heap[pb]? = W.heap[pb]? := hg.block pb (h.lt (.inl rfl)) (fun e => (h.row.1 pb e.symm).1 rfl)
 have ha : W1.heap[ab]? = W.heap[ab]? := hg.block ab (h.lt (.inr (.inl rfl))) (fun e => (h.row.1 ab e.symm).2.1 rfl)
 have hh : W1.heap[hb]? = W.heap[hb]? := hg.block hb (h.lt (.inr (.inr (.inl rfl)))) (fun e => (h.row.1 hb e.symm).2.2 rfl)
 exact ⟨blk_put (hp.trans h.blk) 2 v3 rfl, h.am.of_block ((e ab h.pne.1.symm).trans ha), h.hm.of_block ((e hb h.pne.2.symm).trans hh), Rs_step hr (fun j hj => e j (hr.1 j hj).1) (fun j hj => hr.1 j hj), h.ge, h.ne⟩
end
def St (W w' : World) (base pb ab hb : Nat) (v0 : Value) (B out : List ByteArray) (ca ch : Nat) : Prop :=
 ∃ v na nh, FS w' base pb ab hb v na nh (cnt B) (memI out) out ∧ Mod W w' (FP pb ab hb v0) ∧ (∀ j, v.ownBlock = some j → v0.ownBlock = some j ∨ W.heap.size ≤ j) ∧ na ≤ ca ∧ nh ≤ ch
theorem St.comp {W w1 w2 : World} {base pb ab hb : Nat} {v0 v1 : Value} {B out : List ByteArray} {ca ch : Nat} (hm : Mod W w1 (FP pb ab hb v0)) (ho : ∀ j, v1.ownBlock = some j → v0.ownBlock = some j ∨ W.heap.size ≤ j) (h : St w1 w2 base pb ab hb v1 B out ca ch) : St W w2 base pb ab hb v0 B out ca ch := by
 obtain ⟨v2, na, nh, hf, hm2, ho2, ha, hh⟩ := h
 refine ⟨v2, na, nh, hf, hm.trans hm2 (fun j hj hfp => ?_), fun j hj => ?_, ha, hh⟩
 ·rcases hfp with rfl | rfl | rfl | hv
  ·exact .inl rfl
  ·exact .inr (.inl rfl)
  ·exact .inr (.inr (.inl rfl))
  ·rcases ho j hv with h | h
   ·exact .inr (.inr (.inr h))
   ·omega
 ·rcases ho2 j hj with h | h
  ·exact ho j h
  ·exact .inr (Nat.le_trans hm.size h)
theorem St.mono {W w2 : World} {base pb ab hb : Nat} {v0 : Value} {B out : List ByteArray} {ca ch ca' ch' : Nat} (h : St W w2 base pb ab hb v0 B out ca ch) (h1 : ca ≤ ca') (h2 : ch ≤ ch') : St W w2 base pb ab hb v0 B out ca' ch' := by
 obtain ⟨v2, na, nh, hf, hm2, ho2, ha, hh⟩ := h
 exact ⟨v2, na, nh, hf, hm2, ho2, by omega, by omega⟩
theorem St.below {W w' : World} {base pb ab hb na nh : Nat} {v0 : Value} {B out : List ByteArray} {ga gh : ByteArray → Int} {ca ch : Nat} {o0 : List ByteArray} (h : St W w' base pb ab hb v0 B out ca ch) (h0 : FS W base pb ab hb v0 na nh ga gh o0) (hb0 : base ≤ W.heap.size) : Below base W w' := by
 obtain ⟨v2, na2, nh2, hf, hm2, ho2, ha, hh⟩ := h
 exact hm2.below hb0 (fun j _ hj => h0.fge hj)
theorem bind_st {w0 W w1 : World} {pb ab hb na nh : Nat} {v v0 : Value} {B B' out : List ByteArray} (h : FS w1 w0.heap.size pb ab hb v na nh (cnt B) (memI out) out) (hm : Mod W w1 (FP pb ab hb v0)) (ho : ∀ j, v.ownBlock = some j → v0.ownBlock = some j ∨ W.heap.size ≤ j) (hB : Below w0.heap.size w0 w1) (l : List ByteArray) {A : Option Addr} {c : Nat} (hC : Kd.C Kd.string w0 A l.length l) (hNS : nsz l = true) (by_ : Int) (hby : -1 ≤ by_ ∧ by_ ≤ 1) (e : addk (cnt B) by_ l = cnt B') (hml : B.length + l.length ≤ 1000000000000) (hn : na + l.length ≤ 1000000000000) :
  Calls Tryd.prog 55 #[.pointer (some ⟨pb, 0, none⟩), .slice A l.length c, .int .i64 by_] w1 fun e W' => e = .returned (.tuple #[]) ∧ St W W' w0.heap.size pb ab hb v0 B' out (na + l.length) nh := by
 refine (bind_calls h hB l hC (nsz_all hNS) by_ hby B.length (cnt_bd B) hml hn).mono ?_
 rintro e2 W' ⟨rfl, hF, hM⟩
 refine ⟨rfl, St.comp hm ho ⟨v, _, _, e ▸ hF, hM.mono (fun j _ hj => .inr (.inl hj)), fun j hj => .inl hj, Nat.le_refl _, Nat.le_refl _⟩⟩
def one (e : S33) (B out : List ByteArray) : List ByteArray := if e.f0 = 1 ∧ isIn B e.f1 = false ∧ isIn out e.f1 = false then out ++ [e.f1] else out
mutual
theorem fx_len : ∀ (e : S33) (B out : List ByteArray), (fx e B out).length ≤ out.length + cost e
 | ⟨op, nm, _, ns, l, al⟩, B, out => by
  simp only [fx, cost]
  have h1 := fxA_len al B (fxL l (ns ++ B) (if op = 1 ∧ isIn B nm = false ∧ isIn out nm = false then out ++ [nm] else out))
  have h2 := fxL_len l (ns ++ B) (if op = 1 ∧ isIn B nm = false ∧ isIn out nm = false then out ++ [nm] else out)
  have h3 : (if op = 1 ∧ isIn B nm = false ∧ isIn out nm = false then out ++ [nm] else out).length ≤ out.length + 1 := by split <;> simp
  omega
theorem fxL_len : ∀ (l : List S33) (B out : List ByteArray), (fxL l B out).length ≤ out.length + costL l
 | [], B, out => by simp only [fxL, costL]; omega
 | e :: l, B, out => by
  simp only [fxL, costL]
  have h1 := fx_len e B out
  have h2 := fxL_len l B (fx e B out)
  omega
theorem fxA_len : ∀ (l : List S40) (B out : List ByteArray), (fxA l B out).length ≤ out.length + costA l
 | [], B, out => by simp only [fxA, costA]; omega
 | ⟨_, _, _, ns, e⟩ :: l, B, out => by
  simp only [fxA, costA]
  have h1 := fx_len e (ns ++ B) out
  have h2 := fxA_len l B (fx e (ns ++ B) out)
  omega
end
theorem at_e {w0 wr : World} (hB : Below w0.heap.size w0 wr) {A : Option Addr} {l : List S33} (hC : Kd.C k33 w0 A l.length l) (i : Nat) (hi : i < l.length) :
  ∃ ad A3 c3 A4 c4 A5 c5, A = some ad ∧ wr.cell? (ad.add (i * 6)) = some (.int .i64 l[i].f0) ∧ wr.cell? ⟨(ad.add (i * 6)).block, (ad.add (i * 6)).off + 1, none⟩ = some (.string l[i].f1) ∧ wr.cell? ⟨(ad.add (i * 6)).block, (ad.add (i * 6)).off + 2, none⟩ = some (.int .i64 l[i].f2) ∧ wr.cell? ⟨(ad.add (i * 6)).block, (ad.add (i * 6)).off + 3, none⟩ = some (.slice A3 l[i].f3.length c3) ∧ wr.cell? ⟨(ad.add (i * 6)).block, (ad.add (i * 6)).off + 4, none⟩ = some (.slice A4 l[i].f4.length c4) ∧ wr.cell? ⟨(ad.add (i * 6)).block, (ad.add (i * 6)).off + 5, none⟩ = some (.slice A5 l[i].f5.length c5) ∧
   Kd.C Kd.string w0 A3 l[i].f3.length l[i].f3 ∧ Kd.C k33 w0 A4 l[i].f4.length l[i].f4 ∧ Kd.C k40 w0 A5 l[i].f5.length l[i].f5 := by
 obtain ⟨ad, A3, c3, A4, c4, A5, c5, e, h0, h1, h2, h3, h4, h5, _, g3, _, g4, _, g5⟩ := at_T33 hC (i : Int) (by omega) (by omega)
 have hx : rd_T33 l (i : Int) = l[i] := by simp [rd_T33, hi]
 rw [hx] at h0 h1 h2 h3 h4 h5 g3 g4 g5
 simp only [Int.toNat_natCast] at h0 h1 h2 h3 h4 h5
 have T : ∀ {a : Addr} {u : Value}, w0.cell? a = some u → wr.cell? a = some u := fun h => (hB.cell (World.block_lt_of_cell? _ _ h)).trans h
 exact ⟨ad, A3, c3, A4, c4, A5, c5, e, T h0, T h1, T h2, T h3, T h4, T h5, g3, g4, g5⟩
theorem at_a {w0 wr : World} (hB : Below w0.heap.size w0 wr) {A : Option Addr} {l : List S40} (hC : Kd.C k40 w0 A l.length l) (i : Nat) (hi : i < l.length) :
  ∃ ad A3 c3 B3 d3 B4 d4 B5 d5, A = some ad ∧ wr.cell? (ad.add (i * 10)) = some (.int .i64 l[i].f0) ∧ wr.cell? ⟨(ad.add (i * 10)).block, (ad.add (i * 10)).off + 1, none⟩ = some (.string l[i].f1) ∧ wr.cell? ⟨(ad.add (i * 10)).block, (ad.add (i * 10)).off + 2, none⟩ = some (.int .i64 l[i].f2) ∧ wr.cell? ⟨(ad.add (i * 10)).block, (ad.add (i * 10)).off + 3, none⟩ = some (.slice A3 l[i].f3.length c3) ∧ wr.cell? ⟨(ad.add (i * 10)).block, (ad.add (i * 10)).off + 4, none⟩ = some (.int .i64 l[i].f4.f0) ∧ wr.cell? ⟨(ad.add (i * 10)).block, (ad.add (i * 10)).off + 5, none⟩ = some (.string l[i].f4.f1) ∧ wr.cell? ⟨(ad.add (i * 10)).block, (ad.add (i * 10)).off + 6, none⟩ = some (.int .i64 l[i].f4.f2) ∧ wr.cell? ⟨(ad.add (i * 10)).block, (ad.add (i * 10)).off + 7, none⟩ = some (.slice B3 l[i].f4.f3.length d3) ∧ wr.cell? ⟨(ad.add (i * 10)).block, (ad.add (i * 10)).off + 8, none⟩ = some (.slice B4 l[i].f4.f4.length d4) ∧ wr.cell? ⟨(ad.add (i * 10)).block, (ad.add (i * 10)).off + 9, none⟩ = some (.slice B5 l[i].f4.f5.length d5) ∧
   Kd.C Kd.string w0 A3 l[i].f3.length l[i].f3 ∧ Kd.C Kd.string w0 B3 l[i].f4.f3.length l[i].f4.f3 ∧ Kd.C k33 w0 B4 l[i].f4.f4.length l[i].f4.f4 ∧ Kd.C k40 w0 B5 l[i].f4.f5.length l[i].f4.f5 := by
 obtain ⟨ad, A3, c3, B3, d3, B4, d4, B5, d5, e, h0, h1, h2, h3, h4, h5, h6, h7, h8, h9, _, g3, _, g4, _, g5, _, g6⟩ := at_T40 hC (i : Int) (by omega) (by omega)
 have hx : rd_T40 l (i : Int) = l[i] := by simp [rd_T40, hi]
 rw [hx] at h0 h1 h2 h3 h4 h5 h6 h7 h8 h9 g3 g4 g5 g6
 simp only [Int.toNat_natCast] at h0 h1 h2 h3 h4 h5 h6 h7 h8 h9
 have T : ∀ {a : Addr} {u : Value}, w0.cell? a = some u → wr.cell? a = some u := fun h => (hB.cell (World.block_lt_of_cell? _ _ h)).trans h
 exact ⟨ad, A3, c3, B3, d3, B4, d4, B5, d5, e, T h0, T h1, T h2, T h3, T h4, T h5, T h6, T h7, T h8, T h9, g3, g4, g5, g6⟩
def XC (w0 : World) (e : S33) : Prop := ∀ {W : World} {pb ab hb na nh : Nat} {v : Value} {B out : List ByteArray}, FS W w0.heap.size pb ab hb v na nh (cnt B) (memI out) out → Below w0.heap.size w0 W → okE e = true → B.length + cost e ≤ 100000000000 → na + cost e ≤ 100000000000 → nh + cost e ≤ 100000000000 → out.length + cost e ≤ 100000000000 →
  ∀ {A3 A4 A5 : Option Addr} {c3 c4 c5 : Nat}, Kd.C Kd.string w0 A3 e.f3.length e.f3 → Kd.C k33 w0 A4 e.f4.length e.f4 → Kd.C k40 w0 A5 e.f5.length e.f5 →
  Calls Tryd.prog 38 #[.pointer (some ⟨pb, 0, none⟩), .agg #[.int .i64 e.f0, .string e.f1, .int .i64 e.f2, .slice A3 e.f3.length c3, .slice A4 e.f4.length c4, .slice A5 e.f5.length c5]] W fun r W' => r = .returned (.tuple #[]) ∧ St W W' w0.heap.size pb ab hb v B (fx e B out) (na + cost e) (nh + cost e)
theorem St.blk {W w' : World} {base pb ab hb : Nat} {v0 : Value} {B out : List ByteArray} {ca ch b : Nat} {o : Obj} (h : St W w' base pb ab hb v0 B out ca ch) (hb' : W.heap[b]? = some o) (hn : ¬ FP pb ab hb v0 b) : w'.heap[b]? = some o := by
 obtain ⟨v2, na2, nh2, hf, hm2, _⟩ := h
 exact (hm2.block b (Array.getElem?_eq_some_iff.1 hb').1 hn).trans hb'
theorem St.alloc {W w' w2 : World} {base pb ab hb : Nat} {v0 : Value} {B out : List ByteArray} {ca ch : Nat} (h : St W w' base pb ab hb v0 B out ca ch) (hb2 : Below w'.heap.size w' w2) : St W w2 base pb ab hb v0 B out ca ch := by
 obtain ⟨v2, na2, nh2, hf, hm2, ho, ha, hh⟩ := h
 exact ⟨v2, na2, nh2, hf.below hb2, hm2.trans (Mod.of_below hb2 (FP pb ab hb v0)) (fun _ _ hj => hj), ho, ha, hh⟩
theorem step_x {w0 Wa w5 : World} {pb ab hb na nh : Nat} {v : Value} {ga gh : ByteArray → Int} {o0 B o : List ByteArray} {ca ch : Nat} {e : S33} (hx : XC w0 e) (hF : FS Wa w0.heap.size pb ab hb v na nh ga gh o0) (hBa : Below w0.heap.size w0 Wa) (hsa : w0.heap.size ≤ Wa.heap.size) (hst : St Wa w5 w0.heap.size pb ab hb v B o ca ch) (hok : okE e = true)
  (h1 : B.length + cost e ≤ 100000000000) (h2 : ca + cost e ≤ 100000000000) (h3 : ch + cost e ≤ 100000000000) (h4 : o.length + cost e ≤ 100000000000) {A3 A4 A5 : Option Addr} (g3 : Kd.C Kd.string w0 A3 e.f3.length e.f3) (g4 : Kd.C k33 w0 A4 e.f4.length e.f4) (g5 : Kd.C k40 w0 A5 e.f5.length e.f5) (c3 c4 c5 : Nat) :
  Calls Tryd.prog 38 #[.pointer (some ⟨pb, 0, none⟩), .agg #[.int .i64 e.f0, .string e.f1, .int .i64 e.f2, .slice A3 e.f3.length c3, .slice A4 e.f4.length c4, .slice A5 e.f5.length c5]] w5 fun r W' => r = .returned (.tuple #[]) ∧ St Wa W' w0.heap.size pb ab hb v B (fx e B o) (ca + cost e) (ch + cost e) := by
 have hbw := hBa.trans (St.below hst hF hsa)
 obtain ⟨v2, na2, nh2, hf, hm, ho, ha, hh⟩ := hst
 refine (hx hf hbw hok h1 (by omega) (by omega) h4 g3 g4 g5).mono ?_
 rintro r W' ⟨rfl, h⟩
 exact ⟨rfl, (St.comp hm ho h).mono (by omega) (by omega)⟩
theorem step_b {w0 Wa w5 : World} {pb ab hb na nh : Nat} {v : Value} {ga gh : ByteArray → Int} {o0 B o : List ByteArray} {ca ch : Nat} (hF : FS Wa w0.heap.size pb ab hb v na nh ga gh o0) (hBa : Below w0.heap.size w0 Wa) (hsa : w0.heap.size ≤ Wa.heap.size) (l : List ByteArray) (hst : St Wa w5 w0.heap.size pb ab hb v (l ++ B) o ca ch) {A3 : Option Addr} (g3 : Kd.C Kd.string w0 A3 l.length l) (hok : nsz l = true) (c3 : Nat)
  (h1 : (l ++ B).length + l.length ≤ 1000000000000) (h2 : ca + l.length ≤ 1000000000000) :
  Calls Tryd.prog 55 #[.pointer (some ⟨pb, 0, none⟩), .slice A3 l.length c3, .int .i64 (-1)] w5 fun r W' => r = .returned (.tuple #[]) ∧ St Wa W' w0.heap.size pb ab hb v B o (ca + l.length) ch := by
 have hbw := hBa.trans (St.below hst hF hsa)
 obtain ⟨v2, na2, nh2, hf, hm, ho, ha, hh⟩ := hst
 refine (bind_st hf hm ho hbw l g3 hok (-1) (by decide) (addk_out l B) h1 (by omega)).mono ?_
 rintro r W' ⟨rfl, h⟩
 exact ⟨rfl, h.mono (by omega) (by omega)⟩
set_option maxHeartbeats 16000000 in
set_option maxRecDepth 100000 in
theorem expr_calls {w0 : World} : ∀ (n : Nat) (e : S33), cost e ≤ n → XC w0 e := by
 intro n
 induction n with
 | zero => intro e hc; rw [cost_eq] at hc; omega
 | succ n ih =>
  intro e hc W pb ab hb na nh v B out h hB0 hok bB ba bh bo A3 A4 A5 c3 c4 c5 hC3 hC4 hC5
  have hceq := cost_eq e
  rw [okE_eq] at hok
  simp only [Bool.and_eq_true, decide_eq_true_eq] at hok
  obtain ⟨⟨⟨hns0, hok3⟩, hok4⟩, hok5⟩ := hok
  have hns := Aside0.mk (show NS e.f1 from hns0)
  have hok3 := Aside0.mk hok3
  have hok4 := Aside0.mk hok4
  have hok5 := Aside0.mk hok5
  have hl4 := hC4.2.1
  have hl5 := hC5.2.1
  have hC3 := Aside0.mk hC3
  have hC4 := Aside0.mk hC4
  have hC5 := Aside0.mk hC5
  have hbl := Aside0.mk (below_drew1 (below_alloc (Below.refl W.heap.size W) (.cells #[.int .i64 e.f0, .string e.f1, .int .i64 e.f2, .slice A3 e.f3.length c3, .slice A4 e.f4.length c4, .slice A5 e.f5.length c5] 33)))
  have hbx : Aside0 ((W.alloc (.cells #[.int .i64 e.f0, .string e.f1, .int .i64 e.f2, .slice A3 e.f3.length c3, .slice A4 e.f4.length c4, .slice A5 e.f5.length c5] 33)).drew.heap[W.heap.size]? = some (.cells #[.int .i64 e.f0, .string e.f1, .int .i64 e.f2, .slice A3 e.f3.length c3, .slice A4 e.f4.length c4, .slice A5 e.f5.length c5] 33 (0, 0))) := ⟨blk_new W _⟩
  have hF1 := Aside0.mk (h.below hbl.out)
  have hB1 := Aside0.mk (hB0.trans (hbl.out.mono hB0.size))
  have hnb := Aside0.mk (show ¬ FP pb ab hb v W.heap.size from fun hh => by have := h.lt hh; omega)
  have hsz := Aside0.mk hB0.size
  have hcost := Aside0.mk hceq
  have hbnd := Aside0.mk (And.intro hc (And.intro bB (And.intro ba (And.intro bh bo))))
  have hone : Aside0 (fx e B out = fxA e.f5 B (fxL e.f4 (e.f3 ++ B) (one e B out))) := ⟨fx_eq e B out⟩
  have K0 := Aside0.mk ((blk_cell hbx.out 0).trans rfl)
  have K1 := Aside0.mk ((blk_cell hbx.out 1).trans rfl)
  have KA := Aside0.mk hF1.out.cells.1
  have KH := Aside0.mk hF1.out.cells.2.1
  have KL := Aside0.mk (hF1.out.am.look hns.out)
  have KM := Aside0.mk (hF1.out.hm.look hns.out)
  clear h hB0 hns0 hceq hc bB ba bh bo
  go_enter Tryd.func38, Tryd.ntmps38
  go_wp2
  by_cases y1 : e.f0 = 1
  ·have q1 : (e.f0 == 1) = true := by rw [y1]; rfl
   by_cases y2 : isIn B e.f1 = false
   ·have q2 : (cnt B e.f1 == 0) = true := by rw [(cnt_zero B e.f1).2 y2]; rfl
    by_cases y3 : isIn out e.f1 = false
    ·have q3 : (memI out e.f1 == 0) = true := by unfold memI; rw [y3]; rfl
     refine start_ (n := 23) (S := fun w' => w'.cell? ⟨W.heap.size, 0, none⟩ = some (.int .i64 e.f0) ∧ w'.cell? ⟨W.heap.size, 1, none⟩ = some (.string e.f1) ∧ w'.cell? ⟨pb, 0, none⟩ = some (.map (some ab)) ∧ (Instr.lookup 59 (.map (some ab)) (.string e.f1) false).run Tryd.prog w' = .ok (.int .i64 (cnt B e.f1)) w' ∧ w'.cell? ⟨pb, 1, none⟩ = some (.map (some hb)) ∧ (Instr.lookup 59 (.map (some hb)) (.string e.f1) false).run Tryd.prog w' = .ok (.int .i64 (memI out e.f1)) w') (ds := []) (bm 23 0) (by kernel_rfl) rfl rfl ⟨K0.out, K1.out, KA.out, KL.out, KH.out, KM.out⟩ (fun hHeld => ?_)
     generalize (W.alloc (.cells #[.int .i64 e.f0, .string e.f1, .int .i64 e.f2, .slice A3 e.f3.length c3, .slice A4 e.f4.length c4, .slice A5 e.f5.length c5] 33)).drew = W9 at *
     refine pure_ (i := 0) (N := some 8) (v := ?_) (a' := ?_) (bm 23 1) rfl rfl (by kernel_rfl) (fun _ _ _ h => h) (Or.inl ⟨by rfl, ?_⟩) ?_ ?_
     rotate_left
     ·intro w'
      go_simp
      with_reducible rfl
     rotate_left
     ·simp only [Act.put, sA, sB, sC, i64_w, i32_w]
      rfl
     refine take_ (i := 1) (N := some 9) (v := ?_) (a' := ?_) (bm 23 3) rfl rfl (by kernel_rfl) (fun _ _ _ h => h) (Or.inl ⟨by rfl, ?_⟩) hHeld ?_ ?_
     rotate_left
     ·rintro w' ⟨s0, s1, s2, s3, s4, s5⟩
      go_simp
      with_reducible rfl
     rotate_left
     ·simp only [Act.put, sA, sB, sC, i64_w, i32_w]
      rfl
     refine pure_ (i := 2) (N := some 10) (v := ?_) (a' := ?_) (bm 23 7) rfl rfl (by kernel_rfl) (fun _ _ _ h => h) (Or.inl ⟨by rfl, ?_⟩) ?_ ?_
     rotate_left
     ·intro w'
      go_simp
      with_reducible rfl
     rotate_left
     ·simp only [Act.put, sA, sB, sC, i64_w, i32_w]
      rfl
     refine pure_ (i := 3) (N := some 11) (v := ?_) (a' := ?_) (bm 23 15) rfl rfl (by kernel_rfl) (fun _ _ _ h => h) (Or.inl ⟨by rfl, ?_⟩) ?_ ?_
     rotate_left
     ·intro w'
      go_simp
      with_reducible rfl
     rotate_left
     ·simp only [Act.put, sA, sB, sC, i64_w, i32_w]
      rfl
     refine pure_ (i := 4) (N := some 12) (v := ?_) (a' := ?_) (bm 23 31) rfl rfl (by kernel_rfl) (fun _ _ _ h => h) (Or.inl ⟨by rfl, ?_⟩) ?_ ?_
     rotate_left
     ·intro w'
      go_simp
      with_reducible rfl
     rotate_left
     ·simp only [Act.put, sA, sB, sC, i64_w, i32_w]
      rfl
     refine pure_ (i := 5) (N := some 13) (v := ?_) (a' := ?_) (bm 23 63) rfl rfl (by kernel_rfl) (fun _ _ _ h => h) (Or.inl ⟨by rfl, ?_⟩) ?_ ?_
     rotate_left
     ·intro w'
      go_simp
      with_reducible rfl
     rotate_left
     ·simp only [Act.put, sA, sB, sC, i64_w, i32_w]
      rfl
     refine pure_ (i := 6) (N := some 14) (v := ?_) (a' := ?_) (bm 23 127) rfl rfl (by kernel_rfl) (fun _ _ _ h => h) (Or.inl ⟨by rfl, ?_⟩) ?_ ?_
     rotate_left
     ·intro w'
      go_simp
      with_reducible rfl
     rotate_left
     ·simp only [Act.put, sA, sB, sC, i64_w, i32_w]
      rfl
     refine pure_ (i := 8) (N := some 16) (v := ?_) (a' := ?_) (bm 23 383) rfl rfl (by kernel_rfl) (fun _ _ _ h => h) (Or.inl ⟨by rfl, ?_⟩) ?_ ?_
     rotate_left
     ·intro w'
      go_simp
      with_reducible rfl
     rotate_left
     ·simp only [Act.put, sA, sB, sC, i64_w, i32_w]
      rfl
     refine take_ (i := 7) (N := some 15) (v := ?_) (a' := ?_) (bm 23 511) rfl rfl (by kernel_rfl) (fun _ _ _ h => h) (Or.inl ⟨by rfl, ?_⟩) hHeld ?_ ?_
     rotate_left
     ·rintro w' ⟨s0, s1, s2, s3, s4, s5⟩
      go_simp
      with_reducible rfl
     rotate_left
     ·simp only [Act.put, sA, sB, sC, i64_w, i32_w]
      rfl
     refine take_ (i := 9) (N := some 17) (v := ?_) (a' := ?_) (bm 23 1023) rfl rfl (by kernel_rfl) (fun _ _ _ h => h) (Or.inl ⟨by rfl, ?_⟩) hHeld ?_ ?_
     rotate_left
     ·rintro w' ⟨s0, s1, s2, s3, s4, s5⟩
      go_simp
      with_reducible rfl
     rotate_left
     ·simp only [Act.put, sA, sB, sC, i64_w, i32_w]
      rfl
     refine take_ (i := 10) (N := some 18) (v := ?_) (a' := ?_) (bm 23 2047) rfl rfl (by kernel_rfl) (fun _ _ _ h => h) (Or.inl ⟨by rfl, ?_⟩) hHeld ?_ ?_
     rotate_left
     ·rintro w' ⟨s0, s1, s2, s3, s4, s5⟩
      go_simp
      with_reducible rfl
     rotate_left
     ·simp only [Act.put, sA, sB, sC, i64_w, i32_w]
      rfl
     refine pure_ (i := 11) (N := some 19) (v := ?_) (a' := ?_) (bm 23 4095) rfl rfl (by kernel_rfl) (fun _ _ _ h => h) (Or.inl ⟨by rfl, ?_⟩) ?_ ?_
     rotate_left
     ·intro w'
      go_simp
      with_reducible rfl
     rotate_left
     ·simp only [Act.put, sA, sB, sC, i64_w, i32_w]
      rfl
     refine pure_ (i := 12) (N := some 20) (v := ?_) (a' := ?_) (bm 23 8191) rfl rfl (by kernel_rfl) (fun _ _ _ h => h) (Or.inl ⟨by rfl, ?_⟩) ?_ ?_
     rotate_left
     ·intro w'
      go_simp
      with_reducible rfl
     rotate_left
     ·simp only [Act.put, sA, sB, sC, i64_w, i32_w]
      rfl
     refine pure_ (i := 13) (N := some 21) (v := ?_) (a' := ?_) (bm 23 16383) rfl rfl (by kernel_rfl) (fun _ _ _ h => h) (Or.inl ⟨by rfl, ?_⟩) ?_ ?_
     rotate_left
     ·intro w'
      go_simp
      with_reducible rfl
     rotate_left
     ·simp only [Act.put, sA, sB, sC, i64_w, i32_w]
      rfl
     refine pure_ (i := 14) (N := some 22) (v := ?_) (a' := ?_) (bm 23 32767) rfl rfl (by kernel_rfl) (fun _ _ _ h => h) (Or.inl ⟨by rfl, ?_⟩) ?_ ?_
     rotate_left
     ·intro w'
      go_simp
      with_reducible rfl
     rotate_left
     ·simp only [Act.put, sA, sB, sC, i64_w, i32_w]
      rfl
     refine pure_ (i := 15) (N := some 23) (v := ?_) (a' := ?_) (bm 23 65535) rfl rfl (by kernel_rfl) (fun _ _ _ h => h) (Or.inl ⟨by rfl, ?_⟩) ?_ ?_
     rotate_left
     ·intro w'
      go_simp
      with_reducible rfl
     rotate_left
     ·simp only [Act.put, sA, sB, sC, i64_w, i32_w]
      rfl
     refine pure_ (i := 16) (N := some 24) (v := ?_) (a' := ?_) (bm 23 131071) rfl rfl (by kernel_rfl) (fun _ _ _ h => h) (Or.inl ⟨by rfl, ?_⟩) ?_ ?_
     rotate_left
     ·intro w'
      go_simp
      with_reducible rfl
     rotate_left
     ·simp only [Act.put, sA, sB, sC, i64_w, i32_w]
      rfl
     refine pure_ (i := 18) (N := some 26) (v := ?_) (a' := ?_) (bm 23 393215) rfl rfl (by kernel_rfl) (fun _ _ _ h => h) (Or.inl ⟨by rfl, ?_⟩) ?_ ?_
     rotate_left
     ·intro w'
      go_simp
      with_reducible rfl
     rotate_left
     ·simp only [Act.put, sA, sB, sC, i64_w, i32_w]
      rfl
     refine take_ (i := 17) (N := some 25) (v := ?_) (a' := ?_) (bm 23 524287) rfl rfl (by kernel_rfl) (fun _ _ _ h => h) (Or.inl ⟨by rfl, ?_⟩) hHeld ?_ ?_
     rotate_left
     ·rintro w' ⟨s0, s1, s2, s3, s4, s5⟩
      go_simp
      with_reducible rfl
     rotate_left
     ·simp only [Act.put, sA, sB, sC, i64_w, i32_w]
      rfl
     refine take_ (i := 19) (N := some 27) (v := ?_) (a' := ?_) (bm 23 1048575) rfl rfl (by kernel_rfl) (fun _ _ _ h => h) (Or.inl ⟨by rfl, ?_⟩) hHeld ?_ ?_
     rotate_left
     ·rintro w' ⟨s0, s1, s2, s3, s4, s5⟩
      go_simp
      with_reducible rfl
     rotate_left
     ·simp only [Act.put, sA, sB, sC, i64_w, i32_w]
      rfl
     refine take_ (i := 20) (N := some 28) (v := ?_) (a' := ?_) (bm 23 2097151) rfl rfl (by kernel_rfl) (fun _ _ _ h => h) (Or.inl ⟨by rfl, ?_⟩) hHeld ?_ ?_
     rotate_left
     ·rintro w' ⟨s0, s1, s2, s3, s4, s5⟩
      go_simp
      with_reducible rfl
     rotate_left
     ·simp only [Act.put, sA, sB, sC, i64_w, i32_w]
      rfl
     refine pure_ (i := 21) (N := some 29) (v := ?_) (a' := ?_) (bm 23 4194303) rfl rfl (by kernel_rfl) (fun _ _ _ h => h) (Or.inl ⟨by rfl, ?_⟩) ?_ ?_
     rotate_left
     ·intro w'
      go_simp
      with_reducible rfl
     rotate_left
     ·simp only [Act.put, sA, sB, sC, i64_w, i32_w]
      rfl
     refine pure_ (i := 22) (N := some 30) (v := ?_) (a' := ?_) (bm 23 8388607) rfl rfl (by kernel_rfl) (fun _ _ _ h => h) (Or.inl ⟨by rfl, ?_⟩) ?_ ?_
     rotate_left
     ·intro w'
      go_simp
      with_reducible rfl
     rotate_left
     ·simp only [Act.put, sA, sB, sC, i64_w, i32_w]
      rfl
     refine done_ (by kernel_rfl) ?_
     have hF9 := hF1
     have hB9 := hB1
     have hbl9 := hbl
     have hbx9 := hbx
     have hnb9 := hnb
     have hbx3 := hnb
     have hsz9 : Aside0 (w0.heap.size ≤ W9.heap.size) := ⟨hB9.out.size⟩
     have hF2 : Aside0 (FS W9.drew w0.heap.size pb ab hb v na nh (cnt B) (memI out) out) := ⟨hF9.out.below (below_drew1 (Below.refl _ _))⟩
     have K1' : Aside0 (W9.drew.cell? ⟨W.heap.size, 1, none⟩ = some (.string e.f1)) := ⟨K1.out⟩
     have KH' : Aside0 (W9.drew.cell? ⟨pb, 1, none⟩ = some (.map (some hb))) := ⟨hF2.out.cells.2.1⟩
     have hM10 : Aside0 (Mod W9 W9.drew (FP pb ab hb v)) := ⟨(Mod.refl W9 (FP pb ab hb v)).drew⟩
     have ho1 : Aside0 (one e B out = out ++ [e.f1]) := ⟨by unfold one; rw [if_pos ⟨y1, y2, y3⟩]⟩
     clear hF1 hB1 hbl hbx hnb hsz K0 K1 KA KH KL KM hHeld
     go_wp2
     refine start_ (n := 7) (S := fun w' => w'.cell? ⟨W.heap.size, 1, none⟩ = some (.string e.f1) ∧ w'.cell? ⟨pb, 1, none⟩ = some (.map (some hb))) (ds := [6]) (bm 7 0) (by kernel_rfl) rfl rfl ⟨K1'.out, KH'.out⟩ (fun hHeld => ?_)
     generalize W9.drew = W10 at *
     refine pure_ (i := 0) (N := some 31) (v := ?_) (a' := ?_) (bm 7 1) rfl rfl (by kernel_rfl) (fun _ _ _ h => h) (Or.inl ⟨by rfl, ?_⟩) ?_ ?_
     rotate_left
     ·intro w'
      go_simp
      with_reducible rfl
     rotate_left
     ·simp only [Act.put, sA, sB, sC, i64_w, i32_w]
      rfl
     refine pure_ (i := 1) (N := some 32) (v := ?_) (a' := ?_) (bm 7 3) rfl rfl (by kernel_rfl) (fun _ _ _ h => h) (Or.inl ⟨by rfl, ?_⟩) ?_ ?_
     rotate_left
     ·intro w'
      go_simp
      with_reducible rfl
     rotate_left
     ·simp only [Act.put, sA, sB, sC, i64_w, i32_w]
      rfl
     refine pure_ (i := 2) (N := some 33) (v := ?_) (a' := ?_) (bm 7 7) rfl rfl (by kernel_rfl) (fun _ _ _ h => h) (Or.inl ⟨by rfl, ?_⟩) ?_ ?_
     rotate_left
     ·intro w'
      go_simp
      with_reducible rfl
     rotate_left
     ·simp only [Act.put, sA, sB, sC, i64_w, i32_w]
      rfl
     refine pure_ (i := 4) (N := some 35) (v := ?_) (a' := ?_) (bm 7 23) rfl rfl (by kernel_rfl) (fun _ _ _ h => h) (Or.inl ⟨by rfl, ?_⟩) ?_ ?_
     rotate_left
     ·intro w'
      go_simp
      with_reducible rfl
     rotate_left
     ·simp only [Act.put, sA, sB, sC, i64_w, i32_w]
      rfl
     refine take_ (i := 3) (N := some 34) (v := ?_) (a' := ?_) (bm 7 31) rfl rfl (by kernel_rfl) (fun _ _ _ h => h) (Or.inl ⟨by rfl, ?_⟩) hHeld ?_ ?_
     rotate_left
     ·rintro w' ⟨s0, s1⟩
      go_simp
      with_reducible rfl
     rotate_left
     ·simp only [Act.put, sA, sB, sC, i64_w, i32_w]
      rfl
     refine take_ (i := 5) (N := some 36) (v := ?_) (a' := ?_) (bm 7 63) rfl rfl (by kernel_rfl) (fun _ _ _ h => h) (Or.inl ⟨by rfl, ?_⟩) hHeld ?_ ?_
     rotate_left
     ·rintro w' ⟨s0, s1⟩
      go_simp
      with_reducible rfl
     rotate_left
     ·simp only [Act.put, sA, sB, sC, i64_w, i32_w]
      rfl
     refine last_ (i := 6) (N := none) (bm 7 127) rfl rfl (by kernel_rfl) (by decide) (fun K hK => ?_)
     obtain ⟨W7, hrun, hM7, hg7⟩ := hF2.out.hm.store (by have := hbnd.out; unfold maxLen; omega) hns.out 1
     refine skip_ (w1 := W7) (by rfl) rfl ?_ ?_
     ·go_simp
     refine hK.out _ _ ?_
     clear hK K
     refine done_ (by kernel_rfl) ?_
     have hF7 := hF2.out.putH hM7 hg7
     rw [memI_upd] at hF7
     have hM7' := hM10.out.trans (Mod.of_grown hg7) (fun j _ hj => .inr (.inr (.inl hj)))
     have hbx7 := (hM7'.block W.heap.size (Array.getElem?_eq_some_iff.1 hbx9.out).1 hnb9.out).trans hbx9.out
     have hF3 : Aside0 (FS W7.drew w0.heap.size pb ab hb v na (nh + 1) (cnt B) (memI (out ++ [e.f1])) out) := ⟨hF7.below (below_drew1 (Below.refl _ _))⟩
     have K1'' : Aside0 (W7.drew.cell? ⟨W.heap.size, 1, none⟩ = some (.string e.f1)) := ⟨(blk_cell hbx7 1).trans rfl⟩
     have KV : Aside0 (W7.drew.cell? ⟨pb, 2, none⟩ = some v) := ⟨hF3.out.cells.2.2.1⟩
     have hM11 : Aside0 (Mod W9 W7.drew (FP pb ab hb v)) := ⟨hM7'.drew⟩
     have hS3 : Aside0 (w0.heap.size ≤ W7.drew.heap.size) := ⟨Nat.le_trans hsz9.out hM11.out.size⟩
     have hL3 : Aside0 ((out.length + 1) * 16 ≤ 140737488355328) := ⟨by have := hbnd.out; omega⟩
     clear hF7 hM7' hbx7 hM7 hg7 hrun K1' KH' hM10 hF2
     go_wp2
     refine start_ (n := 12) (S := fun w' => w'.cell? ⟨W.heap.size, 1, none⟩ = some (.string e.f1) ∧ w'.cell? ⟨pb, 2, none⟩ = some v) (ds := [11]) (bm 12 0) (by kernel_rfl) rfl rfl ⟨K1''.out, KV.out⟩ (fun hHeld => ?_)
     generalize W7.drew = W11 at *
     refine pure_ (i := 0) (N := some 37) (v := ?_) (a' := ?_) (bm 12 1) rfl rfl (by kernel_rfl) (fun _ _ _ h => h) (Or.inl ⟨by rfl, ?_⟩) ?_ ?_
     rotate_left
     ·intro w'
      go_simp
      with_reducible rfl
     rotate_left
     ·simp only [Act.put, sA, sB, sC, i64_w, i32_w]
      rfl
     refine pure_ (i := 1) (N := some 38) (v := ?_) (a' := ?_) (bm 12 3) rfl rfl (by kernel_rfl) (fun _ _ _ h => h) (Or.inl ⟨by rfl, ?_⟩) ?_ ?_
     rotate_left
     ·intro w'
      go_simp
      with_reducible rfl
     rotate_left
     ·simp only [Act.put, sA, sB, sC, i64_w, i32_w]
      rfl
     refine pure_ (i := 2) (N := some 39) (v := ?_) (a' := ?_) (bm 12 7) rfl rfl (by kernel_rfl) (fun _ _ _ h => h) (Or.inl ⟨by rfl, ?_⟩) ?_ ?_
     rotate_left
     ·intro w'
      go_simp
      with_reducible rfl
     rotate_left
     ·simp only [Act.put, sA, sB, sC, i64_w, i32_w]
      rfl
     refine pure_ (i := 3) (N := some 40) (v := ?_) (a' := ?_) (bm 12 15) rfl rfl (by kernel_rfl) (fun _ _ _ h => h) (Or.inl ⟨by rfl, ?_⟩) ?_ ?_
     rotate_left
     ·intro w'
      go_simp
      with_reducible rfl
     rotate_left
     ·simp only [Act.put, sA, sB, sC, i64_w, i32_w]
      rfl
     refine pure_ (i := 5) (N := some 42) (v := ?_) (a' := ?_) (bm 12 47) rfl rfl (by kernel_rfl) (fun _ _ _ h => h) (Or.inl ⟨by rfl, ?_⟩) ?_ ?_
     rotate_left
     ·intro w'
      go_simp
      with_reducible rfl
     rotate_left
     ·simp only [Act.put, sA, sB, sC, i64_w, i32_w]
      rfl
     refine take_ (i := 4) (N := some 41) (v := ?_) (a' := ?_) (bm 12 63) rfl rfl (by kernel_rfl) (fun _ _ _ h => h) (Or.inl ⟨by rfl, ?_⟩) hHeld ?_ ?_
     rotate_left
     ·rintro w' ⟨s0, s1⟩
      go_simp
      with_reducible rfl
     rotate_left
     ·simp only [Act.put, sA, sB, sC, i64_w, i32_w]
      rfl
     refine take_ (i := 6) (N := some 43) (v := ?_) (a' := ?_) (bm 12 127) rfl rfl (by kernel_rfl) (fun _ _ _ h => h) (Or.inl ⟨by rfl, ?_⟩) hHeld ?_ ?_
     rotate_left
     ·rintro w' ⟨s0, s1⟩
      go_simp
      with_reducible rfl
     rotate_left
     ·simp only [Act.put, sA, sB, sC, i64_w, i32_w]
      rfl
     refine one_ (i := 7) (N := some 44) (bm 12 255) rfl rfl (by kernel_rfl) (by decide) (fun K hK => ?_)
     refine value_ (w1 := ?_) (v := ?_) (by rfl) rfl ?_ ?_
     rotate_left 2
     ·go_simp
      constructor
      ·rfl
      ·rfl
     refine hK.out _ _ ⟨(World.cell?_alloc_lt _ _ _ (World.block_lt_of_cell? _ _ hHeld.1)).trans hHeld.1, (World.cell?_alloc_lt _ _ _ (World.block_lt_of_cell? _ _ hHeld.2)).trans hHeld.2⟩ (fun hHeld => ?_)
     clear hK K
     refine norm_ (a' := ?_) ?_ ?_
     rotate_left
     ·show Act.put _ (some 44) _ = _
      simp only [Act.put, sA, sB, sC, i64_w, i32_w]
      rfl
     refine one_ (i := 8) (N := some 45) (bm 12 511) rfl rfl (by kernel_rfl) (by decide) (fun K hK => ?_)
     refine Kd.R_append_step Kd.string (w0 := W11) w0.heap.size (by rfl) (.tmp 41) (.tmp 44) 22 9 (.string ⟨#[]⟩) 16 rfl Tryd.underlying22 inf9 rfl (by decide) (by decide) v out e.f1 [.string e.f1] (fun j => j ≠ pb ∧ j ≠ ab ∧ j ≠ hb) (fun _ => False) rfl rfl rfl (fun _ hk => hk.elim) ?aF ?aO ?aB ?aS ?aL ?_
     case aF => exact fun k hk => hF3.out.fresh hk
     case aO => exact hF3.out.row
     case aB => exact Below.refl _ _
     case aS => exact hS3.out
     case aL => exact hL3.out
     intro v3 w3 ho hb3 hg3 hat3
     obtain ⟨Ao, co, hv3⟩ := Kd.R_slice ho
     rw [List.length_append, List.length_singleton] at hv3
     subst hv3
     have hbk3 := (hg3.block pb (hF3.out.lt (.inl rfl)) (fun e => (hF3.out.row.1 pb e.symm).1 rfl)).trans hF3.out.blk
     have hfz3 := blk_frozen hbk3 2
     have hcz3 := (blk_cell hbk3 2).trans rfl
     have h1 := cell_own hg3 K1''.out (fun e => hbx3.out (.inr (.inr (.inr e.symm))))
     have h2 := cell_own hg3 KV.out (fun e => (hF3.out.row.1 pb e.symm).1 rfl)
     refine hK.out _ _ ⟨h1, h2⟩ (fun hHeld => ?_)
     clear hK K
     refine norm_ (a' := ?_) ?_ ?_
     rotate_left
     ·show Act.put _ (some 45) _ = _
      simp only [Act.put, sA, sB, sC, i64_w, i32_w]
      rfl
     refine pure_ (i := 9) (N := some 46) (v := ?_) (a' := ?_) (bm 12 1023) rfl rfl (by kernel_rfl) (fun _ _ _ h => h) (Or.inl ⟨by rfl, ?_⟩) ?_ ?_
     rotate_left
     ·intro w'
      go_simp
      with_reducible rfl
     rotate_left
     ·simp only [Act.put, sA, sB, sC, i64_w, i32_w]
      rfl
     refine pure_ (i := 10) (N := some 47) (v := ?_) (a' := ?_) (bm 12 2047) rfl rfl (by kernel_rfl) (fun _ _ _ h => h) (Or.inl ⟨by rfl, ?_⟩) ?_ ?_
     rotate_left
     ·intro w'
      go_simp
      with_reducible rfl
     rotate_left
     ·simp only [Act.put, sA, sB, sC, i64_w, i32_w]
      rfl
     refine last_ (i := 11) (N := none) (bm 12 4095) rfl rfl (by kernel_rfl) (by decide) (fun K hK => ?_)
     refine skip_ (w1 := ?_) (by rfl) rfl ?_ ?_
     rotate_left
     ·go_simp
      rfl
     refine hK.out _ _ ?_
     clear hK K
     refine done_ (by kernel_rfl) ?_
     have hFr : Aside0 (FS (w3.setCell ⟨pb, 2, none⟩ (.slice Ao (out.length + 1) co)) w0.heap.size pb ab hb (.slice Ao (out.length + 1) co) na (nh + 1) (cnt B) (memI (one e B out)) (one e B out)) := ⟨by rw [ho1.out]; exact hF3.out.put hS3.out ho hg3⟩
     have hMr : Aside0 (Mod W9 (w3.setCell ⟨pb, 2, none⟩ (.slice Ao (out.length + 1) co)) (FP pb ab hb v)) := ⟨(hM11.out.trans (Mod.of_own hg3) (fun j _ hj => .inr (.inr (.inr hj)))).trans (Mod.of_set _ _ _) (fun j _ hj => .inl hj)⟩
     have hOr : Aside0 (∀ j, (Value.slice Ao (out.length + 1) co).ownBlock = some j → v.ownBlock = some j ∨ W9.heap.size ≤ j) := ⟨fun j hj => by
      rcases hat3 with hh | ⟨b3, hh, hle⟩
      ·exact .inl (hh ▸ hj)
      ·rw [hh] at hj
       injection hj with hj
       exact .inr (hj ▸ Nat.le_trans hM11.out.size hle)⟩
     have hBr : Aside0 (Below w0.heap.size w0 (w3.setCell ⟨pb, 2, none⟩ (.slice Ao (out.length + 1) co))) := ⟨hB9.out.trans (hMr.out.below hsz9.out (fun j _ hj => hF9.out.fge hj))⟩
     have hbxc := Aside0.mk ((hMr.out.block W.heap.size (Array.getElem?_eq_some_iff.1 hbx9.out).1 hnb9.out).trans hbx9.out)
     have hnh : Aside0 (nh + 1 ≤ nh + 1) := ⟨Nat.le_refl _⟩
     have hlen1 : Aside0 ((one e B out).length ≤ out.length + 1) := ⟨by rw [ho1.out]; simp⟩
     generalize w3.setCell ⟨pb, 2, none⟩ (.slice Ao (out.length + 1) co) = Wc at *
     clear ho hg3 hat3 hbk3 hfz3 hcz3 h1 h2 K1'' KV hM11 hS3 hL3 hF3 ho1 hbx3
     obtain ⟨hn1, bB, ba, bh, bo⟩ := hbnd.out
     have hceq := hcost.out
     have hx3 := (blk_cell hbxc.out 3).trans rfl
     have CB := bind_st hFr.out hMr.out hOr.out hBr.out e.f3 hC3.out hok3.out (c := c3) 1 (by decide) (addk_in e.f3 B) (by omega) (by omega)
     go_wp2_with (first | (go_at_call 55; go_loud (with_reducible refine CB.mono ?_); rintro r w2 ⟨rfl, hst2⟩; have HS2 := Aside0.mk hst2; have hx4 := (blk_cell (St.blk hst2 hbx9.out hnb9.out) 4).trans rfl; clear hst2 CB hx3))
     clear hx4
     go_loopg [55] (e.f4.length + 1) (fun kq v55 w' => ∃ (i : Nat) (o : List ByteArray) (ca ch : Nat), v55 = .int .i64 (i : Int) ∧ i + kq = e.f4.length + 1 ∧ 1 ≤ kq ∧ Aside0 (fxL (e.f4.drop i) (e.f3 ++ B) o = fxL e.f4 (e.f3 ++ B) (one e B out)) ∧ Aside0 (okL (e.f4.drop i) = true) ∧ Aside0 (St W9 w' w0.heap.size pb ab hb v (e.f3 ++ B) o ca ch) ∧ Aside0 (ca + costL (e.f4.drop i) ≤ na + e.f3.length + costL e.f4 ∧ ch + costL (e.f4.drop i) ≤ nh + 1 + costL e.f4 ∧ o.length + costL (e.f4.drop i) ≤ out.length + 1 + costL e.f4))
     case atStart => exact ⟨0, one e B out, na + e.f3.length, nh + 1, rfl, by omega, by omega, ⟨rfl⟩, hok4, ⟨HS2.out.mono (Nat.le_refl _) hnh.out⟩, ⟨by simp, by simp, by have := hlen1.out; simp only [List.drop_zero]; omega⟩⟩
     case round =>
      obtain ⟨i, o, ca, ch, rfl, hi, hk, hs, hol, hst, hbd⟩ := hrel
      by_cases hlt : i < e.f4.length
      ·have hBw := hB9.out.trans (St.below hst.out hF9.out hsz9.out)
       obtain ⟨ad, X3, d3, X4, d4, X5, d5, rfl, hv0, hv1, hv2, hv3, hv4, hv5, g3, g4, g5⟩ := at_e hBw hC4.out i hlt
       have p0 : (0 : Int) ≤ (i : Int) := by omega
       have q0 : (i : Int) < (e.f4.length : Int) := by omega
       have q1 : decide ((i : Int) < (e.f4.length : Int)) = true := decide_eq_true q0
       have hdr := costL_drop hlt
       have hcl := costL_le hlt
       have hod := okL_drop hlt hol.out
       have hsd : Aside0 (fxL (e.f4.drop (i + 1)) (e.f3 ++ B) (fx e.f4[i] (e.f3 ++ B) o) = fxL e.f4 (e.f3 ++ B) (one e B out)) := ⟨by rw [← hs.out, List.drop_eq_getElem_cons hlt]; simp only [fxL]⟩
       have hfl := fx_len e.f4[i] (e.f3 ++ B) o
       have hb2 := hbd.out
       generalize e.f4[i] = x at *
       have hal := below_alloc (Below.refl wr.heap.size wr) (.cells #[.int .i64 x.f0, .string x.f1, .int .i64 x.f2, .slice X3 x.f3.length d3, .slice X4 x.f4.length d4, .slice X5 x.f5.length d5] 33)
       have CX := step_x (ih x (by omega)) hF9.out hB9.out hsz9.out (hst.out.alloc hal) hod.1 (by rw [List.length_append]; omega) (by omega) (by omega) (by omega) g3 g4 g5 d3 d4 d5
       have hbb := Aside0.mk (And.intro hdr (And.intro hfl hb2))
       have hod2 := Aside0.mk hod.2
       clear hBw g3 g4 g5 hdr hcl hod hfl hb2 hal hceq hn1 bB ba bh bo
       go_wp2_with (first | (go_at_call 38; go_loud (with_reducible refine CX.mono ?_); rintro r w3 ⟨rfl, hst3⟩; have HS3 := Aside0.mk hst3; clear hst3 CX))
       go_roundg (gk - 1)
       case measure => omega
       case rel => exact ⟨i + 1, fx x (e.f3 ++ B) o, ca + cost x, ch + cost x, by go_num, by omega, by omega, hsd, hod2, HS3, ⟨by have := hbb.out; omega, by have := hbb.out; omega, by have := hbb.out; omega⟩⟩
      ·have q1 : decide ((i : Int) < (e.f4.length : Int)) = false := decide_eq_false (by omega)
       have hd0 : e.f4.drop i = [] := List.drop_eq_nil_of_le (by omega)
       have hso : o = fxL e.f4 (e.f3 ++ B) (one e B out) := by rw [← hs.out, hd0]; simp only [fxL]
       have hb2 := hbd.out
       rw [hd0] at hb2
       simp only [costL, Nat.add_zero] at hb2
       have hBw := hB9.out.trans (St.below hst.out hF9.out hsz9.out)
       have hx3 := (blk_cell (St.blk hst.out hbx9.out hnb9.out) 3).trans rfl
       have CB := step_b hF9.out hB9.out hsz9.out e.f3 hst.out hC3.out hok3.out c3 (by rw [List.length_append]; omega) (by omega)
       have hb3 := Aside0.mk hb2
       clear hbd hb2 hd0 hBw hs hol hst hceq hn1 bB ba bh bo
       go_wp2_with (first | (go_at_call 55; go_loud (with_reducible refine CB.mono ?_); rintro r w4 ⟨rfl, hst4⟩; have HS4 := Aside0.mk hst4; have hx5 := (blk_cell (St.blk hst4 hbx9.out hnb9.out) 5).trans rfl; clear hst4 CB hx3))
       clear hx5
       go_loopg [70] (e.f5.length + 1) (fun kq v70 w' => ∃ (i : Nat) (o2 : List ByteArray) (ca3 ch3 : Nat), v70 = .int .i64 (i : Int) ∧ i + kq = e.f5.length + 1 ∧ 1 ≤ kq ∧ Aside0 (fxA (e.f5.drop i) B o2 = fxA e.f5 B o) ∧ Aside0 (okA (e.f5.drop i) = true) ∧ Aside0 (St W9 w' w0.heap.size pb ab hb v B o2 ca3 ch3) ∧ Aside0 (ca3 + costA (e.f5.drop i) ≤ ca + e.f3.length + costA e.f5 ∧ ch3 + costA (e.f5.drop i) ≤ ch + costA e.f5 ∧ o2.length + costA (e.f5.drop i) ≤ o.length + costA e.f5))
       case atStart => exact ⟨0, o, ca + e.f3.length, ch, rfl, by omega, by omega, ⟨rfl⟩, hok5, HS4, ⟨by simp, by simp, by simp⟩⟩
       case round =>
        obtain ⟨i3, o2, ca3, ch3, rfl, hi3, hk3, hs3, hol3, hst3, hbd3⟩ := hrel
        by_cases hlt3 : i3 < e.f5.length
        ·have hBw := hB9.out.trans (St.below hst3.out hF9.out hsz9.out)
         obtain ⟨ad, Y3, d3, X3, e3, X4, e4, X5, e5, rfl, hv0, hv1, hv2, hv3, hv4, hv5, hv6, hv7, hv8, hv9, g3, g4, g5, g6⟩ := at_a hBw hC5.out i3 hlt3
         have p0 : (0 : Int) ≤ (i3 : Int) := by omega
         have q0 : (i3 : Int) < (e.f5.length : Int) := by omega
         have q1 : decide ((i3 : Int) < (e.f5.length : Int)) = true := decide_eq_true q0
         have hdr := costA_drop hlt3
         have hcl := costA_le hlt3
         have hod := okA_drop hlt3 hol3.out
         have hsd : Aside0 (fxA (e.f5.drop (i3 + 1)) B (fx e.f5[i3].f4 (e.f5[i3].f3 ++ B) o2) = fxA e.f5 B o) := ⟨by rw [← hs3.out, List.drop_eq_getElem_cons hlt3, fxA_cons]⟩
         have hfl := fx_len e.f5[i3].f4 (e.f5[i3].f3 ++ B) o2
         have hb2 := hbd3.out
         generalize e.f5[i3] = a at *
         obtain ⟨v5, na5, nh5, hF5, hM5, hO5, h5a, h5h⟩ := hst3.out
         have hal := below_alloc (Below.refl wr.heap.size wr) (.cells #[.int .i64 a.f0, .string a.f1, .int .i64 a.f2, .slice Y3 a.f3.length d3, .int .i64 a.f4.f0, .string a.f4.f1, .int .i64 a.f4.f2, .slice X3 a.f4.f3.length e3, .slice X4 a.f4.f4.length e4, .slice X5 a.f4.f5.length e5] 40)
         have hBs : w0.heap.size ≤ wr.heap.size := hBw.size
         have hMa := hM5.trans (Mod.of_below hal (FP pb ab hb v)) (fun _ _ hj => hj)
         have hFa := hF5.below hal
         have hBa := hBw.trans (hal.mono hBs)
         obtain ⟨hn1, bB, ba, bh, bo⟩ := hbnd.out
         have hceq := hcost.out
         have hb30 := hb3.out
         have C1 := bind_st hFa (Mod.refl _ (FP pb ab hb v5)) (fun j hj => .inl hj) hBa a.f3 g3 hod.1.1 (c := d3) 1 (by decide) (addk_in a.f3 B) (by omega) (by omega)
         have hbk : (wr.alloc (.cells #[.int .i64 a.f0, .string a.f1, .int .i64 a.f2, .slice Y3 a.f3.length d3, .int .i64 a.f4.f0, .string a.f4.f1, .int .i64 a.f4.f2, .slice X3 a.f4.f3.length e3, .slice X4 a.f4.f4.length e4, .slice X5 a.f4.f5.length e5] 40)).heap[wr.heap.size]? = some (.cells #[.int .i64 a.f0, .string a.f1, .int .i64 a.f2, .slice Y3 a.f3.length d3, .int .i64 a.f4.f0, .string a.f4.f1, .int .i64 a.f4.f2, .slice X3 a.f4.f3.length e3, .slice X4 a.f4.f4.length e4, .slice X5 a.f4.f5.length e5] 40 (0, 0)) := blk_new wr _
         have hnk : ¬ FP pb ab hb v5 wr.heap.size := fun hh => by have := hF5.lt hh; omega
         have hsa : w0.heap.size ≤ (wr.alloc (.cells #[.int .i64 a.f0, .string a.f1, .int .i64 a.f2, .slice Y3 a.f3.length d3, .int .i64 a.f4.f0, .string a.f4.f1, .int .i64 a.f4.f2, .slice X3 a.f4.f3.length e3, .slice X4 a.f4.f4.length e4, .slice X5 a.f4.f5.length e5] 40)).heap.size := Nat.le_trans hBs hal.size
         have hMa := Aside0.mk hMa
         have hFa := Aside0.mk hFa
         have hBa := Aside0.mk hBa
         have hO5 := Aside0.mk hO5
         have hbk := Aside0.mk hbk
         have hnk := Aside0.mk hnk
         have hsa := Aside0.mk hsa
         have hg := Aside0.mk (And.intro g3 (And.intro g4 (And.intro g5 g6)))
         have hod := Aside0.mk hod
         have hbb := Aside0.mk (And.intro hcl (And.intro hdr (And.intro hfl (And.intro hb2 (And.intro hb3.out (And.intro h5a (And.intro h5h (And.intro hcost.out hbnd.out))))))))
         clear hBw g3 g4 g5 g6 hdr hcl hfl hb2 hF5 hM5 hal hBs h5a h5h hn1 bB ba bh bo hceq hb30
         go_wp2_with (first | (go_at_call 55; go_loud (with_reducible refine C1.mono ?_); rintro r w5 ⟨rfl, hst5⟩; have HT5 := Aside0.mk hst5; have hw5 := St.blk hst5 hbk.out hnk.out; have hy4 := (blk_cell hw5 4).trans rfl; have hy5 := (blk_cell hw5 5).trans rfl; have hy6 := (blk_cell hw5 6).trans rfl; have hy7 := (blk_cell hw5 7).trans rfl; have hy8 := (blk_cell hw5 8).trans rfl; have hy9 := (blk_cell hw5 9).trans rfl; clear hst5 C1 hw5 hv0 hv1 hv2 hv3 hv4 hv5 hv6 hv7 hv8 hv9; have C2 := step_x (ih a.f4 (by have := hbb.out; omega)) hFa.out hBa.out hsa.out HT5.out hod.out.1.2 (by have := hbb.out; rw [List.length_append]; omega) (by have := hbb.out; omega) (by have := hbb.out; omega) (by have := hbb.out; omega) hg.out.2.1 hg.out.2.2.1 hg.out.2.2.2 e3 e4 e5) | (go_at_call 38; go_loud (with_reducible refine C2.mono ?_); rintro r w6 ⟨rfl, hst6⟩; have HT6 := Aside0.mk hst6; have hz3 := (blk_cell (St.blk hst6 hbk.out hnk.out) 3).trans rfl; clear hst6 C2 hy4 hy5 hy6 hy7 hy8 hy9; have C3 := step_b hFa.out hBa.out hsa.out a.f3 HT6.out hg.out.1 hod.out.1.1 d3 (by have := hbb.out; rw [List.length_append]; omega) (by have := hbb.out; omega)) | (go_at_call 55; go_loud (with_reducible refine C3.mono ?_); rintro r w7 ⟨rfl, hst7⟩; have HT7 := Aside0.mk (St.comp hMa.out hO5.out hst7); clear hst7 C3 hz3))
         go_roundg (gk - 1)
         case measure => omega
         case rel => exact ⟨i3 + 1, fx a.f4 (a.f3 ++ B) o2, na5 + a.f3.length + cost a.f4 + a.f3.length, nh5 + cost a.f4, by go_num, by omega, by omega, hsd, ⟨hod.out.2⟩, HT7, ⟨by have := hbb.out; omega, by have := hbb.out; omega, by have := hbb.out; omega⟩⟩
        ·have q1 : decide ((i3 : Int) < (e.f5.length : Int)) = false := decide_eq_false (by omega)
         have hd0 : e.f5.drop i3 = [] := List.drop_eq_nil_of_le (by omega)
         have hso3 : o2 = fxA e.f5 B o := by rw [← hs3.out, hd0]; simp only [fxA]
         have hb4 := hbd3.out
         rw [hd0] at hb4
         simp only [costA, Nat.add_zero] at hb4
         have hfin : Aside0 (St W wr w0.heap.size pb ab hb v B (fx e B out) (na + cost e) (nh + cost e)) := ⟨by
          rw [hone.out, ← hso, ← hso3]
          exact (St.comp (Mod.of_below hbl9.out _) (fun j hj => .inl hj) hst3.out).mono (by have := hb3.out; have := hcost.out; omega) (by have := hb3.out; have := hcost.out; omega)⟩
         go_wp2
         refine bodyPost_end (v := .tuple #[]) (by simp [results, Tryd.results38, go_sem]) rfl ?_
         exact ⟨rfl, hfin.out⟩
    ·have q3 : (memI out e.f1 == 0) = false := by
      have y3' : isIn out e.f1 = true := by simpa using y3
      unfold memI; rw [y3']; rfl
     refine start_ (n := 23) (S := fun w' => w'.cell? ⟨W.heap.size, 0, none⟩ = some (.int .i64 e.f0) ∧ w'.cell? ⟨W.heap.size, 1, none⟩ = some (.string e.f1) ∧ w'.cell? ⟨pb, 0, none⟩ = some (.map (some ab)) ∧ (Instr.lookup 59 (.map (some ab)) (.string e.f1) false).run Tryd.prog w' = .ok (.int .i64 (cnt B e.f1)) w' ∧ w'.cell? ⟨pb, 1, none⟩ = some (.map (some hb)) ∧ (Instr.lookup 59 (.map (some hb)) (.string e.f1) false).run Tryd.prog w' = .ok (.int .i64 (memI out e.f1)) w') (ds := []) (bm 23 0) (by kernel_rfl) rfl rfl ⟨K0.out, K1.out, KA.out, KL.out, KH.out, KM.out⟩ (fun hHeld => ?_)
     generalize (W.alloc (.cells #[.int .i64 e.f0, .string e.f1, .int .i64 e.f2, .slice A3 e.f3.length c3, .slice A4 e.f4.length c4, .slice A5 e.f5.length c5] 33)).drew = W9 at *
     refine pure_ (i := 0) (N := some 8) (v := ?_) (a' := ?_) (bm 23 1) rfl rfl (by kernel_rfl) (fun _ _ _ h => h) (Or.inl ⟨by rfl, ?_⟩) ?_ ?_
     rotate_left
     ·intro w'
      go_simp
      with_reducible rfl
     rotate_left
     ·simp only [Act.put, sA, sB, sC, i64_w, i32_w]
      rfl
     refine take_ (i := 1) (N := some 9) (v := ?_) (a' := ?_) (bm 23 3) rfl rfl (by kernel_rfl) (fun _ _ _ h => h) (Or.inl ⟨by rfl, ?_⟩) hHeld ?_ ?_
     rotate_left
     ·rintro w' ⟨s0, s1, s2, s3, s4, s5⟩
      go_simp
      with_reducible rfl
     rotate_left
     ·simp only [Act.put, sA, sB, sC, i64_w, i32_w]
      rfl
     refine pure_ (i := 2) (N := some 10) (v := ?_) (a' := ?_) (bm 23 7) rfl rfl (by kernel_rfl) (fun _ _ _ h => h) (Or.inl ⟨by rfl, ?_⟩) ?_ ?_
     rotate_left
     ·intro w'
      go_simp
      with_reducible rfl
     rotate_left
     ·simp only [Act.put, sA, sB, sC, i64_w, i32_w]
      rfl
     refine pure_ (i := 3) (N := some 11) (v := ?_) (a' := ?_) (bm 23 15) rfl rfl (by kernel_rfl) (fun _ _ _ h => h) (Or.inl ⟨by rfl, ?_⟩) ?_ ?_
     rotate_left
     ·intro w'
      go_simp
      with_reducible rfl
     rotate_left
     ·simp only [Act.put, sA, sB, sC, i64_w, i32_w]
      rfl
     refine pure_ (i := 4) (N := some 12) (v := ?_) (a' := ?_) (bm 23 31) rfl rfl (by kernel_rfl) (fun _ _ _ h => h) (Or.inl ⟨by rfl, ?_⟩) ?_ ?_
     rotate_left
     ·intro w'
      go_simp
      with_reducible rfl
     rotate_left
     ·simp only [Act.put, sA, sB, sC, i64_w, i32_w]
      rfl
     refine pure_ (i := 5) (N := some 13) (v := ?_) (a' := ?_) (bm 23 63) rfl rfl (by kernel_rfl) (fun _ _ _ h => h) (Or.inl ⟨by rfl, ?_⟩) ?_ ?_
     rotate_left
     ·intro w'
      go_simp
      with_reducible rfl
     rotate_left
     ·simp only [Act.put, sA, sB, sC, i64_w, i32_w]
      rfl
     refine pure_ (i := 6) (N := some 14) (v := ?_) (a' := ?_) (bm 23 127) rfl rfl (by kernel_rfl) (fun _ _ _ h => h) (Or.inl ⟨by rfl, ?_⟩) ?_ ?_
     rotate_left
     ·intro w'
      go_simp
      with_reducible rfl
     rotate_left
     ·simp only [Act.put, sA, sB, sC, i64_w, i32_w]
      rfl
     refine pure_ (i := 8) (N := some 16) (v := ?_) (a' := ?_) (bm 23 383) rfl rfl (by kernel_rfl) (fun _ _ _ h => h) (Or.inl ⟨by rfl, ?_⟩) ?_ ?_
     rotate_left
     ·intro w'
      go_simp
      with_reducible rfl
     rotate_left
     ·simp only [Act.put, sA, sB, sC, i64_w, i32_w]
      rfl
     refine take_ (i := 7) (N := some 15) (v := ?_) (a' := ?_) (bm 23 511) rfl rfl (by kernel_rfl) (fun _ _ _ h => h) (Or.inl ⟨by rfl, ?_⟩) hHeld ?_ ?_
     rotate_left
     ·rintro w' ⟨s0, s1, s2, s3, s4, s5⟩
      go_simp
      with_reducible rfl
     rotate_left
     ·simp only [Act.put, sA, sB, sC, i64_w, i32_w]
      rfl
     refine take_ (i := 9) (N := some 17) (v := ?_) (a' := ?_) (bm 23 1023) rfl rfl (by kernel_rfl) (fun _ _ _ h => h) (Or.inl ⟨by rfl, ?_⟩) hHeld ?_ ?_
     rotate_left
     ·rintro w' ⟨s0, s1, s2, s3, s4, s5⟩
      go_simp
      with_reducible rfl
     rotate_left
     ·simp only [Act.put, sA, sB, sC, i64_w, i32_w]
      rfl
     refine take_ (i := 10) (N := some 18) (v := ?_) (a' := ?_) (bm 23 2047) rfl rfl (by kernel_rfl) (fun _ _ _ h => h) (Or.inl ⟨by rfl, ?_⟩) hHeld ?_ ?_
     rotate_left
     ·rintro w' ⟨s0, s1, s2, s3, s4, s5⟩
      go_simp
      with_reducible rfl
     rotate_left
     ·simp only [Act.put, sA, sB, sC, i64_w, i32_w]
      rfl
     refine pure_ (i := 11) (N := some 19) (v := ?_) (a' := ?_) (bm 23 4095) rfl rfl (by kernel_rfl) (fun _ _ _ h => h) (Or.inl ⟨by rfl, ?_⟩) ?_ ?_
     rotate_left
     ·intro w'
      go_simp
      with_reducible rfl
     rotate_left
     ·simp only [Act.put, sA, sB, sC, i64_w, i32_w]
      rfl
     refine pure_ (i := 12) (N := some 20) (v := ?_) (a' := ?_) (bm 23 8191) rfl rfl (by kernel_rfl) (fun _ _ _ h => h) (Or.inl ⟨by rfl, ?_⟩) ?_ ?_
     rotate_left
     ·intro w'
      go_simp
      with_reducible rfl
     rotate_left
     ·simp only [Act.put, sA, sB, sC, i64_w, i32_w]
      rfl
     refine pure_ (i := 13) (N := some 21) (v := ?_) (a' := ?_) (bm 23 16383) rfl rfl (by kernel_rfl) (fun _ _ _ h => h) (Or.inl ⟨by rfl, ?_⟩) ?_ ?_
     rotate_left
     ·intro w'
      go_simp
      with_reducible rfl
     rotate_left
     ·simp only [Act.put, sA, sB, sC, i64_w, i32_w]
      rfl
     refine pure_ (i := 14) (N := some 22) (v := ?_) (a' := ?_) (bm 23 32767) rfl rfl (by kernel_rfl) (fun _ _ _ h => h) (Or.inl ⟨by rfl, ?_⟩) ?_ ?_
     rotate_left
     ·intro w'
      go_simp
      with_reducible rfl
     rotate_left
     ·simp only [Act.put, sA, sB, sC, i64_w, i32_w]
      rfl
     refine pure_ (i := 15) (N := some 23) (v := ?_) (a' := ?_) (bm 23 65535) rfl rfl (by kernel_rfl) (fun _ _ _ h => h) (Or.inl ⟨by rfl, ?_⟩) ?_ ?_
     rotate_left
     ·intro w'
      go_simp
      with_reducible rfl
     rotate_left
     ·simp only [Act.put, sA, sB, sC, i64_w, i32_w]
      rfl
     refine pure_ (i := 16) (N := some 24) (v := ?_) (a' := ?_) (bm 23 131071) rfl rfl (by kernel_rfl) (fun _ _ _ h => h) (Or.inl ⟨by rfl, ?_⟩) ?_ ?_
     rotate_left
     ·intro w'
      go_simp
      with_reducible rfl
     rotate_left
     ·simp only [Act.put, sA, sB, sC, i64_w, i32_w]
      rfl
     refine pure_ (i := 18) (N := some 26) (v := ?_) (a' := ?_) (bm 23 393215) rfl rfl (by kernel_rfl) (fun _ _ _ h => h) (Or.inl ⟨by rfl, ?_⟩) ?_ ?_
     rotate_left
     ·intro w'
      go_simp
      with_reducible rfl
     rotate_left
     ·simp only [Act.put, sA, sB, sC, i64_w, i32_w]
      rfl
     refine take_ (i := 17) (N := some 25) (v := ?_) (a' := ?_) (bm 23 524287) rfl rfl (by kernel_rfl) (fun _ _ _ h => h) (Or.inl ⟨by rfl, ?_⟩) hHeld ?_ ?_
     rotate_left
     ·rintro w' ⟨s0, s1, s2, s3, s4, s5⟩
      go_simp
      with_reducible rfl
     rotate_left
     ·simp only [Act.put, sA, sB, sC, i64_w, i32_w]
      rfl
     refine take_ (i := 19) (N := some 27) (v := ?_) (a' := ?_) (bm 23 1048575) rfl rfl (by kernel_rfl) (fun _ _ _ h => h) (Or.inl ⟨by rfl, ?_⟩) hHeld ?_ ?_
     rotate_left
     ·rintro w' ⟨s0, s1, s2, s3, s4, s5⟩
      go_simp
      with_reducible rfl
     rotate_left
     ·simp only [Act.put, sA, sB, sC, i64_w, i32_w]
      rfl
     refine take_ (i := 20) (N := some 28) (v := ?_) (a' := ?_) (bm 23 2097151) rfl rfl (by kernel_rfl) (fun _ _ _ h => h) (Or.inl ⟨by rfl, ?_⟩) hHeld ?_ ?_
     rotate_left
     ·rintro w' ⟨s0, s1, s2, s3, s4, s5⟩
      go_simp
      with_reducible rfl
     rotate_left
     ·simp only [Act.put, sA, sB, sC, i64_w, i32_w]
      rfl
     refine pure_ (i := 21) (N := some 29) (v := ?_) (a' := ?_) (bm 23 4194303) rfl rfl (by kernel_rfl) (fun _ _ _ h => h) (Or.inl ⟨by rfl, ?_⟩) ?_ ?_
     rotate_left
     ·intro w'
      go_simp
      with_reducible rfl
     rotate_left
     ·simp only [Act.put, sA, sB, sC, i64_w, i32_w]
      rfl
     refine pure_ (i := 22) (N := some 30) (v := ?_) (a' := ?_) (bm 23 8388607) rfl rfl (by kernel_rfl) (fun _ _ _ h => h) (Or.inl ⟨by rfl, ?_⟩) ?_ ?_
     rotate_left
     ·intro w'
      go_simp
      with_reducible rfl
     rotate_left
     ·simp only [Act.put, sA, sB, sC, i64_w, i32_w]
      rfl
     refine done_ (by kernel_rfl) ?_
     have hF9 := hF1
     have hB9 := hB1
     have hbl9 := hbl
     have hbx9 := hbx
     have hnb9 := hnb
     have hsz9 : Aside0 (w0.heap.size ≤ W9.heap.size) := ⟨hB9.out.size⟩
     have ho1 : one e B out = out := by unfold one; rw [if_neg (by intro h; exact y3 h.2.2)]
     have hFr : Aside0 (FS W9 w0.heap.size pb ab hb v na nh (cnt B) (memI (one e B out)) (one e B out)) := ⟨by rw [ho1]; exact hF9.out⟩
     have hMr := Aside0.mk (Mod.refl W9 (FP pb ab hb v))
     have hOr : Aside0 (∀ j, v.ownBlock = some j → v.ownBlock = some j ∨ W9.heap.size ≤ j) := ⟨fun j hj => .inl hj⟩
     have hBr := hB9
     have hbxc := hbx9
     have hnh : Aside0 (nh ≤ nh + 1) := ⟨Nat.le_succ _⟩
     have hlen1 : Aside0 ((one e B out).length ≤ out.length + 1) := ⟨by rw [ho1]; omega⟩
     clear hF1 hB1 hbl hbx hnb hsz K0 K1 KA KH KL KM ho1
     clear hHeld
     obtain ⟨hn1, bB, ba, bh, bo⟩ := hbnd.out
     have hceq := hcost.out
     have hx3 := (blk_cell hbxc.out 3).trans rfl
     have CB := bind_st hFr.out hMr.out hOr.out hBr.out e.f3 hC3.out hok3.out (c := c3) 1 (by decide) (addk_in e.f3 B) (by omega) (by omega)
     go_wp2_with (first | (go_at_call 55; go_loud (with_reducible refine CB.mono ?_); rintro r w2 ⟨rfl, hst2⟩; have HS2 := Aside0.mk hst2; have hx4 := (blk_cell (St.blk hst2 hbx9.out hnb9.out) 4).trans rfl; clear hst2 CB hx3))
     clear hx4
     go_loopg [55] (e.f4.length + 1) (fun kq v55 w' => ∃ (i : Nat) (o : List ByteArray) (ca ch : Nat), v55 = .int .i64 (i : Int) ∧ i + kq = e.f4.length + 1 ∧ 1 ≤ kq ∧ Aside0 (fxL (e.f4.drop i) (e.f3 ++ B) o = fxL e.f4 (e.f3 ++ B) (one e B out)) ∧ Aside0 (okL (e.f4.drop i) = true) ∧ Aside0 (St W9 w' w0.heap.size pb ab hb v (e.f3 ++ B) o ca ch) ∧ Aside0 (ca + costL (e.f4.drop i) ≤ na + e.f3.length + costL e.f4 ∧ ch + costL (e.f4.drop i) ≤ nh + 1 + costL e.f4 ∧ o.length + costL (e.f4.drop i) ≤ out.length + 1 + costL e.f4))
     case atStart => exact ⟨0, one e B out, na + e.f3.length, nh + 1, rfl, by omega, by omega, ⟨rfl⟩, hok4, ⟨HS2.out.mono (Nat.le_refl _) hnh.out⟩, ⟨by simp, by simp, by have := hlen1.out; simp only [List.drop_zero]; omega⟩⟩
     case round =>
      obtain ⟨i, o, ca, ch, rfl, hi, hk, hs, hol, hst, hbd⟩ := hrel
      by_cases hlt : i < e.f4.length
      ·have hBw := hB9.out.trans (St.below hst.out hF9.out hsz9.out)
       obtain ⟨ad, X3, d3, X4, d4, X5, d5, rfl, hv0, hv1, hv2, hv3, hv4, hv5, g3, g4, g5⟩ := at_e hBw hC4.out i hlt
       have p0 : (0 : Int) ≤ (i : Int) := by omega
       have q0 : (i : Int) < (e.f4.length : Int) := by omega
       have q1 : decide ((i : Int) < (e.f4.length : Int)) = true := decide_eq_true q0
       have hdr := costL_drop hlt
       have hcl := costL_le hlt
       have hod := okL_drop hlt hol.out
       have hsd : Aside0 (fxL (e.f4.drop (i + 1)) (e.f3 ++ B) (fx e.f4[i] (e.f3 ++ B) o) = fxL e.f4 (e.f3 ++ B) (one e B out)) := ⟨by rw [← hs.out, List.drop_eq_getElem_cons hlt]; simp only [fxL]⟩
       have hfl := fx_len e.f4[i] (e.f3 ++ B) o
       have hb2 := hbd.out
       generalize e.f4[i] = x at *
       have hal := below_alloc (Below.refl wr.heap.size wr) (.cells #[.int .i64 x.f0, .string x.f1, .int .i64 x.f2, .slice X3 x.f3.length d3, .slice X4 x.f4.length d4, .slice X5 x.f5.length d5] 33)
       have CX := step_x (ih x (by omega)) hF9.out hB9.out hsz9.out (hst.out.alloc hal) hod.1 (by rw [List.length_append]; omega) (by omega) (by omega) (by omega) g3 g4 g5 d3 d4 d5
       have hbb := Aside0.mk (And.intro hdr (And.intro hfl hb2))
       have hod2 := Aside0.mk hod.2
       clear hBw g3 g4 g5 hdr hcl hod hfl hb2 hal hceq hn1 bB ba bh bo
       go_wp2_with (first | (go_at_call 38; go_loud (with_reducible refine CX.mono ?_); rintro r w3 ⟨rfl, hst3⟩; have HS3 := Aside0.mk hst3; clear hst3 CX))
       go_roundg (gk - 1)
       case measure => omega
       case rel => exact ⟨i + 1, fx x (e.f3 ++ B) o, ca + cost x, ch + cost x, by go_num, by omega, by omega, hsd, hod2, HS3, ⟨by have := hbb.out; omega, by have := hbb.out; omega, by have := hbb.out; omega⟩⟩
      ·have q1 : decide ((i : Int) < (e.f4.length : Int)) = false := decide_eq_false (by omega)
       have hd0 : e.f4.drop i = [] := List.drop_eq_nil_of_le (by omega)
       have hso : o = fxL e.f4 (e.f3 ++ B) (one e B out) := by rw [← hs.out, hd0]; simp only [fxL]
       have hb2 := hbd.out
       rw [hd0] at hb2
       simp only [costL, Nat.add_zero] at hb2
       have hBw := hB9.out.trans (St.below hst.out hF9.out hsz9.out)
       have hx3 := (blk_cell (St.blk hst.out hbx9.out hnb9.out) 3).trans rfl
       have CB := step_b hF9.out hB9.out hsz9.out e.f3 hst.out hC3.out hok3.out c3 (by rw [List.length_append]; omega) (by omega)
       have hb3 := Aside0.mk hb2
       clear hbd hb2 hd0 hBw hs hol hst hceq hn1 bB ba bh bo
       go_wp2_with (first | (go_at_call 55; go_loud (with_reducible refine CB.mono ?_); rintro r w4 ⟨rfl, hst4⟩; have HS4 := Aside0.mk hst4; have hx5 := (blk_cell (St.blk hst4 hbx9.out hnb9.out) 5).trans rfl; clear hst4 CB hx3))
       clear hx5
       go_loopg [70] (e.f5.length + 1) (fun kq v70 w' => ∃ (i : Nat) (o2 : List ByteArray) (ca3 ch3 : Nat), v70 = .int .i64 (i : Int) ∧ i + kq = e.f5.length + 1 ∧ 1 ≤ kq ∧ Aside0 (fxA (e.f5.drop i) B o2 = fxA e.f5 B o) ∧ Aside0 (okA (e.f5.drop i) = true) ∧ Aside0 (St W9 w' w0.heap.size pb ab hb v B o2 ca3 ch3) ∧ Aside0 (ca3 + costA (e.f5.drop i) ≤ ca + e.f3.length + costA e.f5 ∧ ch3 + costA (e.f5.drop i) ≤ ch + costA e.f5 ∧ o2.length + costA (e.f5.drop i) ≤ o.length + costA e.f5))
       case atStart => exact ⟨0, o, ca + e.f3.length, ch, rfl, by omega, by omega, ⟨rfl⟩, hok5, HS4, ⟨by simp, by simp, by simp⟩⟩
       case round =>
        obtain ⟨i3, o2, ca3, ch3, rfl, hi3, hk3, hs3, hol3, hst3, hbd3⟩ := hrel
        by_cases hlt3 : i3 < e.f5.length
        ·have hBw := hB9.out.trans (St.below hst3.out hF9.out hsz9.out)
         obtain ⟨ad, Y3, d3, X3, e3, X4, e4, X5, e5, rfl, hv0, hv1, hv2, hv3, hv4, hv5, hv6, hv7, hv8, hv9, g3, g4, g5, g6⟩ := at_a hBw hC5.out i3 hlt3
         have p0 : (0 : Int) ≤ (i3 : Int) := by omega
         have q0 : (i3 : Int) < (e.f5.length : Int) := by omega
         have q1 : decide ((i3 : Int) < (e.f5.length : Int)) = true := decide_eq_true q0
         have hdr := costA_drop hlt3
         have hcl := costA_le hlt3
         have hod := okA_drop hlt3 hol3.out
         have hsd : Aside0 (fxA (e.f5.drop (i3 + 1)) B (fx e.f5[i3].f4 (e.f5[i3].f3 ++ B) o2) = fxA e.f5 B o) := ⟨by rw [← hs3.out, List.drop_eq_getElem_cons hlt3, fxA_cons]⟩
         have hfl := fx_len e.f5[i3].f4 (e.f5[i3].f3 ++ B) o2
         have hb2 := hbd3.out
         generalize e.f5[i3] = a at *
         obtain ⟨v5, na5, nh5, hF5, hM5, hO5, h5a, h5h⟩ := hst3.out
         have hal := below_alloc (Below.refl wr.heap.size wr) (.cells #[.int .i64 a.f0, .string a.f1, .int .i64 a.f2, .slice Y3 a.f3.length d3, .int .i64 a.f4.f0, .string a.f4.f1, .int .i64 a.f4.f2, .slice X3 a.f4.f3.length e3, .slice X4 a.f4.f4.length e4, .slice X5 a.f4.f5.length e5] 40)
         have hBs : w0.heap.size ≤ wr.heap.size := hBw.size
         have hMa := hM5.trans (Mod.of_below hal (FP pb ab hb v)) (fun _ _ hj => hj)
         have hFa := hF5.below hal
         have hBa := hBw.trans (hal.mono hBs)
         obtain ⟨hn1, bB, ba, bh, bo⟩ := hbnd.out
         have hceq := hcost.out
         have hb30 := hb3.out
         have C1 := bind_st hFa (Mod.refl _ (FP pb ab hb v5)) (fun j hj => .inl hj) hBa a.f3 g3 hod.1.1 (c := d3) 1 (by decide) (addk_in a.f3 B) (by omega) (by omega)
         have hbk : (wr.alloc (.cells #[.int .i64 a.f0, .string a.f1, .int .i64 a.f2, .slice Y3 a.f3.length d3, .int .i64 a.f4.f0, .string a.f4.f1, .int .i64 a.f4.f2, .slice X3 a.f4.f3.length e3, .slice X4 a.f4.f4.length e4, .slice X5 a.f4.f5.length e5] 40)).heap[wr.heap.size]? = some (.cells #[.int .i64 a.f0, .string a.f1, .int .i64 a.f2, .slice Y3 a.f3.length d3, .int .i64 a.f4.f0, .string a.f4.f1, .int .i64 a.f4.f2, .slice X3 a.f4.f3.length e3, .slice X4 a.f4.f4.length e4, .slice X5 a.f4.f5.length e5] 40 (0, 0)) := blk_new wr _
         have hnk : ¬ FP pb ab hb v5 wr.heap.size := fun hh => by have := hF5.lt hh; omega
         have hsa : w0.heap.size ≤ (wr.alloc (.cells #[.int .i64 a.f0, .string a.f1, .int .i64 a.f2, .slice Y3 a.f3.length d3, .int .i64 a.f4.f0, .string a.f4.f1, .int .i64 a.f4.f2, .slice X3 a.f4.f3.length e3, .slice X4 a.f4.f4.length e4, .slice X5 a.f4.f5.length e5] 40)).heap.size := Nat.le_trans hBs hal.size
         have hMa := Aside0.mk hMa
         have hFa := Aside0.mk hFa
         have hBa := Aside0.mk hBa
         have hO5 := Aside0.mk hO5
         have hbk := Aside0.mk hbk
         have hnk := Aside0.mk hnk
         have hsa := Aside0.mk hsa
         have hg := Aside0.mk (And.intro g3 (And.intro g4 (And.intro g5 g6)))
         have hod := Aside0.mk hod
         have hbb := Aside0.mk (And.intro hcl (And.intro hdr (And.intro hfl (And.intro hb2 (And.intro hb3.out (And.intro h5a (And.intro h5h (And.intro hcost.out hbnd.out))))))))
         clear hBw g3 g4 g5 g6 hdr hcl hfl hb2 hF5 hM5 hal hBs h5a h5h hn1 bB ba bh bo hceq hb30
         go_wp2_with (first | (go_at_call 55; go_loud (with_reducible refine C1.mono ?_); rintro r w5 ⟨rfl, hst5⟩; have HT5 := Aside0.mk hst5; have hw5 := St.blk hst5 hbk.out hnk.out; have hy4 := (blk_cell hw5 4).trans rfl; have hy5 := (blk_cell hw5 5).trans rfl; have hy6 := (blk_cell hw5 6).trans rfl; have hy7 := (blk_cell hw5 7).trans rfl; have hy8 := (blk_cell hw5 8).trans rfl; have hy9 := (blk_cell hw5 9).trans rfl; clear hst5 C1 hw5 hv0 hv1 hv2 hv3 hv4 hv5 hv6 hv7 hv8 hv9; have C2 := step_x (ih a.f4 (by have := hbb.out; omega)) hFa.out hBa.out hsa.out HT5.out hod.out.1.2 (by have := hbb.out; rw [List.length_append]; omega) (by have := hbb.out; omega) (by have := hbb.out; omega) (by have := hbb.out; omega) hg.out.2.1 hg.out.2.2.1 hg.out.2.2.2 e3 e4 e5) | (go_at_call 38; go_loud (with_reducible refine C2.mono ?_); rintro r w6 ⟨rfl, hst6⟩; have HT6 := Aside0.mk hst6; have hz3 := (blk_cell (St.blk hst6 hbk.out hnk.out) 3).trans rfl; clear hst6 C2 hy4 hy5 hy6 hy7 hy8 hy9; have C3 := step_b hFa.out hBa.out hsa.out a.f3 HT6.out hg.out.1 hod.out.1.1 d3 (by have := hbb.out; rw [List.length_append]; omega) (by have := hbb.out; omega)) | (go_at_call 55; go_loud (with_reducible refine C3.mono ?_); rintro r w7 ⟨rfl, hst7⟩; have HT7 := Aside0.mk (St.comp hMa.out hO5.out hst7); clear hst7 C3 hz3))
         go_roundg (gk - 1)
         case measure => omega
         case rel => exact ⟨i3 + 1, fx a.f4 (a.f3 ++ B) o2, na5 + a.f3.length + cost a.f4 + a.f3.length, nh5 + cost a.f4, by go_num, by omega, by omega, hsd, ⟨hod.out.2⟩, HT7, ⟨by have := hbb.out; omega, by have := hbb.out; omega, by have := hbb.out; omega⟩⟩
        ·have q1 : decide ((i3 : Int) < (e.f5.length : Int)) = false := decide_eq_false (by omega)
         have hd0 : e.f5.drop i3 = [] := List.drop_eq_nil_of_le (by omega)
         have hso3 : o2 = fxA e.f5 B o := by rw [← hs3.out, hd0]; simp only [fxA]
         have hb4 := hbd3.out
         rw [hd0] at hb4
         simp only [costA, Nat.add_zero] at hb4
         have hfin : Aside0 (St W wr w0.heap.size pb ab hb v B (fx e B out) (na + cost e) (nh + cost e)) := ⟨by
          rw [hone.out, ← hso, ← hso3]
          exact (St.comp (Mod.of_below hbl9.out _) (fun j hj => .inl hj) hst3.out).mono (by have := hb3.out; have := hcost.out; omega) (by have := hb3.out; have := hcost.out; omega)⟩
         go_wp2
         refine bodyPost_end (v := .tuple #[]) (by simp [results, Tryd.results38, go_sem]) rfl ?_
         exact ⟨rfl, hfin.out⟩
   ·have q2 : (cnt B e.f1 == 0) = false := by
     have : ¬ cnt B e.f1 = 0 := fun h => y2 ((cnt_zero B e.f1).1 h)
     simpa using this
    refine start_ (n := 23) (S := fun w' => w'.cell? ⟨W.heap.size, 0, none⟩ = some (.int .i64 e.f0) ∧ w'.cell? ⟨W.heap.size, 1, none⟩ = some (.string e.f1) ∧ w'.cell? ⟨pb, 0, none⟩ = some (.map (some ab)) ∧ (Instr.lookup 59 (.map (some ab)) (.string e.f1) false).run Tryd.prog w' = .ok (.int .i64 (cnt B e.f1)) w') (ds := []) (bm 23 0) (by kernel_rfl) rfl rfl ⟨K0.out, K1.out, KA.out, KL.out⟩ (fun hHeld => ?_)
    generalize (W.alloc (.cells #[.int .i64 e.f0, .string e.f1, .int .i64 e.f2, .slice A3 e.f3.length c3, .slice A4 e.f4.length c4, .slice A5 e.f5.length c5] 33)).drew = W9 at *
    refine pure_ (i := 0) (N := some 8) (v := ?_) (a' := ?_) (bm 23 1) rfl rfl (by kernel_rfl) (fun _ _ _ h => h) (Or.inl ⟨by rfl, ?_⟩) ?_ ?_
    rotate_left
    ·intro w'
     go_simp
     with_reducible rfl
    rotate_left
    ·simp only [Act.put, sA, sB, sC, i64_w, i32_w]
     rfl
    refine take_ (i := 1) (N := some 9) (v := ?_) (a' := ?_) (bm 23 3) rfl rfl (by kernel_rfl) (fun _ _ _ h => h) (Or.inl ⟨by rfl, ?_⟩) hHeld ?_ ?_
    rotate_left
    ·rintro w' ⟨s0, s1, s2, s3⟩
     go_simp
     with_reducible rfl
    rotate_left
    ·simp only [Act.put, sA, sB, sC, i64_w, i32_w]
     rfl
    refine pure_ (i := 2) (N := some 10) (v := ?_) (a' := ?_) (bm 23 7) rfl rfl (by kernel_rfl) (fun _ _ _ h => h) (Or.inl ⟨by rfl, ?_⟩) ?_ ?_
    rotate_left
    ·intro w'
     go_simp
     with_reducible rfl
    rotate_left
    ·simp only [Act.put, sA, sB, sC, i64_w, i32_w]
     rfl
    refine pure_ (i := 3) (N := some 11) (v := ?_) (a' := ?_) (bm 23 15) rfl rfl (by kernel_rfl) (fun _ _ _ h => h) (Or.inl ⟨by rfl, ?_⟩) ?_ ?_
    rotate_left
    ·intro w'
     go_simp
     with_reducible rfl
    rotate_left
    ·simp only [Act.put, sA, sB, sC, i64_w, i32_w]
     rfl
    refine pure_ (i := 4) (N := some 12) (v := ?_) (a' := ?_) (bm 23 31) rfl rfl (by kernel_rfl) (fun _ _ _ h => h) (Or.inl ⟨by rfl, ?_⟩) ?_ ?_
    rotate_left
    ·intro w'
     go_simp
     with_reducible rfl
    rotate_left
    ·simp only [Act.put, sA, sB, sC, i64_w, i32_w]
     rfl
    refine pure_ (i := 5) (N := some 13) (v := ?_) (a' := ?_) (bm 23 63) rfl rfl (by kernel_rfl) (fun _ _ _ h => h) (Or.inl ⟨by rfl, ?_⟩) ?_ ?_
    rotate_left
    ·intro w'
     go_simp
     with_reducible rfl
    rotate_left
    ·simp only [Act.put, sA, sB, sC, i64_w, i32_w]
     rfl
    refine pure_ (i := 6) (N := some 14) (v := ?_) (a' := ?_) (bm 23 127) rfl rfl (by kernel_rfl) (fun _ _ _ h => h) (Or.inl ⟨by rfl, ?_⟩) ?_ ?_
    rotate_left
    ·intro w'
     go_simp
     with_reducible rfl
    rotate_left
    ·simp only [Act.put, sA, sB, sC, i64_w, i32_w]
     rfl
    refine pure_ (i := 8) (N := some 16) (v := ?_) (a' := ?_) (bm 23 383) rfl rfl (by kernel_rfl) (fun _ _ _ h => h) (Or.inl ⟨by rfl, ?_⟩) ?_ ?_
    rotate_left
    ·intro w'
     go_simp
     with_reducible rfl
    rotate_left
    ·simp only [Act.put, sA, sB, sC, i64_w, i32_w]
     rfl
    refine take_ (i := 7) (N := some 15) (v := ?_) (a' := ?_) (bm 23 511) rfl rfl (by kernel_rfl) (fun _ _ _ h => h) (Or.inl ⟨by rfl, ?_⟩) hHeld ?_ ?_
    rotate_left
    ·rintro w' ⟨s0, s1, s2, s3⟩
     go_simp
     with_reducible rfl
    rotate_left
    ·simp only [Act.put, sA, sB, sC, i64_w, i32_w]
     rfl
    refine take_ (i := 9) (N := some 17) (v := ?_) (a' := ?_) (bm 23 1023) rfl rfl (by kernel_rfl) (fun _ _ _ h => h) (Or.inl ⟨by rfl, ?_⟩) hHeld ?_ ?_
    rotate_left
    ·rintro w' ⟨s0, s1, s2, s3⟩
     go_simp
     with_reducible rfl
    rotate_left
    ·simp only [Act.put, sA, sB, sC, i64_w, i32_w]
     rfl
    refine take_ (i := 10) (N := some 18) (v := ?_) (a' := ?_) (bm 23 2047) rfl rfl (by kernel_rfl) (fun _ _ _ h => h) (Or.inl ⟨by rfl, ?_⟩) hHeld ?_ ?_
    rotate_left
    ·rintro w' ⟨s0, s1, s2, s3⟩
     go_simp
     with_reducible rfl
    rotate_left
    ·simp only [Act.put, sA, sB, sC, i64_w, i32_w]
     rfl
    refine pure_ (i := 11) (N := some 19) (v := ?_) (a' := ?_) (bm 23 4095) rfl rfl (by kernel_rfl) (fun _ _ _ h => h) (Or.inl ⟨by rfl, ?_⟩) ?_ ?_
    rotate_left
    ·intro w'
     go_simp
     with_reducible rfl
    rotate_left
    ·simp only [Act.put, sA, sB, sC, i64_w, i32_w]
     rfl
    refine pure_ (i := 12) (N := some 20) (v := ?_) (a' := ?_) (bm 23 8191) rfl rfl (by kernel_rfl) (fun _ _ _ h => h) (Or.inl ⟨by rfl, ?_⟩) ?_ ?_
    rotate_left
    ·intro w'
     go_simp
     with_reducible rfl
    rotate_left
    ·simp only [Act.put, sA, sB, sC, i64_w, i32_w]
     rfl
    refine pure_ (i := 13) (N := some 21) (v := ?_) (a' := ?_) (bm 23 16383) rfl rfl (by kernel_rfl) (fun _ _ _ h => h) (Or.inl ⟨by rfl, ?_⟩) ?_ ?_
    rotate_left
    ·intro w'
     go_simp
     with_reducible rfl
    rotate_left
    ·simp only [Act.put, sA, sB, sC, i64_w, i32_w]
     rfl
    refine pure_ (i := 14) (N := some 22) (v := undef) (a' := ?_) (bm 23 32767) rfl rfl (by kernel_rfl) (fun _ _ _ h => h) (Or.inr ⟨by rfl, rfl⟩) ?_ ?_
    rotate_left
    ·simp only [Act.put, sA, sB, sC, i64_w, i32_w]
     rfl
    refine pure_ (i := 15) (N := some 23) (v := undef) (a' := ?_) (bm 23 65535) rfl rfl (by kernel_rfl) (fun _ _ _ h => h) (Or.inr ⟨by rfl, rfl⟩) ?_ ?_
    rotate_left
    ·simp only [Act.put, sA, sB, sC, i64_w, i32_w]
     rfl
    refine pure_ (i := 16) (N := some 24) (v := undef) (a' := ?_) (bm 23 131071) rfl rfl (by kernel_rfl) (fun _ _ _ h => h) (Or.inr ⟨by rfl, rfl⟩) ?_ ?_
    rotate_left
    ·simp only [Act.put, sA, sB, sC, i64_w, i32_w]
     rfl
    refine pure_ (i := 17) (N := some 25) (v := undef) (a' := ?_) (bm 23 262143) rfl rfl (by kernel_rfl) (fun _ _ _ h => h) (Or.inr ⟨by rfl, rfl⟩) ?_ ?_
    rotate_left
    ·simp only [Act.put, sA, sB, sC, i64_w, i32_w]
     rfl
    refine pure_ (i := 18) (N := some 26) (v := undef) (a' := ?_) (bm 23 524287) rfl rfl (by kernel_rfl) (fun _ _ _ h => h) (Or.inr ⟨by rfl, rfl⟩) ?_ ?_
    rotate_left
    ·simp only [Act.put, sA, sB, sC, i64_w, i32_w]
     rfl
    refine pure_ (i := 19) (N := some 27) (v := undef) (a' := ?_) (bm 23 1048575) rfl rfl (by kernel_rfl) (fun _ _ _ h => h) (Or.inr ⟨by rfl, rfl⟩) ?_ ?_
    rotate_left
    ·simp only [Act.put, sA, sB, sC, i64_w, i32_w]
     rfl
    refine pure_ (i := 20) (N := some 28) (v := undef) (a' := ?_) (bm 23 2097151) rfl rfl (by kernel_rfl) (fun _ _ _ h => h) (Or.inr ⟨by rfl, rfl⟩) ?_ ?_
    rotate_left
    ·simp only [Act.put, sA, sB, sC, i64_w, i32_w]
     rfl
    refine pure_ (i := 21) (N := some 29) (v := undef) (a' := ?_) (bm 23 4194303) rfl rfl (by kernel_rfl) (fun _ _ _ h => h) (Or.inr ⟨by rfl, rfl⟩) ?_ ?_
    rotate_left
    ·simp only [Act.put, sA, sB, sC, i64_w, i32_w]
     rfl
    refine pure_ (i := 22) (N := some 30) (v := ?_) (a' := ?_) (bm 23 8388607) rfl rfl (by kernel_rfl) (fun _ _ _ h => h) (Or.inl ⟨by rfl, ?_⟩) ?_ ?_
    rotate_left
    ·intro w'
     go_simp
     with_reducible rfl
    rotate_left
    ·simp only [Act.put, sA, sB, sC, i64_w, i32_w]
     rfl
    refine done_ (by kernel_rfl) ?_
    have hF9 := hF1
    have hB9 := hB1
    have hbl9 := hbl
    have hbx9 := hbx
    have hnb9 := hnb
    have hsz9 : Aside0 (w0.heap.size ≤ W9.heap.size) := ⟨hB9.out.size⟩
    have ho1 : one e B out = out := by unfold one; rw [if_neg (by intro h; exact y2 h.2.1)]
    have hFr : Aside0 (FS W9 w0.heap.size pb ab hb v na nh (cnt B) (memI (one e B out)) (one e B out)) := ⟨by rw [ho1]; exact hF9.out⟩
    have hMr := Aside0.mk (Mod.refl W9 (FP pb ab hb v))
    have hOr : Aside0 (∀ j, v.ownBlock = some j → v.ownBlock = some j ∨ W9.heap.size ≤ j) := ⟨fun j hj => .inl hj⟩
    have hBr := hB9
    have hbxc := hbx9
    have hnh : Aside0 (nh ≤ nh + 1) := ⟨Nat.le_succ _⟩
    have hlen1 : Aside0 ((one e B out).length ≤ out.length + 1) := ⟨by rw [ho1]; omega⟩
    clear hF1 hB1 hbl hbx hnb hsz K0 K1 KA KH KL KM ho1
    clear hHeld
    obtain ⟨hn1, bB, ba, bh, bo⟩ := hbnd.out
    have hceq := hcost.out
    have hx3 := (blk_cell hbxc.out 3).trans rfl
    have CB := bind_st hFr.out hMr.out hOr.out hBr.out e.f3 hC3.out hok3.out (c := c3) 1 (by decide) (addk_in e.f3 B) (by omega) (by omega)
    go_wp2_with (first | (go_at_call 55; go_loud (with_reducible refine CB.mono ?_); rintro r w2 ⟨rfl, hst2⟩; have HS2 := Aside0.mk hst2; have hx4 := (blk_cell (St.blk hst2 hbx9.out hnb9.out) 4).trans rfl; clear hst2 CB hx3))
    clear hx4
    go_loopg [55] (e.f4.length + 1) (fun kq v55 w' => ∃ (i : Nat) (o : List ByteArray) (ca ch : Nat), v55 = .int .i64 (i : Int) ∧ i + kq = e.f4.length + 1 ∧ 1 ≤ kq ∧ Aside0 (fxL (e.f4.drop i) (e.f3 ++ B) o = fxL e.f4 (e.f3 ++ B) (one e B out)) ∧ Aside0 (okL (e.f4.drop i) = true) ∧ Aside0 (St W9 w' w0.heap.size pb ab hb v (e.f3 ++ B) o ca ch) ∧ Aside0 (ca + costL (e.f4.drop i) ≤ na + e.f3.length + costL e.f4 ∧ ch + costL (e.f4.drop i) ≤ nh + 1 + costL e.f4 ∧ o.length + costL (e.f4.drop i) ≤ out.length + 1 + costL e.f4))
    case atStart => exact ⟨0, one e B out, na + e.f3.length, nh + 1, rfl, by omega, by omega, ⟨rfl⟩, hok4, ⟨HS2.out.mono (Nat.le_refl _) hnh.out⟩, ⟨by simp, by simp, by have := hlen1.out; simp only [List.drop_zero]; omega⟩⟩
    case round =>
     obtain ⟨i, o, ca, ch, rfl, hi, hk, hs, hol, hst, hbd⟩ := hrel
     by_cases hlt : i < e.f4.length
     ·have hBw := hB9.out.trans (St.below hst.out hF9.out hsz9.out)
      obtain ⟨ad, X3, d3, X4, d4, X5, d5, rfl, hv0, hv1, hv2, hv3, hv4, hv5, g3, g4, g5⟩ := at_e hBw hC4.out i hlt
      have p0 : (0 : Int) ≤ (i : Int) := by omega
      have q0 : (i : Int) < (e.f4.length : Int) := by omega
      have q1 : decide ((i : Int) < (e.f4.length : Int)) = true := decide_eq_true q0
      have hdr := costL_drop hlt
      have hcl := costL_le hlt
      have hod := okL_drop hlt hol.out
      have hsd : Aside0 (fxL (e.f4.drop (i + 1)) (e.f3 ++ B) (fx e.f4[i] (e.f3 ++ B) o) = fxL e.f4 (e.f3 ++ B) (one e B out)) := ⟨by rw [← hs.out, List.drop_eq_getElem_cons hlt]; simp only [fxL]⟩
      have hfl := fx_len e.f4[i] (e.f3 ++ B) o
      have hb2 := hbd.out
      generalize e.f4[i] = x at *
      have hal := below_alloc (Below.refl wr.heap.size wr) (.cells #[.int .i64 x.f0, .string x.f1, .int .i64 x.f2, .slice X3 x.f3.length d3, .slice X4 x.f4.length d4, .slice X5 x.f5.length d5] 33)
      have CX := step_x (ih x (by omega)) hF9.out hB9.out hsz9.out (hst.out.alloc hal) hod.1 (by rw [List.length_append]; omega) (by omega) (by omega) (by omega) g3 g4 g5 d3 d4 d5
      have hbb := Aside0.mk (And.intro hdr (And.intro hfl hb2))
      have hod2 := Aside0.mk hod.2
      clear hBw g3 g4 g5 hdr hcl hod hfl hb2 hal hceq hn1 bB ba bh bo
      go_wp2_with (first | (go_at_call 38; go_loud (with_reducible refine CX.mono ?_); rintro r w3 ⟨rfl, hst3⟩; have HS3 := Aside0.mk hst3; clear hst3 CX))
      go_roundg (gk - 1)
      case measure => omega
      case rel => exact ⟨i + 1, fx x (e.f3 ++ B) o, ca + cost x, ch + cost x, by go_num, by omega, by omega, hsd, hod2, HS3, ⟨by have := hbb.out; omega, by have := hbb.out; omega, by have := hbb.out; omega⟩⟩
     ·have q1 : decide ((i : Int) < (e.f4.length : Int)) = false := decide_eq_false (by omega)
      have hd0 : e.f4.drop i = [] := List.drop_eq_nil_of_le (by omega)
      have hso : o = fxL e.f4 (e.f3 ++ B) (one e B out) := by rw [← hs.out, hd0]; simp only [fxL]
      have hb2 := hbd.out
      rw [hd0] at hb2
      simp only [costL, Nat.add_zero] at hb2
      have hBw := hB9.out.trans (St.below hst.out hF9.out hsz9.out)
      have hx3 := (blk_cell (St.blk hst.out hbx9.out hnb9.out) 3).trans rfl
      have CB := step_b hF9.out hB9.out hsz9.out e.f3 hst.out hC3.out hok3.out c3 (by rw [List.length_append]; omega) (by omega)
      have hb3 := Aside0.mk hb2
      clear hbd hb2 hd0 hBw hs hol hst hceq hn1 bB ba bh bo
      go_wp2_with (first | (go_at_call 55; go_loud (with_reducible refine CB.mono ?_); rintro r w4 ⟨rfl, hst4⟩; have HS4 := Aside0.mk hst4; have hx5 := (blk_cell (St.blk hst4 hbx9.out hnb9.out) 5).trans rfl; clear hst4 CB hx3))
      clear hx5
      go_loopg [70] (e.f5.length + 1) (fun kq v70 w' => ∃ (i : Nat) (o2 : List ByteArray) (ca3 ch3 : Nat), v70 = .int .i64 (i : Int) ∧ i + kq = e.f5.length + 1 ∧ 1 ≤ kq ∧ Aside0 (fxA (e.f5.drop i) B o2 = fxA e.f5 B o) ∧ Aside0 (okA (e.f5.drop i) = true) ∧ Aside0 (St W9 w' w0.heap.size pb ab hb v B o2 ca3 ch3) ∧ Aside0 (ca3 + costA (e.f5.drop i) ≤ ca + e.f3.length + costA e.f5 ∧ ch3 + costA (e.f5.drop i) ≤ ch + costA e.f5 ∧ o2.length + costA (e.f5.drop i) ≤ o.length + costA e.f5))
      case atStart => exact ⟨0, o, ca + e.f3.length, ch, rfl, by omega, by omega, ⟨rfl⟩, hok5, HS4, ⟨by simp, by simp, by simp⟩⟩
      case round =>
       obtain ⟨i3, o2, ca3, ch3, rfl, hi3, hk3, hs3, hol3, hst3, hbd3⟩ := hrel
       by_cases hlt3 : i3 < e.f5.length
       ·have hBw := hB9.out.trans (St.below hst3.out hF9.out hsz9.out)
        obtain ⟨ad, Y3, d3, X3, e3, X4, e4, X5, e5, rfl, hv0, hv1, hv2, hv3, hv4, hv5, hv6, hv7, hv8, hv9, g3, g4, g5, g6⟩ := at_a hBw hC5.out i3 hlt3
        have p0 : (0 : Int) ≤ (i3 : Int) := by omega
        have q0 : (i3 : Int) < (e.f5.length : Int) := by omega
        have q1 : decide ((i3 : Int) < (e.f5.length : Int)) = true := decide_eq_true q0
        have hdr := costA_drop hlt3
        have hcl := costA_le hlt3
        have hod := okA_drop hlt3 hol3.out
        have hsd : Aside0 (fxA (e.f5.drop (i3 + 1)) B (fx e.f5[i3].f4 (e.f5[i3].f3 ++ B) o2) = fxA e.f5 B o) := ⟨by rw [← hs3.out, List.drop_eq_getElem_cons hlt3, fxA_cons]⟩
        have hfl := fx_len e.f5[i3].f4 (e.f5[i3].f3 ++ B) o2
        have hb2 := hbd3.out
        generalize e.f5[i3] = a at *
        obtain ⟨v5, na5, nh5, hF5, hM5, hO5, h5a, h5h⟩ := hst3.out
        have hal := below_alloc (Below.refl wr.heap.size wr) (.cells #[.int .i64 a.f0, .string a.f1, .int .i64 a.f2, .slice Y3 a.f3.length d3, .int .i64 a.f4.f0, .string a.f4.f1, .int .i64 a.f4.f2, .slice X3 a.f4.f3.length e3, .slice X4 a.f4.f4.length e4, .slice X5 a.f4.f5.length e5] 40)
        have hBs : w0.heap.size ≤ wr.heap.size := hBw.size
        have hMa := hM5.trans (Mod.of_below hal (FP pb ab hb v)) (fun _ _ hj => hj)
        have hFa := hF5.below hal
        have hBa := hBw.trans (hal.mono hBs)
        obtain ⟨hn1, bB, ba, bh, bo⟩ := hbnd.out
        have hceq := hcost.out
        have hb30 := hb3.out
        have C1 := bind_st hFa (Mod.refl _ (FP pb ab hb v5)) (fun j hj => .inl hj) hBa a.f3 g3 hod.1.1 (c := d3) 1 (by decide) (addk_in a.f3 B) (by omega) (by omega)
        have hbk : (wr.alloc (.cells #[.int .i64 a.f0, .string a.f1, .int .i64 a.f2, .slice Y3 a.f3.length d3, .int .i64 a.f4.f0, .string a.f4.f1, .int .i64 a.f4.f2, .slice X3 a.f4.f3.length e3, .slice X4 a.f4.f4.length e4, .slice X5 a.f4.f5.length e5] 40)).heap[wr.heap.size]? = some (.cells #[.int .i64 a.f0, .string a.f1, .int .i64 a.f2, .slice Y3 a.f3.length d3, .int .i64 a.f4.f0, .string a.f4.f1, .int .i64 a.f4.f2, .slice X3 a.f4.f3.length e3, .slice X4 a.f4.f4.length e4, .slice X5 a.f4.f5.length e5] 40 (0, 0)) := blk_new wr _
        have hnk : ¬ FP pb ab hb v5 wr.heap.size := fun hh => by have := hF5.lt hh; omega
        have hsa : w0.heap.size ≤ (wr.alloc (.cells #[.int .i64 a.f0, .string a.f1, .int .i64 a.f2, .slice Y3 a.f3.length d3, .int .i64 a.f4.f0, .string a.f4.f1, .int .i64 a.f4.f2, .slice X3 a.f4.f3.length e3, .slice X4 a.f4.f4.length e4, .slice X5 a.f4.f5.length e5] 40)).heap.size := Nat.le_trans hBs hal.size
        have hMa := Aside0.mk hMa
        have hFa := Aside0.mk hFa
        have hBa := Aside0.mk hBa
        have hO5 := Aside0.mk hO5
        have hbk := Aside0.mk hbk
        have hnk := Aside0.mk hnk
        have hsa := Aside0.mk hsa
        have hg := Aside0.mk (And.intro g3 (And.intro g4 (And.intro g5 g6)))
        have hod := Aside0.mk hod
        have hbb := Aside0.mk (And.intro hcl (And.intro hdr (And.intro hfl (And.intro hb2 (And.intro hb3.out (And.intro h5a (And.intro h5h (And.intro hcost.out hbnd.out))))))))
        clear hBw g3 g4 g5 g6 hdr hcl hfl hb2 hF5 hM5 hal hBs h5a h5h hn1 bB ba bh bo hceq hb30
        go_wp2_with (first | (go_at_call 55; go_loud (with_reducible refine C1.mono ?_); rintro r w5 ⟨rfl, hst5⟩; have HT5 := Aside0.mk hst5; have hw5 := St.blk hst5 hbk.out hnk.out; have hy4 := (blk_cell hw5 4).trans rfl; have hy5 := (blk_cell hw5 5).trans rfl; have hy6 := (blk_cell hw5 6).trans rfl; have hy7 := (blk_cell hw5 7).trans rfl; have hy8 := (blk_cell hw5 8).trans rfl; have hy9 := (blk_cell hw5 9).trans rfl; clear hst5 C1 hw5 hv0 hv1 hv2 hv3 hv4 hv5 hv6 hv7 hv8 hv9; have C2 := step_x (ih a.f4 (by have := hbb.out; omega)) hFa.out hBa.out hsa.out HT5.out hod.out.1.2 (by have := hbb.out; rw [List.length_append]; omega) (by have := hbb.out; omega) (by have := hbb.out; omega) (by have := hbb.out; omega) hg.out.2.1 hg.out.2.2.1 hg.out.2.2.2 e3 e4 e5) | (go_at_call 38; go_loud (with_reducible refine C2.mono ?_); rintro r w6 ⟨rfl, hst6⟩; have HT6 := Aside0.mk hst6; have hz3 := (blk_cell (St.blk hst6 hbk.out hnk.out) 3).trans rfl; clear hst6 C2 hy4 hy5 hy6 hy7 hy8 hy9; have C3 := step_b hFa.out hBa.out hsa.out a.f3 HT6.out hg.out.1 hod.out.1.1 d3 (by have := hbb.out; rw [List.length_append]; omega) (by have := hbb.out; omega)) | (go_at_call 55; go_loud (with_reducible refine C3.mono ?_); rintro r w7 ⟨rfl, hst7⟩; have HT7 := Aside0.mk (St.comp hMa.out hO5.out hst7); clear hst7 C3 hz3))
        go_roundg (gk - 1)
        case measure => omega
        case rel => exact ⟨i3 + 1, fx a.f4 (a.f3 ++ B) o2, na5 + a.f3.length + cost a.f4 + a.f3.length, nh5 + cost a.f4, by go_num, by omega, by omega, hsd, ⟨hod.out.2⟩, HT7, ⟨by have := hbb.out; omega, by have := hbb.out; omega, by have := hbb.out; omega⟩⟩
       ·have q1 : decide ((i3 : Int) < (e.f5.length : Int)) = false := decide_eq_false (by omega)
        have hd0 : e.f5.drop i3 = [] := List.drop_eq_nil_of_le (by omega)
        have hso3 : o2 = fxA e.f5 B o := by rw [← hs3.out, hd0]; simp only [fxA]
        have hb4 := hbd3.out
        rw [hd0] at hb4
        simp only [costA, Nat.add_zero] at hb4
        have hfin : Aside0 (St W wr w0.heap.size pb ab hb v B (fx e B out) (na + cost e) (nh + cost e)) := ⟨by
         rw [hone.out, ← hso, ← hso3]
         exact (St.comp (Mod.of_below hbl9.out _) (fun j hj => .inl hj) hst3.out).mono (by have := hb3.out; have := hcost.out; omega) (by have := hb3.out; have := hcost.out; omega)⟩
        go_wp2
        refine bodyPost_end (v := .tuple #[]) (by simp [results, Tryd.results38, go_sem]) rfl ?_
        exact ⟨rfl, hfin.out⟩
  ·have q1 : (e.f0 == 1) = false := by simpa using y1
   refine start_ (n := 23) (S := fun w' => w'.cell? ⟨W.heap.size, 0, none⟩ = some (.int .i64 e.f0)) (ds := []) (bm 23 0) (by kernel_rfl) rfl rfl (K0.out) (fun hHeld => ?_)
   generalize (W.alloc (.cells #[.int .i64 e.f0, .string e.f1, .int .i64 e.f2, .slice A3 e.f3.length c3, .slice A4 e.f4.length c4, .slice A5 e.f5.length c5] 33)).drew = W9 at *
   refine pure_ (i := 0) (N := some 8) (v := ?_) (a' := ?_) (bm 23 1) rfl rfl (by kernel_rfl) (fun _ _ _ h => h) (Or.inl ⟨by rfl, ?_⟩) ?_ ?_
   rotate_left
   ·intro w'
    go_simp
    with_reducible rfl
   rotate_left
   ·simp only [Act.put, sA, sB, sC, i64_w, i32_w]
    rfl
   refine take_ (i := 1) (N := some 9) (v := ?_) (a' := ?_) (bm 23 3) rfl rfl (by kernel_rfl) (fun _ _ _ h => h) (Or.inl ⟨by rfl, ?_⟩) hHeld ?_ ?_
   rotate_left
   ·intro w' s0
    go_simp
    with_reducible rfl
   rotate_left
   ·simp only [Act.put, sA, sB, sC, i64_w, i32_w]
    rfl
   refine pure_ (i := 2) (N := some 10) (v := ?_) (a' := ?_) (bm 23 7) rfl rfl (by kernel_rfl) (fun _ _ _ h => h) (Or.inl ⟨by rfl, ?_⟩) ?_ ?_
   rotate_left
   ·intro w'
    go_simp
    with_reducible rfl
   rotate_left
   ·simp only [Act.put, sA, sB, sC, i64_w, i32_w]
    rfl
   refine pure_ (i := 3) (N := some 11) (v := ?_) (a' := ?_) (bm 23 15) rfl rfl (by kernel_rfl) (fun _ _ _ h => h) (Or.inl ⟨by rfl, ?_⟩) ?_ ?_
   rotate_left
   ·intro w'
    go_simp
    with_reducible rfl
   rotate_left
   ·simp only [Act.put, sA, sB, sC, i64_w, i32_w]
    rfl
   refine pure_ (i := 4) (N := some 12) (v := undef) (a' := ?_) (bm 23 31) rfl rfl (by kernel_rfl) (fun _ _ _ h => h) (Or.inr ⟨by rfl, rfl⟩) ?_ ?_
   rotate_left
   ·simp only [Act.put, sA, sB, sC, i64_w, i32_w]
    rfl
   refine pure_ (i := 5) (N := some 13) (v := undef) (a' := ?_) (bm 23 63) rfl rfl (by kernel_rfl) (fun _ _ _ h => h) (Or.inr ⟨by rfl, rfl⟩) ?_ ?_
   rotate_left
   ·simp only [Act.put, sA, sB, sC, i64_w, i32_w]
    rfl
   refine pure_ (i := 6) (N := some 14) (v := undef) (a' := ?_) (bm 23 127) rfl rfl (by kernel_rfl) (fun _ _ _ h => h) (Or.inr ⟨by rfl, rfl⟩) ?_ ?_
   rotate_left
   ·simp only [Act.put, sA, sB, sC, i64_w, i32_w]
    rfl
   refine pure_ (i := 7) (N := some 15) (v := undef) (a' := ?_) (bm 23 255) rfl rfl (by kernel_rfl) (fun _ _ _ h => h) (Or.inr ⟨by rfl, rfl⟩) ?_ ?_
   rotate_left
   ·simp only [Act.put, sA, sB, sC, i64_w, i32_w]
    rfl
   refine pure_ (i := 8) (N := some 16) (v := undef) (a' := ?_) (bm 23 511) rfl rfl (by kernel_rfl) (fun _ _ _ h => h) (Or.inr ⟨by rfl, rfl⟩) ?_ ?_
   rotate_left
   ·simp only [Act.put, sA, sB, sC, i64_w, i32_w]
    rfl
   refine pure_ (i := 9) (N := some 17) (v := undef) (a' := ?_) (bm 23 1023) rfl rfl (by kernel_rfl) (fun _ _ _ h => h) (Or.inr ⟨by rfl, rfl⟩) ?_ ?_
   rotate_left
   ·simp only [Act.put, sA, sB, sC, i64_w, i32_w]
    rfl
   refine pure_ (i := 10) (N := some 18) (v := undef) (a' := ?_) (bm 23 2047) rfl rfl (by kernel_rfl) (fun _ _ _ h => h) (Or.inr ⟨by rfl, rfl⟩) ?_ ?_
   rotate_left
   ·simp only [Act.put, sA, sB, sC, i64_w, i32_w]
    rfl
   refine pure_ (i := 11) (N := some 19) (v := undef) (a' := ?_) (bm 23 4095) rfl rfl (by kernel_rfl) (fun _ _ _ h => h) (Or.inr ⟨by rfl, rfl⟩) ?_ ?_
   rotate_left
   ·simp only [Act.put, sA, sB, sC, i64_w, i32_w]
    rfl
   refine pure_ (i := 12) (N := some 20) (v := ?_) (a' := ?_) (bm 23 8191) rfl rfl (by kernel_rfl) (fun _ _ _ h => h) (Or.inl ⟨by rfl, ?_⟩) ?_ ?_
   rotate_left
   ·intro w'
    go_simp
    with_reducible rfl
   rotate_left
   ·simp only [Act.put, sA, sB, sC, i64_w, i32_w]
    rfl
   refine pure_ (i := 13) (N := some 21) (v := ?_) (a' := ?_) (bm 23 16383) rfl rfl (by kernel_rfl) (fun _ _ _ h => h) (Or.inl ⟨by rfl, ?_⟩) ?_ ?_
   rotate_left
   ·intro w'
    go_simp
    with_reducible rfl
   rotate_left
   ·simp only [Act.put, sA, sB, sC, i64_w, i32_w]
    rfl
   refine pure_ (i := 14) (N := some 22) (v := undef) (a' := ?_) (bm 23 32767) rfl rfl (by kernel_rfl) (fun _ _ _ h => h) (Or.inr ⟨by rfl, rfl⟩) ?_ ?_
   rotate_left
   ·simp only [Act.put, sA, sB, sC, i64_w, i32_w]
    rfl
   refine pure_ (i := 15) (N := some 23) (v := undef) (a' := ?_) (bm 23 65535) rfl rfl (by kernel_rfl) (fun _ _ _ h => h) (Or.inr ⟨by rfl, rfl⟩) ?_ ?_
   rotate_left
   ·simp only [Act.put, sA, sB, sC, i64_w, i32_w]
    rfl
   refine pure_ (i := 16) (N := some 24) (v := undef) (a' := ?_) (bm 23 131071) rfl rfl (by kernel_rfl) (fun _ _ _ h => h) (Or.inr ⟨by rfl, rfl⟩) ?_ ?_
   rotate_left
   ·simp only [Act.put, sA, sB, sC, i64_w, i32_w]
    rfl
   refine pure_ (i := 17) (N := some 25) (v := undef) (a' := ?_) (bm 23 262143) rfl rfl (by kernel_rfl) (fun _ _ _ h => h) (Or.inr ⟨by rfl, rfl⟩) ?_ ?_
   rotate_left
   ·simp only [Act.put, sA, sB, sC, i64_w, i32_w]
    rfl
   refine pure_ (i := 18) (N := some 26) (v := undef) (a' := ?_) (bm 23 524287) rfl rfl (by kernel_rfl) (fun _ _ _ h => h) (Or.inr ⟨by rfl, rfl⟩) ?_ ?_
   rotate_left
   ·simp only [Act.put, sA, sB, sC, i64_w, i32_w]
    rfl
   refine pure_ (i := 19) (N := some 27) (v := undef) (a' := ?_) (bm 23 1048575) rfl rfl (by kernel_rfl) (fun _ _ _ h => h) (Or.inr ⟨by rfl, rfl⟩) ?_ ?_
   rotate_left
   ·simp only [Act.put, sA, sB, sC, i64_w, i32_w]
    rfl
   refine pure_ (i := 20) (N := some 28) (v := undef) (a' := ?_) (bm 23 2097151) rfl rfl (by kernel_rfl) (fun _ _ _ h => h) (Or.inr ⟨by rfl, rfl⟩) ?_ ?_
   rotate_left
   ·simp only [Act.put, sA, sB, sC, i64_w, i32_w]
    rfl
   refine pure_ (i := 21) (N := some 29) (v := undef) (a' := ?_) (bm 23 4194303) rfl rfl (by kernel_rfl) (fun _ _ _ h => h) (Or.inr ⟨by rfl, rfl⟩) ?_ ?_
   rotate_left
   ·simp only [Act.put, sA, sB, sC, i64_w, i32_w]
    rfl
   refine pure_ (i := 22) (N := some 30) (v := ?_) (a' := ?_) (bm 23 8388607) rfl rfl (by kernel_rfl) (fun _ _ _ h => h) (Or.inl ⟨by rfl, ?_⟩) ?_ ?_
   rotate_left
   ·intro w'
    go_simp
    with_reducible rfl
   rotate_left
   ·simp only [Act.put, sA, sB, sC, i64_w, i32_w]
    rfl
   refine done_ (by kernel_rfl) ?_
   have hF9 := hF1
   have hB9 := hB1
   have hbl9 := hbl
   have hbx9 := hbx
   have hnb9 := hnb
   have hsz9 : Aside0 (w0.heap.size ≤ W9.heap.size) := ⟨hB9.out.size⟩
   have ho1 : one e B out = out := by unfold one; rw [if_neg (by intro h; exact y1 h.1)]
   have hFr : Aside0 (FS W9 w0.heap.size pb ab hb v na nh (cnt B) (memI (one e B out)) (one e B out)) := ⟨by rw [ho1]; exact hF9.out⟩
   have hMr := Aside0.mk (Mod.refl W9 (FP pb ab hb v))
   have hOr : Aside0 (∀ j, v.ownBlock = some j → v.ownBlock = some j ∨ W9.heap.size ≤ j) := ⟨fun j hj => .inl hj⟩
   have hBr := hB9
   have hbxc := hbx9
   have hnh : Aside0 (nh ≤ nh + 1) := ⟨Nat.le_succ _⟩
   have hlen1 : Aside0 ((one e B out).length ≤ out.length + 1) := ⟨by rw [ho1]; omega⟩
   clear hF1 hB1 hbl hbx hnb hsz K0 K1 KA KH KL KM ho1
   clear hHeld
   obtain ⟨hn1, bB, ba, bh, bo⟩ := hbnd.out
   have hceq := hcost.out
   have hx3 := (blk_cell hbxc.out 3).trans rfl
   have CB := bind_st hFr.out hMr.out hOr.out hBr.out e.f3 hC3.out hok3.out (c := c3) 1 (by decide) (addk_in e.f3 B) (by omega) (by omega)
   go_wp2_with (first | (go_at_call 55; go_loud (with_reducible refine CB.mono ?_); rintro r w2 ⟨rfl, hst2⟩; have HS2 := Aside0.mk hst2; have hx4 := (blk_cell (St.blk hst2 hbx9.out hnb9.out) 4).trans rfl; clear hst2 CB hx3))
   clear hx4
   go_loopg [55] (e.f4.length + 1) (fun kq v55 w' => ∃ (i : Nat) (o : List ByteArray) (ca ch : Nat), v55 = .int .i64 (i : Int) ∧ i + kq = e.f4.length + 1 ∧ 1 ≤ kq ∧ Aside0 (fxL (e.f4.drop i) (e.f3 ++ B) o = fxL e.f4 (e.f3 ++ B) (one e B out)) ∧ Aside0 (okL (e.f4.drop i) = true) ∧ Aside0 (St W9 w' w0.heap.size pb ab hb v (e.f3 ++ B) o ca ch) ∧ Aside0 (ca + costL (e.f4.drop i) ≤ na + e.f3.length + costL e.f4 ∧ ch + costL (e.f4.drop i) ≤ nh + 1 + costL e.f4 ∧ o.length + costL (e.f4.drop i) ≤ out.length + 1 + costL e.f4))
   case atStart => exact ⟨0, one e B out, na + e.f3.length, nh + 1, rfl, by omega, by omega, ⟨rfl⟩, hok4, ⟨HS2.out.mono (Nat.le_refl _) hnh.out⟩, ⟨by simp, by simp, by have := hlen1.out; simp only [List.drop_zero]; omega⟩⟩
   case round =>
    obtain ⟨i, o, ca, ch, rfl, hi, hk, hs, hol, hst, hbd⟩ := hrel
    by_cases hlt : i < e.f4.length
    ·have hBw := hB9.out.trans (St.below hst.out hF9.out hsz9.out)
     obtain ⟨ad, X3, d3, X4, d4, X5, d5, rfl, hv0, hv1, hv2, hv3, hv4, hv5, g3, g4, g5⟩ := at_e hBw hC4.out i hlt
     have p0 : (0 : Int) ≤ (i : Int) := by omega
     have q0 : (i : Int) < (e.f4.length : Int) := by omega
     have q1 : decide ((i : Int) < (e.f4.length : Int)) = true := decide_eq_true q0
     have hdr := costL_drop hlt
     have hcl := costL_le hlt
     have hod := okL_drop hlt hol.out
     have hsd : Aside0 (fxL (e.f4.drop (i + 1)) (e.f3 ++ B) (fx e.f4[i] (e.f3 ++ B) o) = fxL e.f4 (e.f3 ++ B) (one e B out)) := ⟨by rw [← hs.out, List.drop_eq_getElem_cons hlt]; simp only [fxL]⟩
     have hfl := fx_len e.f4[i] (e.f3 ++ B) o
     have hb2 := hbd.out
     generalize e.f4[i] = x at *
     have hal := below_alloc (Below.refl wr.heap.size wr) (.cells #[.int .i64 x.f0, .string x.f1, .int .i64 x.f2, .slice X3 x.f3.length d3, .slice X4 x.f4.length d4, .slice X5 x.f5.length d5] 33)
     have CX := step_x (ih x (by omega)) hF9.out hB9.out hsz9.out (hst.out.alloc hal) hod.1 (by rw [List.length_append]; omega) (by omega) (by omega) (by omega) g3 g4 g5 d3 d4 d5
     have hbb := Aside0.mk (And.intro hdr (And.intro hfl hb2))
     have hod2 := Aside0.mk hod.2
     clear hBw g3 g4 g5 hdr hcl hod hfl hb2 hal hceq hn1 bB ba bh bo
     go_wp2_with (first | (go_at_call 38; go_loud (with_reducible refine CX.mono ?_); rintro r w3 ⟨rfl, hst3⟩; have HS3 := Aside0.mk hst3; clear hst3 CX))
     go_roundg (gk - 1)
     case measure => omega
     case rel => exact ⟨i + 1, fx x (e.f3 ++ B) o, ca + cost x, ch + cost x, by go_num, by omega, by omega, hsd, hod2, HS3, ⟨by have := hbb.out; omega, by have := hbb.out; omega, by have := hbb.out; omega⟩⟩
    ·have q1 : decide ((i : Int) < (e.f4.length : Int)) = false := decide_eq_false (by omega)
     have hd0 : e.f4.drop i = [] := List.drop_eq_nil_of_le (by omega)
     have hso : o = fxL e.f4 (e.f3 ++ B) (one e B out) := by rw [← hs.out, hd0]; simp only [fxL]
     have hb2 := hbd.out
     rw [hd0] at hb2
     simp only [costL, Nat.add_zero] at hb2
     have hBw := hB9.out.trans (St.below hst.out hF9.out hsz9.out)
     have hx3 := (blk_cell (St.blk hst.out hbx9.out hnb9.out) 3).trans rfl
     have CB := step_b hF9.out hB9.out hsz9.out e.f3 hst.out hC3.out hok3.out c3 (by rw [List.length_append]; omega) (by omega)
     have hb3 := Aside0.mk hb2
     clear hbd hb2 hd0 hBw hs hol hst hceq hn1 bB ba bh bo
     go_wp2_with (first | (go_at_call 55; go_loud (with_reducible refine CB.mono ?_); rintro r w4 ⟨rfl, hst4⟩; have HS4 := Aside0.mk hst4; have hx5 := (blk_cell (St.blk hst4 hbx9.out hnb9.out) 5).trans rfl; clear hst4 CB hx3))
     clear hx5
     go_loopg [70] (e.f5.length + 1) (fun kq v70 w' => ∃ (i : Nat) (o2 : List ByteArray) (ca3 ch3 : Nat), v70 = .int .i64 (i : Int) ∧ i + kq = e.f5.length + 1 ∧ 1 ≤ kq ∧ Aside0 (fxA (e.f5.drop i) B o2 = fxA e.f5 B o) ∧ Aside0 (okA (e.f5.drop i) = true) ∧ Aside0 (St W9 w' w0.heap.size pb ab hb v B o2 ca3 ch3) ∧ Aside0 (ca3 + costA (e.f5.drop i) ≤ ca + e.f3.length + costA e.f5 ∧ ch3 + costA (e.f5.drop i) ≤ ch + costA e.f5 ∧ o2.length + costA (e.f5.drop i) ≤ o.length + costA e.f5))
     case atStart => exact ⟨0, o, ca + e.f3.length, ch, rfl, by omega, by omega, ⟨rfl⟩, hok5, HS4, ⟨by simp, by simp, by simp⟩⟩
     case round =>
      obtain ⟨i3, o2, ca3, ch3, rfl, hi3, hk3, hs3, hol3, hst3, hbd3⟩ := hrel
      by_cases hlt3 : i3 < e.f5.length
      ·have hBw := hB9.out.trans (St.below hst3.out hF9.out hsz9.out)
       obtain ⟨ad, Y3, d3, X3, e3, X4, e4, X5, e5, rfl, hv0, hv1, hv2, hv3, hv4, hv5, hv6, hv7, hv8, hv9, g3, g4, g5, g6⟩ := at_a hBw hC5.out i3 hlt3
       have p0 : (0 : Int) ≤ (i3 : Int) := by omega
       have q0 : (i3 : Int) < (e.f5.length : Int) := by omega
       have q1 : decide ((i3 : Int) < (e.f5.length : Int)) = true := decide_eq_true q0
       have hdr := costA_drop hlt3
       have hcl := costA_le hlt3
       have hod := okA_drop hlt3 hol3.out
       have hsd : Aside0 (fxA (e.f5.drop (i3 + 1)) B (fx e.f5[i3].f4 (e.f5[i3].f3 ++ B) o2) = fxA e.f5 B o) := ⟨by rw [← hs3.out, List.drop_eq_getElem_cons hlt3, fxA_cons]⟩
       have hfl := fx_len e.f5[i3].f4 (e.f5[i3].f3 ++ B) o2
       have hb2 := hbd3.out
       generalize e.f5[i3] = a at *
       obtain ⟨v5, na5, nh5, hF5, hM5, hO5, h5a, h5h⟩ := hst3.out
       have hal := below_alloc (Below.refl wr.heap.size wr) (.cells #[.int .i64 a.f0, .string a.f1, .int .i64 a.f2, .slice Y3 a.f3.length d3, .int .i64 a.f4.f0, .string a.f4.f1, .int .i64 a.f4.f2, .slice X3 a.f4.f3.length e3, .slice X4 a.f4.f4.length e4, .slice X5 a.f4.f5.length e5] 40)
       have hBs : w0.heap.size ≤ wr.heap.size := hBw.size
       have hMa := hM5.trans (Mod.of_below hal (FP pb ab hb v)) (fun _ _ hj => hj)
       have hFa := hF5.below hal
       have hBa := hBw.trans (hal.mono hBs)
       obtain ⟨hn1, bB, ba, bh, bo⟩ := hbnd.out
       have hceq := hcost.out
       have hb30 := hb3.out
       have C1 := bind_st hFa (Mod.refl _ (FP pb ab hb v5)) (fun j hj => .inl hj) hBa a.f3 g3 hod.1.1 (c := d3) 1 (by decide) (addk_in a.f3 B) (by omega) (by omega)
       have hbk : (wr.alloc (.cells #[.int .i64 a.f0, .string a.f1, .int .i64 a.f2, .slice Y3 a.f3.length d3, .int .i64 a.f4.f0, .string a.f4.f1, .int .i64 a.f4.f2, .slice X3 a.f4.f3.length e3, .slice X4 a.f4.f4.length e4, .slice X5 a.f4.f5.length e5] 40)).heap[wr.heap.size]? = some (.cells #[.int .i64 a.f0, .string a.f1, .int .i64 a.f2, .slice Y3 a.f3.length d3, .int .i64 a.f4.f0, .string a.f4.f1, .int .i64 a.f4.f2, .slice X3 a.f4.f3.length e3, .slice X4 a.f4.f4.length e4, .slice X5 a.f4.f5.length e5] 40 (0, 0)) := blk_new wr _
       have hnk : ¬ FP pb ab hb v5 wr.heap.size := fun hh => by have := hF5.lt hh; omega
       have hsa : w0.heap.size ≤ (wr.alloc (.cells #[.int .i64 a.f0, .string a.f1, .int .i64 a.f2, .slice Y3 a.f3.length d3, .int .i64 a.f4.f0, .string a.f4.f1, .int .i64 a.f4.f2, .slice X3 a.f4.f3.length e3, .slice X4 a.f4.f4.length e4, .slice X5 a.f4.f5.length e5] 40)).heap.size := Nat.le_trans hBs hal.size
       have hMa := Aside0.mk hMa
       have hFa := Aside0.mk hFa
       have hBa := Aside0.mk hBa
       have hO5 := Aside0.mk hO5
       have hbk := Aside0.mk hbk
       have hnk := Aside0.mk hnk
       have hsa := Aside0.mk hsa
       have hg := Aside0.mk (And.intro g3 (And.intro g4 (And.intro g5 g6)))
       have hod := Aside0.mk hod
       have hbb := Aside0.mk (And.intro hcl (And.intro hdr (And.intro hfl (And.intro hb2 (And.intro hb3.out (And.intro h5a (And.intro h5h (And.intro hcost.out hbnd.out))))))))
       clear hBw g3 g4 g5 g6 hdr hcl hfl hb2 hF5 hM5 hal hBs h5a h5h hn1 bB ba bh bo hceq hb30
       go_wp2_with (first | (go_at_call 55; go_loud (with_reducible refine C1.mono ?_); rintro r w5 ⟨rfl, hst5⟩; have HT5 := Aside0.mk hst5; have hw5 := St.blk hst5 hbk.out hnk.out; have hy4 := (blk_cell hw5 4).trans rfl; have hy5 := (blk_cell hw5 5).trans rfl; have hy6 := (blk_cell hw5 6).trans rfl; have hy7 := (blk_cell hw5 7).trans rfl; have hy8 := (blk_cell hw5 8).trans rfl; have hy9 := (blk_cell hw5 9).trans rfl; clear hst5 C1 hw5 hv0 hv1 hv2 hv3 hv4 hv5 hv6 hv7 hv8 hv9; have C2 := step_x (ih a.f4 (by have := hbb.out; omega)) hFa.out hBa.out hsa.out HT5.out hod.out.1.2 (by have := hbb.out; rw [List.length_append]; omega) (by have := hbb.out; omega) (by have := hbb.out; omega) (by have := hbb.out; omega) hg.out.2.1 hg.out.2.2.1 hg.out.2.2.2 e3 e4 e5) | (go_at_call 38; go_loud (with_reducible refine C2.mono ?_); rintro r w6 ⟨rfl, hst6⟩; have HT6 := Aside0.mk hst6; have hz3 := (blk_cell (St.blk hst6 hbk.out hnk.out) 3).trans rfl; clear hst6 C2 hy4 hy5 hy6 hy7 hy8 hy9; have C3 := step_b hFa.out hBa.out hsa.out a.f3 HT6.out hg.out.1 hod.out.1.1 d3 (by have := hbb.out; rw [List.length_append]; omega) (by have := hbb.out; omega)) | (go_at_call 55; go_loud (with_reducible refine C3.mono ?_); rintro r w7 ⟨rfl, hst7⟩; have HT7 := Aside0.mk (St.comp hMa.out hO5.out hst7); clear hst7 C3 hz3))
       go_roundg (gk - 1)
       case measure => omega
       case rel => exact ⟨i3 + 1, fx a.f4 (a.f3 ++ B) o2, na5 + a.f3.length + cost a.f4 + a.f3.length, nh5 + cost a.f4, by go_num, by omega, by omega, hsd, ⟨hod.out.2⟩, HT7, ⟨by have := hbb.out; omega, by have := hbb.out; omega, by have := hbb.out; omega⟩⟩
      ·have q1 : decide ((i3 : Int) < (e.f5.length : Int)) = false := decide_eq_false (by omega)
       have hd0 : e.f5.drop i3 = [] := List.drop_eq_nil_of_le (by omega)
       have hso3 : o2 = fxA e.f5 B o := by rw [← hs3.out, hd0]; simp only [fxA]
       have hb4 := hbd3.out
       rw [hd0] at hb4
       simp only [costA, Nat.add_zero] at hb4
       have hfin : Aside0 (St W wr w0.heap.size pb ab hb v B (fx e B out) (na + cost e) (nh + cost e)) := ⟨by
        rw [hone.out, ← hso, ← hso3]
        exact (St.comp (Mod.of_below hbl9.out _) (fun j hj => .inl hj) hst3.out).mono (by have := hb3.out; have := hcost.out; omega) (by have := hb3.out; have := hcost.out; omega)⟩
       go_wp2
       refine bodyPost_end (v := .tuple #[]) (by simp [results, Tryd.results38, go_sem]) rfl ?_
       exact ⟨rfl, hfin.out⟩
set_option maxHeartbeats 8000000 in
set_option maxRecDepth 100000 in
theorem names_calls (e : S33) (w : World) (hok : okE e = true) (hc : cost e ≤ 100000000000) {A3 A4 A5 : Option Addr} {c3 c4 c5 : Nat} (hC3 : Kd.C Kd.string w A3 e.f3.length e.f3) (hC4 : Kd.C k33 w A4 e.f4.length e.f4) (hC5 : Kd.C k40 w A5 e.f5.length e.f5) :
  Calls Tryd.prog 15 #[.agg #[.int .i64 e.f0, .string e.f1, .int .i64 e.f2, .slice A3 e.f3.length c3, .slice A4 e.f4.length c4, .slice A5 e.f5.length c5]] w fun r w' => ∃ v0_ : Value, r = .returned v0_ ∧ Kd.R Kd.string 9 w' w.heap.size (fun _ => True) v0_ (fx e [] []) ∧ Below w.heap.size w w' := by
 have hmm := @run_makeMap Tryd.prog
 have E : ∀ W : World, ∀ o : Obj, (W.alloc o).heap.size = W.heap.size + 1 := fun W o => Array.size_push _
 have hb4 : Below w.heap.size w ((((w.alloc (.cells #[.int .i64 e.f0, .string e.f1, .int .i64 e.f2, .slice A3 e.f3.length c3, .slice A4 e.f4.length c4, .slice A5 e.f5.length c5] 33)).alloc (.map #[] 0)).alloc (.map #[] 0)).alloc (.cells #[.map (some (w.heap.size + 1)), .map (some (w.heap.size + 1 + 1)), .slice none 0 0] 61)) := below_alloc (below_alloc (below_alloc (below_alloc (Below.refl _ _) _) _) _) _
 have hF : FS ((((w.alloc (.cells #[.int .i64 e.f0, .string e.f1, .int .i64 e.f2, .slice A3 e.f3.length c3, .slice A4 e.f4.length c4, .slice A5 e.f5.length c5] 33)).alloc (.map #[] 0)).alloc (.map #[] 0)).alloc (.cells #[.map (some (w.heap.size + 1)), .map (some (w.heap.size + 1 + 1)), .slice none 0 0] 61)) w.heap.size (w.heap.size + 1 + 1 + 1) (w.heap.size + 1) (w.heap.size + 1 + 1) (.slice none 0 0) 0 0 (cnt []) (memI []) [] := by
  refine ⟨?_, ?_, ?_, Kd.R_nil _ _ _ _ _, ⟨by omega, by omega, by omega⟩, by omega⟩
  ·have h := blk_new (((w.alloc (.cells #[.int .i64 e.f0, .string e.f1, .int .i64 e.f2, .slice A3 e.f3.length c3, .slice A4 e.f4.length c4, .slice A5 e.f5.length c5] 33)).alloc (.map #[] 0)).alloc (.map #[] 0)) (.cells #[.map (some (w.heap.size + 1)), .map (some (w.heap.size + 1 + 1)), .slice none 0 0] 61 (0, 0))
   rwa [E, E, E] at h
  ·have h := MapS.made (w.alloc (.cells #[.int .i64 e.f0, .string e.f1, .int .i64 e.f2, .slice A3 e.f3.length c3, .slice A4 e.f4.length c4, .slice A5 e.f5.length c5] 33))
   rw [E] at h
   have h2 : w.heap.size + 1 < ((w.alloc (.cells #[.int .i64 e.f0, .string e.f1, .int .i64 e.f2, .slice A3 e.f3.length c3, .slice A4 e.f4.length c4, .slice A5 e.f5.length c5] 33)).alloc (.map #[] 0)).heap.size := by rw [E, E]; omega
   exact h.of_block ((Below.heap_alloc _ _ _ (by rw [E, E, E]; omega)).trans (Below.heap_alloc _ _ _ h2))
  ·have h := MapS.made ((w.alloc (.cells #[.int .i64 e.f0, .string e.f1, .int .i64 e.f2, .slice A3 e.f3.length c3, .slice A4 e.f4.length c4, .slice A5 e.f5.length c5] 33)).alloc (.map #[] 0))
   rw [E, E] at h
   exact h.of_block (Below.heap_alloc _ _ _ (by rw [E, E, E]; omega))
 have CX := expr_calls (cost e) e (Nat.le_refl _) hF hb4 hok (by simp; omega) (by omega) (by omega) (by simp; omega) hC3 hC4 hC5 (c3 := c3) (c4 := c4) (c5 := c5)
 have hF := Aside0.mk hF
 have hb4 := Aside0.mk hb4
 clear hok hc hC3 hC4 hC5
 go_enter Tryd.func15, Tryd.ntmps15
 go_wp2_with (first | (go_at_call 38; go_loud (with_reducible refine CX.mono ?_); rintro r w5 ⟨rfl, hst⟩; have HB := Aside0.mk (hb4.out.trans (St.below hst hF.out hb4.out.size)); obtain ⟨v5, na5, nh5, hF5, _⟩ := hst; have hc2 := hF5.cells.2.2.1; have HR := Aside0.mk hF5.row; clear hF5 CX))
 go_ret
 exact ⟨_, rfl, Kd.R_mono HR.out (fun _ _ => trivial), HB.out⟩
def add1 (o : List ByteArray) (s : ByteArray) : List ByteArray := if isIn o s = true then o else o ++ [s]
def putL (l o : List ByteArray) : List ByteArray := l.foldl add1 o
mutual
def bx : S33 → List ByteArray → List ByteArray
 | ⟨_, _, _, ns, l, al⟩, o => bxA al (bxL l (putL ns o))
def bxL : List S33 → List ByteArray → List ByteArray
 | [], o => o
 | e :: l, o => bxL l (bx e o)
def bxA : List S40 → List ByteArray → List ByteArray
 | [], o => o
 | ⟨_, _, _, ns, e⟩ :: l, o => bxA l (bx e (putL ns o))
end
theorem bx_eq (e : S33) (o : List ByteArray) : bx e o = bxA e.f5 (bxL e.f4 (putL e.f3 o)) := by cases e; simp only [bx]
theorem bxA_cons (a : S40) (l : List S40) (o : List ByteArray) : bxA (a :: l) o = bxA l (bx a.f4 (putL a.f3 o)) := by cases a; simp only [bxA]
theorem add1_len (o : List ByteArray) (s : ByteArray) : (add1 o s).length ≤ o.length + 1 := by unfold add1; split <;> simp
theorem putL_len : ∀ (l o : List ByteArray), (putL l o).length ≤ o.length + l.length
 | [], o => by simp [putL]
 | s :: l, o => by
  have h1 := add1_len o s
  have h2 := putL_len l (add1 o s)
  simp only [putL, List.foldl_cons, List.length_cons] at h2 ⊢
  omega
mutual
theorem bx_len : ∀ (e : S33) (o : List ByteArray), (bx e o).length ≤ o.length + cost e
 | ⟨op, nm, _, ns, l, al⟩, o => by
  simp only [bx, cost]
  have h1 := bxA_len al (bxL l (putL ns o))
  have h2 := bxL_len l (putL ns o)
  have h3 := putL_len ns o
  omega
theorem bxL_len : ∀ (l : List S33) (o : List ByteArray), (bxL l o).length ≤ o.length + costL l
 | [], o => by simp only [bxL, costL]; omega
 | e :: l, o => by
  simp only [bxL, costL]
  have h1 := bx_len e o
  have h2 := bxL_len l (bx e o)
  omega
theorem bxA_len : ∀ (l : List S40) (o : List ByteArray), (bxA l o).length ≤ o.length + costA l
 | [], o => by simp only [bxA, costA]; omega
 | ⟨_, _, _, ns, e⟩ :: l, o => by
  simp only [bxA, costA]
  have h1 := bx_len e (putL ns o)
  have h2 := bxA_len l (bx e (putL ns o))
  have h3 := putL_len ns o
  omega
end
structure BS (W : World) (base hb : Nat) (v : Value) (nh : Nat) (out : List ByteArray) : Prop where
 hm : MapS W hb nh (memI out)
 row : Kd.R Kd.string 9 W base (fun j => j ≠ hb) v out
 ge : base ≤ hb
structure CS (W : World) (base hb ob mb : Nat) (v : Value) (nh : Nat) (out : List ByteArray) : Prop where
 hm : MapS W hb nh (memI out)
 row : Kd.R Kd.string 9 W base (fun j => j ≠ hb ∧ j ≠ ob ∧ j ≠ mb) v out
 obk : W.heap[ob]? = some (.cells #[v] 22 (0, 0))
 mbk : W.heap[mb]? = some (.cells #[.map (some hb)] 59 (0, 0))
 ge : base ≤ hb
 om : ob ≠ mb
def FB (hb : Nat) (v : Value) (j : Nat) : Prop := j = hb ∨ v.ownBlock = some j
section
variable {W W1 : World} {base hb ob mb nh : Nat} {v v' : Value} {out out' : List ByteArray}
theorem CS.one (h : CS W base hb ob mb v nh out) : hb ≠ ob ∧ hb ≠ mb := by
 obtain ⟨es, c, hm⟩ := h.hm.blk
 constructor
 ·rintro rfl
  rw [h.obk] at hm
  cases hm
 ·rintro rfl
  rw [h.mbk] at hm
  cases hm
theorem BS.lt (h : BS W base hb v nh out) {j : Nat} (hj : FB hb v j) : j < W.heap.size := by
 rcases hj with rfl | hj
 ·exact h.hm.lt
 ·exact Kd.R_lt h.row j hj
theorem BS.fge (h : BS W base hb v nh out) {j : Nat} (hj : FB hb v j) : base ≤ j := by
 rcases hj with rfl | hj
 ·exact h.ge
 ·exact Kd.R_base h.row j hj
theorem BS.below (h : BS W base hb v nh out) (hbl : Below W.heap.size W W1) : BS W1 base hb v nh out :=
 ⟨h.hm.of_block (hbl.block _ h.hm.lt), Rs_step h.row (fun j hj => hbl.block j (Kd.R_lt h.row j hj)) (fun j hj => h.row.1 j hj), h.ge⟩
theorem CS.lt (h : CS W base hb ob mb v nh out) : hb < W.heap.size ∧ ob < W.heap.size ∧ mb < W.heap.size := ⟨h.hm.lt, (Array.getElem?_eq_some_iff.1 h.obk).1, (Array.getElem?_eq_some_iff.1 h.mbk).1⟩
theorem CS.bs (h : CS W base hb ob mb v nh out) : BS W base hb v nh out := ⟨h.hm, Kd.R_mono h.row (fun _ hj => hj.1), h.ge⟩
theorem CS.below (h : CS W base hb ob mb v nh out) (hbl : Below W.heap.size W W1) : CS W1 base hb ob mb v nh out :=
 ⟨h.hm.of_block (hbl.block _ h.hm.lt), Rs_step h.row (fun j hj => hbl.block j (Kd.R_lt h.row j hj)) (fun j hj => h.row.1 j hj), (hbl.block _ h.lt.2.1).trans h.obk, (hbl.block _ h.lt.2.2).trans h.mbk, h.ge, h.om⟩
theorem CS.putM (h : CS W base hb ob mb v nh out) (hM : MapS W1 hb (nh + 1) (memI out')) (hg : W.grownBy W1 (some hb)) : MapS W1 hb (nh + 1) (memI out') ∧ Kd.R Kd.string 9 W1 base (fun j => j ≠ hb ∧ j ≠ ob ∧ j ≠ mb) v out ∧ W1.heap[ob]? = some (.cells #[v] 22 (0, 0)) ∧ W1.heap[mb]? = some (.cells #[.map (some hb)] 59 (0, 0)) :=
 ⟨hM, Rs_step h.row (fun j hj => hg.block j (Kd.R_lt h.row j hj) (fun e => (h.row.1 j hj).1 (Option.some.inj e))) (fun j hj => h.row.1 j hj), (hg.block _ h.lt.2.1 (fun e => h.one.1 (Option.some.inj e).symm)).trans h.obk, (hg.block _ h.lt.2.2 (fun e => h.one.2 (Option.some.inj e).symm)).trans h.mbk⟩
end
def SB (W w' : World) (base hb ob mb : Nat) (v0 : Value) (out : List ByteArray) (ch : Nat) : Prop :=
 ∃ A c nh, CS w' base hb ob mb (.slice A out.length c) nh out ∧ Mod W w' (fun j => FB hb v0 j ∨ j = ob) ∧ (∀ j, (Value.slice A out.length c).ownBlock = some j → v0.ownBlock = some j ∨ W.heap.size ≤ j) ∧ nh ≤ ch
theorem SB.below {W w' : World} {base hb ob mb ch nh : Nat} {v0 : Value} {out o0 : List ByteArray} (h : SB W w' base hb ob mb v0 out ch) (h0 : CS W base hb ob mb v0 nh o0) (hob : base ≤ ob) (hbs : base ≤ W.heap.size) : Below base W w' := by
 obtain ⟨A, c, n2, hc, hm, _⟩ := h
 refine hm.below hbs (fun j _ hj => ?_)
 rcases hj with hj | rfl
 ·exact h0.bs.fge hj
 ·exact hob
theorem SB.alloc {W w' w2 : World} {base hb ob mb ch : Nat} {v0 : Value} {out : List ByteArray} (h : SB W w' base hb ob mb v0 out ch) (hb2 : Below w'.heap.size w' w2) : SB W w2 base hb ob mb v0 out ch := by
 obtain ⟨A, c, n2, hc, hm, ho, hn⟩ := h
 exact ⟨A, c, n2, hc.below hb2, hm.trans (Mod.of_below hb2 (fun j => FB hb v0 j ∨ j = ob)) (fun _ _ hj => hj), ho, hn⟩
theorem SB.blk {W w' : World} {base hb ob mb ch b : Nat} {v0 : Value} {out : List ByteArray} {o : Obj} (h : SB W w' base hb ob mb v0 out ch) (hb' : W.heap[b]? = some o) (hn : ¬ (FB hb v0 b ∨ b = ob)) : w'.heap[b]? = some o := by
 obtain ⟨A, c, n2, hc, hm, _⟩ := h
 exact (hm.block b (Array.getElem?_eq_some_iff.1 hb').1 hn).trans hb'
theorem SB.comp {W w1 w2 : World} {base hb ob mb ch : Nat} {v0 v1 : Value} {out : List ByteArray} (hm : Mod W w1 (fun j => FB hb v0 j ∨ j = ob)) (ho : ∀ j, v1.ownBlock = some j → v0.ownBlock = some j ∨ W.heap.size ≤ j) (h : SB w1 w2 base hb ob mb v1 out ch) : SB W w2 base hb ob mb v0 out ch := by
 obtain ⟨A, c, n2, hc, hm2, ho2, hn⟩ := h
 refine ⟨A, c, n2, hc, hm.trans hm2 (fun j hj hfp => ?_), fun j hj => ?_, hn⟩
 ·rcases hfp with (rfl | hv) | rfl
  ·exact .inl (.inl rfl)
  ·rcases ho j hv with h | h
   ·exact .inl (.inr h)
   ·omega
  ·exact .inr rfl
 ·rcases ho2 j hj with h | h
  ·exact ho j h
  ·exact .inr (Nat.le_trans hm.size h)
theorem putL_drop {l o : List ByteArray} {i : Nat} (h : i < l.length) : putL (l.drop i) o = putL (l.drop (i + 1)) (add1 o l[i]) := by rw [List.drop_eq_getElem_cons h]; rfl
set_option maxHeartbeats 8000000 in
set_option maxRecDepth 100000 in
theorem put_calls {w0 W : World} {hb ob mb nh : Nat} {A0 : Option Addr} {c0 : Nat} {out : List ByteArray} (h : CS W w0.heap.size hb ob mb (.slice A0 out.length c0) nh out) (hob : w0.heap.size ≤ ob) (hB : Below w0.heap.size w0 W) (l : List ByteArray) {A : Option Addr} {c : Nat} (hC : Kd.C Kd.string w0 A l.length l) (hNS : nsz l = true) (hn : nh + l.length ≤ 1000000000000) (ho : out.length + l.length ≤ 1000000000000) :
  Calls Tryd.prog 56 #[.slice A l.length c, .pointer (some ⟨mb, 0, none⟩), .pointer (some ⟨ob, 0, none⟩)] W fun e W' => e = .returned (.tuple #[]) ∧ SB W W' w0.heap.size hb ob mb (.slice A0 out.length c0) (putL l out) (nh + l.length) := by
 have h9 := Aside0.mk h
 have hB9 := Aside0.mk hB
 have hC9 := Aside0.mk hC
 have hlen := hC.2.1
 have hNS := Aside0.mk (nsz_all hNS)
 have hob := Aside0.mk hob
 clear h hB hC
 go_enter Tryd.func56, Tryd.ntmps56
 go_wp2
 go_loopg [8] (l.length + 1) (fun kq v8 w' => ∃ (i : Nat) (o : List ByteArray), v8 = .int .i64 (i : Int) ∧ i + kq = l.length + 1 ∧ 1 ≤ kq ∧ Aside0 (putL (l.drop i) o = putL l out) ∧ Aside0 (o.length ≤ out.length + i) ∧ Aside0 (SB W w' w0.heap.size hb ob mb (.slice A0 out.length c0) o (nh + i)))
 case atStart => exact ⟨0, out, rfl, by omega, by omega, ⟨rfl⟩, ⟨Nat.le_refl _⟩, ⟨A0, c0, nh, h9.out, Mod.refl _ _, fun j hj => .inl hj, Nat.le_refl _⟩⟩
 case round =>
  obtain ⟨i, o, rfl, hi, hk, hs, hol, hst⟩ := hrel
  have hBw := hB9.out.trans (SB.below hst.out h9.out hob.out hB9.out.size)
  by_cases hlt : i < l.length
  ·obtain ⟨ad, rfl, hv⟩ := at_str (Kd.C_below hC9.out hBw) i hlt hlt
   have p0 : (0 : Int) ≤ (i : Int) := by omega
   have q0 : (i : Int) < (l.length : Int) := by omega
   have q1 : decide ((i : Int) < (l.length : Int)) = true := decide_eq_true q0
   have hns := hNS.out l[i] (List.getElem_mem hlt)
   have hs' : Aside0 (putL (l.drop (i + 1)) (add1 o l[i]) = putL l out) := ⟨by rw [← hs.out, putL_drop hlt]⟩
   have hal := add1_len o l[i]
   have hol1 := hol.out
   obtain ⟨A1, c1, n1, hc1, hm1, ho1, hn1⟩ := hst.out
   have hmc := (blk_cell hc1.mbk 0).trans rfl
   have hlk := hc1.hm.look hns
   generalize l[i] = s at *
   by_cases y1 : isIn o s = true
   ·have q2 : (memI o s == 0) = false := by unfold memI; rw [y1]; rfl
    have e1 : add1 o s = o := by unfold add1; rw [if_pos y1]
    rw [e1] at hs'
    have hst2 : Aside0 (SB W wr w0.heap.size hb ob mb (.slice A0 out.length c0) o (nh + (i + 1))) := ⟨⟨A1, c1, n1, hc1, hm1, ho1, by omega⟩⟩
    have hol2 : Aside0 (o.length ≤ out.length + (i + 1)) := ⟨by omega⟩
    clear hBw hns hal hol1 hc1 hm1 ho1 hn1 e1
    go_wp2
    go_roundg (gk - 1)
    case measure => omega
    case rel => exact ⟨i + 1, o, by go_num, by omega, by omega, hs', hol2, hst2⟩
   ·have q2 : (memI o s == 0) = true := by unfold memI; rw [if_neg y1]; rfl
    have e1 : add1 o s = o ++ [s] := by unfold add1; rw [if_neg y1]
    rw [e1] at hs' hal
    obtain ⟨W7, hst7, hM7, hg7⟩ := hc1.hm.store (by unfold maxLen; omega) hns 1
    rw [memI_upd] at hM7
    obtain ⟨p1, p2, p3, p4⟩ := hc1.putM hM7 hg7
    have hmc7 := (blk_cell p4 0).trans rfl
    have hoc7 := (blk_cell p3 0).trans rfl
    have hS7 : w0.heap.size ≤ W7.heap.size := Nat.le_trans hBw.size hg7.size
    have hlt7 : ∀ k, W7.heap.size ≤ k → k ≠ hb ∧ k ≠ ob ∧ k ≠ mb := fun k hk => by have := hc1.lt; have := hg7.size; omega
    have hL3 : (o.length + 1) * 16 ≤ 140737488355328 := by omega
    have hm7 : Mod W W7 (fun j => FB hb (.slice A0 out.length c0) j ∨ j = ob) := hm1.trans (Mod.of_grown hg7) (fun j _ hj => .inl (.inl hj))
    have p1 := Aside0.mk p1
    have p2 := Aside0.mk p2
    have p3 := Aside0.mk p3
    have p4 := Aside0.mk p4
    have hS7 := Aside0.mk hS7
    have hlt7 := Aside0.mk hlt7
    have hL3 := Aside0.mk hL3
    have hm7 := Aside0.mk hm7
    have ho1 := Aside0.mk ho1
    have hsz := Aside0.mk (Nat.le_trans hm1.size hg7.size)
    have hog := Aside0.mk (And.intro hc1.ge (And.intro hc1.om (And.intro hc1.one (And.intro hn1 (And.intro hal hol1)))))
    clear hBw hns hal hol1 hc1 hm1 hn1 e1 hM7 hg7
    go_wp2_with (first | ((with_reducible refine gate_builtin (b := .append) (xs := #[.tmp 18, .tmp 20]) rfl ?_); at_builtin; go_loud (refine Kd.R_append Kd.string (w0 := W7) w0.heap.size rfl (.tmp 18) (.tmp 20) 22 9 (.string ⟨#[]⟩) 16 rfl Tryd.underlying22 inf9 rfl (by decide) (by decide) (.slice A1 o.length c1) o s [.string s] (fun j => j ≠ hb ∧ j ≠ ob ∧ j ≠ mb) (fun _ => False) rfl rfl ?aP (fun _ hk => hk.elim) ?aF ?aO ?aB ?aS ?aL ?_); (case aP => exact rfl); (case aF => exact fun k hk => hlt7.out k hk); (case aO => exact p2.out); (case aB => exact Below.refl _ _); (case aS => exact hS7.out); (case aL => exact hL3.out); intro v3 w3 hr3 hb3 hg3 hat3; obtain ⟨A3, c3, hv3⟩ := Kd.R_slice hr3; rw [List.length_append, List.length_singleton] at hv3; subst hv3; have hbk3 := (hg3.block ob (Array.getElem?_eq_some_iff.1 p3.out).1 (fun e => (p2.out.1 ob e.symm).2.1 rfl)).trans p3.out; have hfz3 := blk_frozen hbk3 0; have hcz3 := (blk_cell hbk3 0).trans rfl; have hr3 := Aside0.mk hr3; have hg3 := Aside0.mk hg3; have hat3 := Aside0.mk hat3; clear hb3))
    have hst2 : Aside0 (SB W (w3.setCell ⟨ob, 0, none⟩ (.slice A3 (o.length + 1) c3)) w0.heap.size hb ob mb (.slice A0 out.length c0) (o ++ [s]) (nh + (i + 1))) := ⟨by
     have e : ∀ j, j ≠ ob → (w3.setCell ⟨ob, 0, none⟩ (.slice A3 (o.length + 1) c3)).heap[j]? = w3.heap[j]? := fun j hj => Below.heap_setCell w3 ⟨ob, 0, none⟩ _ j hj
     have hhb : w3.heap[hb]? = W7.heap[hb]? := hg3.out.block hb p1.out.lt (fun e => (p2.out.1 hb e.symm).1 rfl)
     have hmb : w3.heap[mb]? = W7.heap[mb]? := hg3.out.block mb (Array.getElem?_eq_some_iff.1 p4.out).1 (fun e => (p2.out.1 mb e.symm).2.2 rfl)
     refine ⟨A3, c3, n1 + 1, ⟨p1.out.of_block ((e hb hog.out.2.2.1.1).trans hhb), (by rw [List.length_append, List.length_singleton]; exact Rs_step hr3.out (fun j hj => e j (hr3.out.1 j hj).2.1) (fun j hj => hr3.out.1 j hj)), ?_, ((e mb hog.out.2.1.symm).trans hmb).trans p4.out, hog.out.1, hog.out.2.1⟩, ?_, ?_, by have := hog.out; omega⟩
     ·rw [List.length_append, List.length_singleton]
      exact blk_put hbk3 0 _ rfl
     ·refine (hm7.out.trans (Mod.of_own hg3.out) (fun j hj he => ?_)).trans (Mod.of_set _ _ _) (fun j _ hj => .inr hj)
      rcases ho1.out j he with h | h
      ·exact .inl (.inr h)
      ·omega
     ·intro j hj
      rw [List.length_append, List.length_singleton] at hj
      rcases hat3.out with hh | ⟨b3, hh, hle⟩
      ·exact ho1.out j (hh ▸ hj)
      ·rw [hh] at hj
       injection hj with hj
       exact .inr (hj ▸ Nat.le_trans hsz.out hle)⟩
    have hol2 : Aside0 ((o ++ [s]).length ≤ out.length + (i + 1)) := ⟨by have := hog.out; rw [List.length_append, List.length_singleton]; omega⟩
    clear hbk3 hfz3 hcz3 hr3 hg3 hat3 p1 p2 p3 p4 hS7 hlt7 hL3 hm7 ho1 hsz hog
    go_wp2
    go_roundg (gk - 1)
    case measure => omega
    case rel => exact ⟨i + 1, o ++ [s], by go_num, by omega, by omega, hs', hol2, hst2⟩
  ·have q1 : decide ((i : Int) < (l.length : Int)) = false := decide_eq_false (by omega)
   have hr := Aside0.mk (show o = putL l out by rw [← hs.out, List.drop_eq_nil_of_le (by omega)]; rfl)
   have hi2 : i = l.length := by omega
   subst hi2
   go_wp2
   refine bodyPost_end (v := .tuple #[]) (by simp [results, Tryd.results56, go_sem]) rfl ?_
   exact ⟨rfl, hr.out ▸ hst.out⟩
def YC (w0 : World) (e : S33) : Prop := ∀ {W : World} {hb nh : Nat} {out : List ByteArray} {A0 : Option Addr} {c0 : Nat}, BS W w0.heap.size hb (.slice A0 out.length c0) nh out → Below w0.heap.size w0 W → okE e = true → nh + cost e ≤ 100000000000 → out.length + cost e ≤ 100000000000 →
  ∀ {A3 A4 A5 : Option Addr} {c3 c4 c5 : Nat}, Kd.C Kd.string w0 A3 e.f3.length e.f3 → Kd.C k33 w0 A4 e.f4.length e.f4 → Kd.C k40 w0 A5 e.f5.length e.f5 →
  Calls Tryd.prog 40 #[.slice A0 out.length c0, .map (some hb), .agg #[.int .i64 e.f0, .string e.f1, .int .i64 e.f2, .slice A3 e.f3.length c3, .slice A4 e.f4.length c4, .slice A5 e.f5.length c5]] W fun r W' => ∃ A c nh', r = .returned (.slice A (bx e out).length c) ∧ BS W' w0.heap.size hb (.slice A (bx e out).length c) nh' (bx e out) ∧ Mod W W' (FB hb (.slice A0 out.length c0)) ∧ (∀ j, (Value.slice A (bx e out).length c).ownBlock = some j → (Value.slice A0 out.length c0).ownBlock = some j ∨ W.heap.size ≤ j) ∧ nh' ≤ nh + cost e
theorem step_p {w0 Wa w5 : World} {hb ob mb nh ch : Nat} {v : Value} {o0 o : List ByteArray} (hF : CS Wa w0.heap.size hb ob mb v nh o0) (hob : w0.heap.size ≤ ob) (hBa : Below w0.heap.size w0 Wa) (hsa : w0.heap.size ≤ Wa.heap.size) (hst : SB Wa w5 w0.heap.size hb ob mb v o ch) (l : List ByteArray) {A : Option Addr} (hC : Kd.C Kd.string w0 A l.length l) (hNS : nsz l = true) (hn : ch + l.length ≤ 1000000000000) (ho : o.length + l.length ≤ 1000000000000) (c : Nat) :
  Calls Tryd.prog 56 #[.slice A l.length c, .pointer (some ⟨mb, 0, none⟩), .pointer (some ⟨ob, 0, none⟩)] w5 fun e W' => e = .returned (.tuple #[]) ∧ SB Wa W' w0.heap.size hb ob mb v (putL l o) (ch + l.length) := by
 have hbw := hBa.trans (SB.below hst hF hob hsa)
 obtain ⟨A1, c1, n1, hc1, hm1, ho1, hn1⟩ := hst
 refine (put_calls hc1 hob hbw l hC hNS (by omega) ho).mono ?_
 rintro r W' ⟨rfl, h⟩
 obtain ⟨A2, c2, n2, h2⟩ := SB.comp hm1 ho1 h
 exact ⟨rfl, A2, c2, n2, h2.1, h2.2.1, h2.2.2.1, by have := h2.2.2.2; omega⟩
theorem step_y {w0 Wa w5 : World} {hb ob mb nh ch : Nat} {v : Value} {o0 o : List ByteArray} {e : S33} (hy : YC w0 e) (hF : CS Wa w0.heap.size hb ob mb v nh o0) (hob : w0.heap.size ≤ ob) (hBa : Below w0.heap.size w0 Wa) (hsa : w0.heap.size ≤ Wa.heap.size) (hst : SB Wa w5 w0.heap.size hb ob mb v o ch) (hok : okE e = true) (h1 : ch + cost e ≤ 100000000000) (h2 : o.length + cost e ≤ 100000000000)
  {A3 A4 A5 : Option Addr} (g3 : Kd.C Kd.string w0 A3 e.f3.length e.f3) (g4 : Kd.C k33 w0 A4 e.f4.length e.f4) (g5 : Kd.C k40 w0 A5 e.f5.length e.f5) (c3 c4 c5 : Nat) :
  ∃ A1 c1, w5.cell? ⟨ob, 0, none⟩ = some (.slice A1 o.length c1) ∧ w5.cell? ⟨mb, 0, none⟩ = some (.map (some hb)) ∧ Calls Tryd.prog 40 #[.slice A1 o.length c1, .map (some hb), .agg #[.int .i64 e.f0, .string e.f1, .int .i64 e.f2, .slice A3 e.f3.length c3, .slice A4 e.f4.length c4, .slice A5 e.f5.length c5]] w5 fun r W' => ∃ A c, r = .returned (.slice A (bx e o).length c) ∧ W'.cell? ⟨ob, 0, none⟩ = some (.slice A1 o.length c1) ∧ W'.frozen? ⟨ob, 0, none⟩ = false ∧ SB Wa (W'.setCell ⟨ob, 0, none⟩ (.slice A (bx e o).length c)) w0.heap.size hb ob mb v (bx e o) (ch + cost e) := by
 have hbw := hBa.trans (SB.below hst hF hob hsa)
 obtain ⟨A1, c1, n1, hc1, hm1, ho1, hn1⟩ := hst
 refine ⟨A1, c1, (blk_cell hc1.obk 0).trans rfl, (blk_cell hc1.mbk 0).trans rfl, (hy hc1.bs hbw hok (by omega) h2 g3 g4 g5).mono ?_⟩
 rintro r W' ⟨A, c, n2, rfl, hb2, hm2, ho2, hn2⟩
 have nb : ∀ j, (j = ob ∨ j = mb) → ¬ FB hb (.slice A1 o.length c1) j := by
  rintro j hj (rfl | hv)
  ·rcases hj with rfl | rfl
   ·exact hc1.one.1 rfl
   ·exact hc1.one.2 rfl
  ·have := hc1.row.1 j hv
   rcases hj with rfl | rfl
   ·exact this.2.1 rfl
   ·exact this.2.2 rfl
 have hob2 := (hm2.block ob hc1.lt.2.1 (nb ob (.inl rfl))).trans hc1.obk
 have hmb2 := (hm2.block mb hc1.lt.2.2 (nb mb (.inr rfl))).trans hc1.mbk
 refine ⟨A, c, rfl, (blk_cell hob2 0).trans rfl, blk_frozen hob2 0, A, c, n2, ?_, ?_, ?_, by omega⟩
 ·have eh : ∀ j, j ≠ ob → (W'.setCell ⟨ob, 0, none⟩ (.slice A (bx e o).length c)).heap[j]? = W'.heap[j]? := fun j hj => Below.heap_setCell W' ⟨ob, 0, none⟩ _ j hj
  have hne : ∀ j, (Value.slice A (bx e o).length c).ownBlock = some j → j ≠ ob ∧ j ≠ mb := by
   intro j hj
   rcases ho2 j hj with h | h
   ·exact (hc1.row.1 j h).2
   ·have := hc1.lt; omega
  refine ⟨hb2.hm.of_block (eh hb hc1.one.1), Rs_step hb2.row (fun j hj => eh j (hne j hj).1) (fun j hj => ⟨hb2.row.1 j hj, hne j hj⟩), blk_put hob2 0 _ rfl, (eh mb hc1.om.symm).trans hmb2, hb2.ge, hc1.om⟩
 ·refine (hm1.trans hm2 (fun j hj he => ?_)).trans (Mod.of_set _ _ _) (fun j _ hj => .inr hj)
  rcases he with rfl | hv
  ·exact .inl (.inl rfl)
  ·rcases ho1 j hv with h | h
   ·exact .inl (.inr h)
   ·omega
 ·intro j hj
  rcases ho2 j hj with h | h
  ·exact ho1 j h
  ·exact .inr (Nat.le_trans hm1.size h)
set_option maxHeartbeats 16000000 in
set_option maxRecDepth 100000 in
theorem bound_calls {w0 : World} : ∀ (n : Nat) (e : S33), cost e ≤ n → YC w0 e := by
 intro n
 induction n with
 | zero => intro e hc; rw [cost_eq] at hc; omega
 | succ n ih =>
  intro e hc W hb nh out A0 c0 h hB0 hok bh bo A3 A4 A5 c3 c4 c5 hC3 hC4 hC5
  have E : ∀ W : World, ∀ o : Obj, (W.alloc o).heap.size = W.heap.size + 1 := fun W o => Array.size_push _
  have hceq := cost_eq e
  rw [okE_eq] at hok
  simp only [Bool.and_eq_true, decide_eq_true_eq] at hok
  obtain ⟨⟨⟨hns0, hok3⟩, hok4⟩, hok5⟩ := hok
  have hl4 := hC4.2.1
  have hl5 := hC5.2.1
  have hok3 := Aside0.mk hok3
  have hok4 := Aside0.mk hok4
  have hok5 := Aside0.mk hok5
  have hC3 := Aside0.mk hC3
  have hC4 := Aside0.mk hC4
  have hC5 := Aside0.mk hC5
  have hbl : Below W.heap.size W (((W.alloc (.cells #[.slice A0 out.length c0] 22)).alloc (.cells #[.map (some hb)] 59)).alloc (.cells #[.int .i64 e.f0, .string e.f1, .int .i64 e.f2, .slice A3 e.f3.length c3, .slice A4 e.f4.length c4, .slice A5 e.f5.length c5] 33)) := below_alloc (below_alloc (below_alloc (Below.refl _ _) _) _) _
  have hcs : CS (((W.alloc (.cells #[.slice A0 out.length c0] 22)).alloc (.cells #[.map (some hb)] 59)).alloc (.cells #[.int .i64 e.f0, .string e.f1, .int .i64 e.f2, .slice A3 e.f3.length c3, .slice A4 e.f4.length c4, .slice A5 e.f5.length c5] 33)) w0.heap.size hb W.heap.size (W.heap.size + 1) (.slice A0 out.length c0) nh out := by
   have h1 := h.below hbl
   refine ⟨h1.hm, Rs_ok h1.row (fun j hj => ⟨h.row.1 j hj, by have := h.lt (.inr hj); omega, by have := h.lt (.inr hj); omega⟩), ?_, ?_, h.ge, by omega⟩
   ·have h2 := blk_new W (.cells #[.slice A0 out.length c0] 22 (0, 0))
    exact (Below.heap_alloc _ _ _ (by rw [E, E]; omega)).trans ((Below.heap_alloc _ _ _ (by rw [E]; omega)).trans h2)
   ·have h2 := blk_new (W.alloc (.cells #[.slice A0 out.length c0] 22)) (.cells #[.map (some hb)] 59 (0, 0))
    rw [E] at h2
    exact (Below.heap_alloc _ _ _ (by rw [E, E]; omega)).trans h2
  have hxb : (((W.alloc (.cells #[.slice A0 out.length c0] 22)).alloc (.cells #[.map (some hb)] 59)).alloc (.cells #[.int .i64 e.f0, .string e.f1, .int .i64 e.f2, .slice A3 e.f3.length c3, .slice A4 e.f4.length c4, .slice A5 e.f5.length c5] 33)).heap[W.heap.size + 1 + 1]? = some (.cells #[.int .i64 e.f0, .string e.f1, .int .i64 e.f2, .slice A3 e.f3.length c3, .slice A4 e.f4.length c4, .slice A5 e.f5.length c5] 33 (0, 0)) := by
   have h2 := blk_new ((W.alloc (.cells #[.slice A0 out.length c0] 22)).alloc (.cells #[.map (some hb)] 59)) (.cells #[.int .i64 e.f0, .string e.f1, .int .i64 e.f2, .slice A3 e.f3.length c3, .slice A4 e.f4.length c4, .slice A5 e.f5.length c5] 33 (0, 0))
   rwa [E, E] at h2
  have hnx : ¬ (FB hb (.slice A0 out.length c0) (W.heap.size + 1 + 1) ∨ W.heap.size + 1 + 1 = W.heap.size) := by
   rintro (hh | hh)
   ·have := h.lt hh; omega
   ·omega
  have hbl9 := Aside0.mk hbl
  have hcs9 := Aside0.mk hcs
  have hxb9 := Aside0.mk hxb
  have hnx9 := Aside0.mk hnx
  have hB9 := Aside0.mk (hB0.trans (hbl.mono hB0.size))
  have hob9 := Aside0.mk hB0.size
  have hsz9 := Aside0.mk (Nat.le_trans hB0.size hbl.size)
  have hcost := Aside0.mk hceq
  have hbnd := Aside0.mk (And.intro hc (And.intro bh bo))
  have hy3 := (blk_cell hxb 3).trans rfl
  have CP := step_p hcs hB0.size hB9.out hsz9.out ⟨A0, c0, nh, hcs, Mod.refl _ _, fun j hj => .inl hj, Nat.le_refl _⟩ e.f3 hC3.out hok3.out (by omega) (by omega) c3
  have hone : Aside0 (bx e out = bxA e.f5 (bxL e.f4 (putL e.f3 out))) := ⟨bx_eq e out⟩
  have hpl := Aside0.mk (putL_len e.f3 out)
  clear h hB0 hns0 hceq hc bh bo hbl hcs hxb hnx
  go_enter Tryd.func40, Tryd.ntmps40
  generalize hW9 : (((W.alloc (.cells #[.slice A0 out.length c0] 22)).alloc (.cells #[.map (some hb)] 59)).alloc (.cells #[.int .i64 e.f0, .string e.f1, .int .i64 e.f2, .slice A3 e.f3.length c3, .slice A4 e.f4.length c4, .slice A5 e.f5.length c5] 33)) = W9 at *
  have hW9' := Aside0.mk hW9
  go_wp2_with (first | (go_at_call 56; go_loud (with_reducible refine CP.mono ?_); rintro r w2 ⟨rfl, hst2⟩; have HS2 := Aside0.mk hst2; have hx4 := (blk_cell (SB.blk hst2 hxb9.out hnx9.out) 4).trans rfl; clear hst2 CP hy3))
  clear hx4
  go_loopg [20] (e.f4.length + 1) (fun kq v20 w' => ∃ (i : Nat) (o : List ByteArray) (ch : Nat), v20 = .int .i64 (i : Int) ∧ i + kq = e.f4.length + 1 ∧ 1 ≤ kq ∧ Aside0 (bxL (e.f4.drop i) o = bxL e.f4 (putL e.f3 out)) ∧ Aside0 (okL (e.f4.drop i) = true) ∧ Aside0 (SB W9 w' w0.heap.size hb W.heap.size (W.heap.size + 1) (.slice A0 out.length c0) o ch) ∧ Aside0 (ch + costL (e.f4.drop i) ≤ nh + e.f3.length + costL e.f4 ∧ o.length + costL (e.f4.drop i) ≤ out.length + e.f3.length + costL e.f4))
  case atStart => exact ⟨0, putL e.f3 out, nh + e.f3.length, rfl, by omega, by omega, ⟨rfl⟩, hok4, HS2, ⟨by simp, by have := hpl.out; simp only [List.drop_zero]; omega⟩⟩
  case round =>
   obtain ⟨i, o, ch, rfl, hi, hk, hs, hol, hst, hbd⟩ := hrel
   have hBw := hB9.out.trans (SB.below hst.out hcs9.out hob9.out hsz9.out)
   by_cases hlt : i < e.f4.length
   ·obtain ⟨ad, X3, d3, X4, d4, X5, d5, rfl, hv0, hv1, hv2, hv3, hv4, hv5, g3, g4, g5⟩ := at_e hBw hC4.out i hlt
    have p0 : (0 : Int) ≤ (i : Int) := by omega
    have q0 : (i : Int) < (e.f4.length : Int) := by omega
    have q1 : decide ((i : Int) < (e.f4.length : Int)) = true := decide_eq_true q0
    have hdr := costL_drop hlt
    have hcl := costL_le hlt
    have hod := okL_drop hlt hol.out
    have hsd : Aside0 (bxL (e.f4.drop (i + 1)) (bx e.f4[i] o) = bxL e.f4 (putL e.f3 out)) := ⟨by rw [← hs.out, List.drop_eq_getElem_cons hlt]; simp only [bxL]⟩
    have hfl := bx_len e.f4[i] o
    have hb2 := hbd.out
    have hceq := hcost.out
    obtain ⟨hn1, bh, bo⟩ := hbnd.out
    generalize e.f4[i] = x at *
    have hal := below_alloc (Below.refl wr.heap.size wr) (.cells #[.int .i64 x.f0, .string x.f1, .int .i64 x.f2, .slice X3 x.f3.length d3, .slice X4 x.f4.length d4, .slice X5 x.f5.length d5] 33)
    obtain ⟨A1, c1, hoc, hmc, CX⟩ := step_y (ih x (by omega)) hcs9.out hob9.out hB9.out hsz9.out (hst.out.alloc hal) hod.1 (by omega) (by omega) g3 g4 g5 d3 d4 d5
    have hbb := Aside0.mk (And.intro hdr (And.intro hfl hb2))
    have hod2 := Aside0.mk hod.2
    clear hBw g3 g4 g5 hdr hcl hod hfl hb2 hal hceq hn1 bh bo
    go_wp2_with (first | (go_at_call 40; go_loud (with_reducible refine CX.mono ?_); rintro r w3 ⟨A', c', rfl, hcc, hfz, hst3⟩; have HS3 := Aside0.mk hst3; clear hst3 CX hoc hmc))
    go_roundg (gk - 1)
    case measure => omega
    case rel => exact ⟨i + 1, bx x o, ch + cost x, by go_num, by omega, by omega, hsd, hod2, HS3, ⟨by have := hbb.out; omega, by have := hbb.out; omega⟩⟩
   ·have q1 : decide ((i : Int) < (e.f4.length : Int)) = false := decide_eq_false (by omega)
    have hd0 : e.f4.drop i = [] := List.drop_eq_nil_of_le (by omega)
    have hso : o = bxL e.f4 (putL e.f3 out) := by rw [← hs.out, hd0]; simp only [bxL]
    have hb3 := hbd.out
    rw [hd0] at hb3
    simp only [costL, Nat.add_zero] at hb3
    have hb3 := Aside0.mk hb3
    have hx5 := (blk_cell (SB.blk hst.out hxb9.out hnx9.out) 5).trans rfl
    have HS4 := hst
    clear hbd hd0 hBw hs hol hst
    go_wp2
    clear hx5
    go_loopg [32] (e.f5.length + 1) (fun kq v32 w' => ∃ (i : Nat) (o2 : List ByteArray) (ch3 : Nat), v32 = .int .i64 (i : Int) ∧ i + kq = e.f5.length + 1 ∧ 1 ≤ kq ∧ Aside0 (bxA (e.f5.drop i) o2 = bxA e.f5 o) ∧ Aside0 (okA (e.f5.drop i) = true) ∧ Aside0 (SB W9 w' w0.heap.size hb W.heap.size (W.heap.size + 1) (.slice A0 out.length c0) o2 ch3) ∧ Aside0 (ch3 + costA (e.f5.drop i) ≤ ch + costA e.f5 ∧ o2.length + costA (e.f5.drop i) ≤ o.length + costA e.f5))
    case atStart => exact ⟨0, o, ch, rfl, by omega, by omega, ⟨rfl⟩, hok5, HS4, ⟨by simp, by simp⟩⟩
    case round =>
     obtain ⟨i3, o2, ch3, rfl, hi3, hk3, hs3, hol3, hst3, hbd3⟩ := hrel
     have hBw := hB9.out.trans (SB.below hst3.out hcs9.out hob9.out hsz9.out)
     by_cases hlt3 : i3 < e.f5.length
     ·obtain ⟨ad, Y3, d3, X3, e3, X4, e4, X5, e5, rfl, hv0, hv1, hv2, hv3, hv4, hv5, hv6, hv7, hv8, hv9, g3, g4, g5, g6⟩ := at_a hBw hC5.out i3 hlt3
      have p0 : (0 : Int) ≤ (i3 : Int) := by omega
      have q0 : (i3 : Int) < (e.f5.length : Int) := by omega
      have q1 : decide ((i3 : Int) < (e.f5.length : Int)) = true := decide_eq_true q0
      have hdr := costA_drop hlt3
      have hcl := costA_le hlt3
      have hod := okA_drop hlt3 hol3.out
      have hsd : Aside0 (bxA (e.f5.drop (i3 + 1)) (bx e.f5[i3].f4 (putL e.f5[i3].f3 o2)) = bxA e.f5 o) := ⟨by rw [← hs3.out, List.drop_eq_getElem_cons hlt3, bxA_cons]⟩
      have hfl := bx_len e.f5[i3].f4 (putL e.f5[i3].f3 o2)
      have hpl2 := putL_len e.f5[i3].f3 o2
      have hb2 := hbd3.out
      have hceq := hcost.out
      have hb30 := hb3.out
      obtain ⟨hn1, bh, bo⟩ := hbnd.out
      generalize e.f5[i3] = a at *
      obtain ⟨A5', c5', n5, hF5, hM5, hO5, h5h⟩ := hst3.out
      have hal := below_alloc (Below.refl wr.heap.size wr) (.cells #[.int .i64 a.f0, .string a.f1, .int .i64 a.f2, .slice Y3 a.f3.length d3, .int .i64 a.f4.f0, .string a.f4.f1, .int .i64 a.f4.f2, .slice X3 a.f4.f3.length e3, .slice X4 a.f4.f4.length e4, .slice X5 a.f4.f5.length e5] 40)
      have hBs : w0.heap.size ≤ wr.heap.size := hBw.size
      have hMa := hM5.trans (Mod.of_below hal (fun j => FB hb (.slice A0 out.length c0) j ∨ j = W.heap.size)) (fun _ _ hj => hj)
      have hFa := hF5.below hal
      have hBa := hBw.trans (hal.mono hBs)
      have hbk : (wr.alloc (.cells #[.int .i64 a.f0, .string a.f1, .int .i64 a.f2, .slice Y3 a.f3.length d3, .int .i64 a.f4.f0, .string a.f4.f1, .int .i64 a.f4.f2, .slice X3 a.f4.f3.length e3, .slice X4 a.f4.f4.length e4, .slice X5 a.f4.f5.length e5] 40)).heap[wr.heap.size]? = some (.cells #[.int .i64 a.f0, .string a.f1, .int .i64 a.f2, .slice Y3 a.f3.length d3, .int .i64 a.f4.f0, .string a.f4.f1, .int .i64 a.f4.f2, .slice X3 a.f4.f3.length e3, .slice X4 a.f4.f4.length e4, .slice X5 a.f4.f5.length e5] 40 (0, 0)) := blk_new wr _
      have hnk : ¬ (FB hb (.slice A5' o2.length c5') wr.heap.size ∨ wr.heap.size = W.heap.size) := by
       rintro (hh | hh)
       ·have := hF5.bs.lt hh; omega
       ·have := hF5.lt; omega
      have hsa : w0.heap.size ≤ (wr.alloc (.cells #[.int .i64 a.f0, .string a.f1, .int .i64 a.f2, .slice Y3 a.f3.length d3, .int .i64 a.f4.f0, .string a.f4.f1, .int .i64 a.f4.f2, .slice X3 a.f4.f3.length e3, .slice X4 a.f4.f4.length e4, .slice X5 a.f4.f5.length e5] 40)).heap.size := Nat.le_trans hBs hal.size
      have C1 := step_p hFa hob9.out hBa hsa ⟨A5', c5', n5, hFa, Mod.refl _ _, fun j hj => .inl hj, Nat.le_refl _⟩ a.f3 g3 hod.1.1 (by omega) (by omega) d3
      have hMa := Aside0.mk hMa
      have hFa := Aside0.mk hFa
      have hBa := Aside0.mk hBa
      have hO5 := Aside0.mk hO5
      have hbk := Aside0.mk hbk
      have hnk := Aside0.mk hnk
      have hsa := Aside0.mk hsa
      have hg := Aside0.mk (And.intro g3 (And.intro g4 (And.intro g5 g6)))
      have hod := Aside0.mk hod
      have hbb := Aside0.mk (And.intro hcl (And.intro hdr (And.intro hfl (And.intro hpl2 (And.intro hb2 (And.intro hb3.out (And.intro h5h (And.intro hcost.out hbnd.out))))))))
      clear hBw g3 g4 g5 g6 hdr hcl hfl hpl2 hb2 hF5 hM5 hal hBs h5h hn1 bh bo hceq hb30
      go_wp2_with (first | (go_at_call 56; go_loud (with_reducible refine C1.mono ?_); rintro r w5 ⟨rfl, hst5⟩; have HT5 := Aside0.mk hst5; have hw5 := SB.blk hst5 hbk.out hnk.out; have hy4 := (blk_cell hw5 4).trans rfl; have hy5 := (blk_cell hw5 5).trans rfl; have hy6 := (blk_cell hw5 6).trans rfl; have hy7 := (blk_cell hw5 7).trans rfl; have hy8 := (blk_cell hw5 8).trans rfl; have hy9 := (blk_cell hw5 9).trans rfl; clear hst5 C1 hw5 hv0 hv1 hv2 hv3 hv4 hv5 hv6 hv7 hv8 hv9; obtain ⟨A1, c1, hoc, hmc, C2⟩ := step_y (ih a.f4 (by have := hbb.out; omega)) hFa.out hob9.out hBa.out hsa.out HT5.out hod.out.1.2 (by have := hbb.out; omega) (by have := hbb.out; omega) hg.out.2.1 hg.out.2.2.1 hg.out.2.2.2 e3 e4 e5) | (go_at_call 40; go_loud (with_reducible refine C2.mono ?_); rintro r w6 ⟨A', c', rfl, hcc, hfz, hst6⟩; have HT6 := Aside0.mk (SB.comp hMa.out hO5.out hst6); clear hst6 C2 hoc hmc hy4 hy5 hy6 hy7 hy8 hy9))
      go_roundg (gk - 1)
      case measure => omega
      case rel => exact ⟨i3 + 1, bx a.f4 (putL a.f3 o2), n5 + a.f3.length + cost a.f4, by go_num, by omega, by omega, hsd, ⟨hod.out.2⟩, HT6, ⟨by have := hbb.out; omega, by have := hbb.out; omega⟩⟩
     ·have q1 : decide ((i3 : Int) < (e.f5.length : Int)) = false := decide_eq_false (by omega)
      have hd0 : e.f5.drop i3 = [] := List.drop_eq_nil_of_le (by omega)
      have hso3 : o2 = bxA e.f5 o := by rw [← hs3.out, hd0]; simp only [bxA]
      have hb4 := hbd3.out
      rw [hd0] at hb4
      simp only [costA, Nat.add_zero] at hb4
      have hse : bx e out = o2 := by rw [hone.out, ← hso, ← hso3]
      obtain ⟨A6, c6, n6, hF6, hM6, hO6, h6h⟩ := hst3.out
      have hoc := (blk_cell hF6.obk 0).trans rfl
      have hfin : Aside0 (BS wr w0.heap.size hb (.slice A6 o2.length c6) n6 o2 ∧ Mod W wr (FB hb (.slice A0 out.length c0)) ∧ (∀ j, (Value.slice A6 o2.length c6).ownBlock = some j → (Value.slice A0 out.length c0).ownBlock = some j ∨ W.heap.size ≤ j) ∧ n6 ≤ nh + cost e) := ⟨hF6.bs, (Mod.of_below hbl9.out (FB hb (.slice A0 out.length c0))).trans hM6 (fun j hj he => he.elim id (fun h => by omega)), (fun j hj => (hO6 j hj).imp id (fun h => Nat.le_trans hbl9.out.size h)), by have := hb3.out; have := hcost.out; omega⟩
      clear hBw hF6 hM6 hO6 h6h hb4 hd0 hso hso3 hs3
      go_wp2
      go_ret
      rw [hse]
      exact ⟨A6, c6, n6, rfl, hfin.out⟩
set_option maxHeartbeats 8000000 in
set_option maxRecDepth 100000 in
theorem bound0_calls (e : S33) (w : World) (hok : okE e = true) (hc : cost e ≤ 100000000000) {A3 A4 A5 : Option Addr} {c3 c4 c5 : Nat} (hC3 : Kd.C Kd.string w A3 e.f3.length e.f3) (hC4 : Kd.C k33 w A4 e.f4.length e.f4) (hC5 : Kd.C k40 w A5 e.f5.length e.f5) :
  Calls Tryd.prog 21 #[.agg #[.int .i64 e.f0, .string e.f1, .int .i64 e.f2, .slice A3 e.f3.length c3, .slice A4 e.f4.length c4, .slice A5 e.f5.length c5]] w fun r w' => ∃ v0_ : Value, r = .returned v0_ ∧ Kd.R Kd.string 9 w' w.heap.size (fun _ => True) v0_ (bx e []) ∧ Below w.heap.size w w' := by
 have hmm := @run_makeMap Tryd.prog
 have E : ∀ W : World, ∀ o : Obj, (W.alloc o).heap.size = W.heap.size + 1 := fun W o => Array.size_push _
 have hb4 : Below w.heap.size w ((w.alloc (.cells #[.int .i64 e.f0, .string e.f1, .int .i64 e.f2, .slice A3 e.f3.length c3, .slice A4 e.f4.length c4, .slice A5 e.f5.length c5] 33)).alloc (.map #[] 0)) := below_alloc (below_alloc (Below.refl _ _) _) _
 have hF : BS ((w.alloc (.cells #[.int .i64 e.f0, .string e.f1, .int .i64 e.f2, .slice A3 e.f3.length c3, .slice A4 e.f4.length c4, .slice A5 e.f5.length c5] 33)).alloc (.map #[] 0)) w.heap.size (w.heap.size + 1) (.slice none ([] : List ByteArray).length 0) 0 [] := by
  have h := MapS.made (w.alloc (.cells #[.int .i64 e.f0, .string e.f1, .int .i64 e.f2, .slice A3 e.f3.length c3, .slice A4 e.f4.length c4, .slice A5 e.f5.length c5] 33))
  rw [E] at h
  exact ⟨h, Kd.R_nil _ _ _ _ _, by omega⟩
 have CX := bound_calls (cost e) e (Nat.le_refl _) hF hb4 hok (by omega) (by simp; omega) hC3 hC4 hC5 (c3 := c3) (c4 := c4) (c5 := c5)
 simp only [List.length_nil] at CX hF
 have hF := Aside0.mk hF
 have hb4 := Aside0.mk hb4
 clear hok hc hC3 hC4 hC5
 go_enter Tryd.func21, Tryd.ntmps21
 go_wp2_with (first | (go_at_call 40; go_loud (with_reducible refine CX.mono ?_); rintro r w5 ⟨A, c, nh5, rfl, hb5, hm5, _, _⟩; have HB := Aside0.mk (hb4.out.trans (hm5.below hb4.out.size (fun j _ hj => hF.out.fge hj))); have HR := Aside0.mk hb5.row; clear hb5 hm5 CX))
 go_ret
 exact ⟨_, rfl, Kd.R_mono HR.out (fun _ _ => trivial), HB.out⟩
end Go.Proofs.YtmoeekidmkhkoaaDoor.FreeA
