/- The finder of free names in memory: two maps from texts to numbers, a list of texts; what binds names. No condition beyond those that each states. -/
import Derived.Test.YtmoeekidmkhkoaaDoorPFreeAx0
import Derived.Maps.OwnOps
import Derived.Maps.Views
import Derived.WalkSpells
import Derived.Deep.RegionHeld3
namespace Go.Proofs.YtmoeekidmkhkoaaDoor.FreeA
open Go.RowKit Go.Proofs.YtmoeekidmkhkoaaDoorW.PrintWords Go.Proofs.YtmoeekidmkhkoaaDoorW.PrintLast Go.Proofs.YtmoeekidmkhkoaaDoorW.PrintMore Go.Proofs.YtmoeekidmkhkoaaDoor.PFreeA
open Go.Maps (Keyed has IsMap)
set_option linter.unusedVariables false
set_option linter.unusedSimpArgs false
def rawR (v : Value) : Option (DataW Value × List MemPlace) := some (.held v, [])
def MapF (W : World) (P : Program) (k : TypeId) (b n : Nat) (F : Lit → Option Value) : Prop :=
  ∃ D : DataW Value, W.ownsMap P k rawR b n D ∧ IsMap D ∧ ∀ l z, D.atKey l z = match F l with | some v => .held v | none => z
section
variable {P : Program} {k t e : TypeId} {W W1 : World} {b n : Nat} {F : Lit → Option Value} {key val z : Value} {kl : Lit}
theorem MapF.lt (h : MapF W P k b n F) : b < W.heap.size := by obtain ⟨D, h, _⟩ := h; exact h.lt
theorem MapF.of_block (h : MapF W P k b n F) (hb : W1.heap[b]? = W.heap[b]?) : MapF W1 P k b n F := by
  obtain ⟨D, ⟨es, clock, h1, h2⟩, h3⟩ := h
  exact ⟨D, ⟨es, clock, hb.trans h1, h2⟩, h3⟩
theorem MapF.blk (h : MapF W P k b n F) : ∃ es clock, W.heap[b]? = some (.map es clock) := by
  obtain ⟨D, ⟨es, clock, h1, h2⟩, h3⟩ := h
  exact ⟨es, clock, h1⟩
theorem MapF.made (W : World) (P : Program) (k : TypeId) : MapF (W.alloc (.map #[] 0)) P k W.heap.size 0 (fun _ => none) := ⟨.map [], World.ownsMap_made W P k rawR, ⟨[], rfl⟩, fun l z => rfl⟩
theorem MapF.look (h : MapF W P k b n F) (c : Bool) (K : Keyed P k) (ht : P.underlying t = some (.map k e)) (hz : (zeroValue e).run P W = .ok z W) (hkey : keyOf P k key = some kl) :
    (Instr.lookup t (.map (some b)) key c).run P W = .ok (match F kl with | some v => if c then .tuple #[v, .bool true] else v | none => if c then .tuple #[z, .bool false] else z) W := by
  obtain ⟨D, ⟨es, clock, hb, hF, _, rfl⟩, hm, hD⟩ := h
  rcases Maps.fit_look c K ht hz hb hF hkey with ⟨hrun, _, hat⟩ | ⟨e0, y, _, _, hrun, hRv, hat, _⟩
  · have : F kl = none := by
      have h1 := (hD kl .nil).symm.trans (hat .nil)
      cases hf : F kl with
      | none => rfl
      | some v => rw [hf] at h1; cases h1
    rw [hrun, this]
  · have : F kl = some e0.val := by
      have hy : y = (.held e0.val, []) := (Option.some.inj hRv).symm
      subst hy
      have h1 := (hD kl .nil).symm.trans (hat .nil)
      cases hf : F kl with
      | none => rw [hf] at h1; cases h1
      | some v => rw [hf] at h1; injection h1 with h1; rw [h1]
    rw [hrun, this]
theorem MapF.store (h : MapF W P k b n F) (K : Keyed P k) (ht : P.underlying t = some (.map k e)) (hn : n < maxLen) (hkey : keyOf P k key = some kl) (hkl : WideAt.IsKeyLit kl) (val : Value) :
    ∃ W' F', (Instr.mapUpdate t (.map (some b)) key val).run P W = .ok () W' ∧ MapF W' P k b (n + 1) F' ∧ F' kl = some val ∧ (∀ l, l ≠ kl → F' l = F l) ∧ W.grownBy W' (some b) := by
  classical
  obtain ⟨D, ho, hm, hD⟩ := h
  obtain ⟨W', hrun, ho', hg⟩ := ho.update K ht hn hkey (val := val) (d := .held val) (ps := []) rfl
  refine ⟨W', fun l => if l = kl then some val else F l, hrun, ⟨_, ho', hm.put _ _, fun l z => ?_⟩, if_pos rfl, fun l hl => if_neg hl, hg⟩
  by_cases hl : l = kl
  · subst hl
    rw [Maps.atKey_put_same hm hkl]
    simp
  · rw [Maps.atKey_put_other hl]
    simp only [hl, if_false]
    exact hD l z
end
structure Mod (W W' : World) (S : Nat → Prop) : Prop where
  os : W'.os = W.os
  tape : W'.tape = W.tape
  output : W'.output = W.output
  size : W.heap.size ≤ W'.heap.size
  block : ∀ i, i < W.heap.size → ¬ S i → W'.heap[i]? = W.heap[i]?
theorem Mod.refl (W : World) (S : Nat → Prop) : Mod W W S := ⟨rfl, rfl, rfl, Nat.le_refl _, fun _ _ _ => rfl⟩
theorem Mod.of_below {W W' : World} (h : Below W.heap.size W W') (S : Nat → Prop) : Mod W W' S := ⟨h.os, h.tape, h.output, h.size, fun i hi _ => h.block i hi⟩
theorem Mod.trans {W W' W2 : World} {S S' : Nat → Prop} (h : Mod W W' S) (h' : Mod W' W2 S') (hs : ∀ i, i < W.heap.size → S' i → S i) : Mod W W2 S :=
  ⟨h'.os.trans h.os, h'.tape.trans h.tape, h'.output.trans h.output, Nat.le_trans h.size h'.size, fun i hi hn => (h'.block i (Nat.lt_of_lt_of_le hi h.size) (fun hs' => hn (hs i hi hs'))).trans (h.block i hi hn)⟩
theorem Mod.mono {W W' : World} {S S' : Nat → Prop} (h : Mod W W' S) (hs : ∀ i, i < W.heap.size → S i → S' i) : Mod W W' S' := ⟨h.os, h.tape, h.output, h.size, fun i hi hn => h.block i hi (fun h' => hn (hs i hi h'))⟩
theorem Mod.below {B : Nat} {W W' : World} {S : Nat → Prop} (h : Mod W W' S) (hB : B ≤ W.heap.size) (hs : ∀ i, i < W.heap.size → S i → B ≤ i) : Below B W W' :=
  ⟨h.os, h.tape, h.output, h.size, fun i hi => h.block i (Nat.lt_of_lt_of_le hi hB) (fun h' => by have := hs i (Nat.lt_of_lt_of_le hi hB) h'; omega)⟩
theorem Mod.of_grown {W W' : World} {g : Nat} (h : W.grownBy W' (some g)) : Mod W W' (· = g) := ⟨h.os, h.tape, h.output, h.size, fun i hi hn => h.block i hi (fun e => hn (Option.some.inj e))⟩
theorem Mod.of_own {W W' : World} {v : Value} (h : W.grownBy W' v.ownBlock) : Mod W W' (fun j => v.ownBlock = some j) := ⟨h.os, h.tape, h.output, h.size, fun i hi hn => h.block i hi (fun e => hn e.symm)⟩
theorem Mod.of_set (W : World) (p : Addr) (v : Value) : Mod W (W.setCell p v) (· = p.block) := by
  have hb := (Below.refl p.block W).setCell (Nat.le_refl p.block) v
  exact ⟨hb.os, hb.tape, hb.output, hb.size, fun i _ hn => Below.heap_setCell W p v i hn⟩
theorem Mod.drew {W W' : World} {S : Nat → Prop} (h : Mod W W' S) : Mod W W'.drew S := ⟨h.os, h.tape, h.output, h.size, h.block⟩
theorem Rs_ok {base : Nat} {ok ok' : Nat → Prop} {W : World} {v : Value} {xs : List ByteArray} (h : Kd.R Kd.string 9 W base ok v xs) (hok : ∀ j, v.ownBlock = some j → ok' j) : Kd.R Kd.string 9 W base ok' v xs := by
  obtain ⟨h0, inner, ho, hr⟩ := h
  exact ⟨hok, inner, ho, hr.imp_ (fun _ _ hm => hm)⟩
theorem Rs_step {base : Nat} {ok ok' : Nat → Prop} {W W1 : World} {v : Value} {xs : List ByteArray} (h : Kd.R Kd.string 9 W base ok v xs) (hb : ∀ j, v.ownBlock = some j → W1.heap[j]? = W.heap[j]?) (hok : ∀ j, v.ownBlock = some j → ok' j) : Kd.R Kd.string 9 W1 base ok' v xs :=
  Rs_ok (Kd.R_step (Rs_ok (ok' := fun j => v.ownBlock = some j) h (fun _ hj => hj)) (fun j hj _ => hb j hj)) hok
def key (s : ByteArray) : Lit := .string s.data.toList
theorem key_inj {s t : ByteArray} (h : key s = key t) : s = t := by
  unfold key at h
  injection h with h
  exact ByteArray.ext (Array.toList_inj.1 h)
def updI (g : ByteArray → Int) (s : ByteArray) (x : Int) : ByteArray → Int := fun t => if t = s then x else g t
def MapS (W : World) (b n : Nat) (g : ByteArray → Int) : Prop := ∃ F, MapF W Tryd.prog 9 b n F ∧ ∀ s, (match F (key s) with | some v => v | none => .int .i64 0) = .int .i64 (g s)
theorem keyed9 : Keyed Tryd.prog 9 := Maps.string_keyed Tryd.underlying9
def NS (s : ByteArray) : Prop := s.size ≤ 140737488351232
theorem key9 {s : ByteArray} (hs : NS s) : keyOf Tryd.prog 9 (.string s) = some (key s) := by
  have : s.size ≤ maxLen := Nat.le_trans hs (by decide)
  simp [keyOf, Tryd.underlying9, mapKey, key, this]
theorem zero3 (W : World) : (zeroValue 3).run Tryd.prog W = .ok (.int .i64 0) W := by kernel_rfl
theorem key_is (s : ByteArray) : WideAt.IsKeyLit (key s) := by first | trivial | (simp [WideAt.IsKeyLit, key]) | exact ⟨⟩
section
variable {W W1 : World} {b n : Nat} {g : ByteArray → Int}
theorem MapS.lt (h : MapS W b n g) : b < W.heap.size := h.elim fun _ h => h.1.lt
theorem MapS.of_block (h : MapS W b n g) (hb : W1.heap[b]? = W.heap[b]?) : MapS W1 b n g := h.elim fun F h => ⟨F, h.1.of_block hb, h.2⟩
theorem MapS.blk (h : MapS W b n g) : ∃ es clock, W.heap[b]? = some (.map es clock) := h.elim fun _ h => h.1.blk
theorem MapS.made (W : World) : MapS (W.alloc (.map #[] 0)) W.heap.size 0 (fun _ => 0) := ⟨_, MapF.made W Tryd.prog 9, fun s => rfl⟩
theorem MapS.look (h : MapS W b n g) {s : ByteArray} (hs : NS s) : (Instr.lookup 59 (.map (some b)) (.string s) false).run Tryd.prog W = .ok (.int .i64 (g s)) W := by
  obtain ⟨F, h, hg⟩ := h
  rw [h.look false keyed9 Tryd.underlying59 (zero3 W) (key9 hs), ← hg s]
  cases F (key s) <;> rfl
theorem MapS.store (h : MapS W b n g) (hn : n < maxLen) {s : ByteArray} (hs : NS s) (x : Int) : ∃ W', (Instr.mapUpdate 59 (.map (some b)) (.string s) (.int .i64 x)).run Tryd.prog W = .ok () W' ∧ MapS W' b (n + 1) (updI g s x) ∧ W.grownBy W' (some b) := by
  obtain ⟨F, h, hg⟩ := h
  obtain ⟨W', F', hrun, hM, h1, h2, hgr⟩ := h.store keyed9 Tryd.underlying59 hn (key9 hs) (key_is s) (.int .i64 x)
  refine ⟨W', hrun, ⟨F', hM, fun t => ?_⟩, hgr⟩
  by_cases ht : t = s
  · subst ht
    rw [h1]
    simp [updI]
  · rw [h2 _ (fun e => ht (key_inj e)), hg t]
    simp [updI, ht]
end
theorem inf9 : (Tryd.prog.info? 9).map (fun i => (i.zero, i.size, i.bytes)) = some (some (.string ⟨#[]⟩), 1, 16) := by kernel_rfl
structure FS (W : World) (base pb ab hb : Nat) (v : Value) (na nh : Nat) (ga gh : ByteArray → Int) (out : List ByteArray) : Prop where
  blk : W.heap[pb]? = some (.cells #[.map (some ab), .map (some hb), v] 61 (0, 0))
  am : MapS W ab na ga
  hm : MapS W hb nh gh
  row : Kd.R Kd.string 9 W base (fun j => j ≠ pb ∧ j ≠ ab ∧ j ≠ hb) v out
  ge : base ≤ pb ∧ base ≤ ab ∧ base ≤ hb
  ne : ab ≠ hb
def FP (pb ab hb : Nat) (v : Value) (j : Nat) : Prop := j = pb ∨ j = ab ∨ j = hb ∨ v.ownBlock = some j
section
variable {w0 W W1 : World} {base pb ab hb na nh : Nat} {v : Value} {ga gh : ByteArray → Int} {out : List ByteArray}
theorem FS.pne (h : FS W base pb ab hb v na nh ga gh out) : pb ≠ ab ∧ pb ≠ hb := by
  constructor
  · rintro rfl
    obtain ⟨es, c, hm⟩ := h.am.blk
    rw [h.blk] at hm
    cases hm
  · rintro rfl
    obtain ⟨es, c, hm⟩ := h.hm.blk
    rw [h.blk] at hm
    cases hm
theorem FS.lt (h : FS W base pb ab hb v na nh ga gh out) {j : Nat} (hj : FP pb ab hb v j) : j < W.heap.size := by
  rcases hj with rfl | rfl | rfl | hj
  · exact (Array.getElem?_eq_some_iff.1 h.blk).1
  · exact h.am.lt
  · exact h.hm.lt
  · exact Kd.R_lt h.row j hj
theorem FS.fge (h : FS W base pb ab hb v na nh ga gh out) {j : Nat} (hj : FP pb ab hb v j) : base ≤ j := by
  rcases hj with rfl | rfl | rfl | hj
  · exact h.ge.1
  · exact h.ge.2.1
  · exact h.ge.2.2
  · exact Kd.R_base h.row j hj
theorem FS.step (h : FS W base pb ab hb v na nh ga gh out) (hk : ∀ j, FP pb ab hb v j → W1.heap[j]? = W.heap[j]?) : FS W1 base pb ab hb v na nh ga gh out :=
  ⟨(hk pb (.inl rfl)).trans h.blk, h.am.of_block (hk ab (.inr (.inl rfl))), h.hm.of_block (hk hb (.inr (.inr (.inl rfl)))), Rs_step h.row (fun j hj => hk j (.inr (.inr (.inr hj)))) (fun j hj => h.row.1 j hj), h.ge, h.ne⟩
theorem FS.below (h : FS W base pb ab hb v na nh ga gh out) (hbl : Below W.heap.size W W1) : FS W1 base pb ab hb v na nh ga gh out := h.step (fun j hj => hbl.block j (h.lt hj))
theorem FS.cells (h : FS W base pb ab hb v na nh ga gh out) : W.cell? ⟨pb, 0, none⟩ = some (.map (some ab)) ∧ W.cell? ⟨pb, 1, none⟩ = some (.map (some hb)) ∧ W.cell? ⟨pb, 2, none⟩ = some v ∧ ∀ j, W.frozen? ⟨pb, j, none⟩ = false :=
  ⟨(blk_cell h.blk 0).trans rfl, (blk_cell h.blk 1).trans rfl, (blk_cell h.blk 2).trans rfl, blk_frozen h.blk⟩
theorem FS.putA (h : FS W base pb ab hb v na nh ga gh out) {ga' : ByteArray → Int} (hM : MapS W1 ab (na + 1) ga') (hg : W.grownBy W1 (some ab)) : FS W1 base pb ab hb v (na + 1) nh ga' gh out :=
  ⟨(hg.block pb (h.lt (.inl rfl)) (fun e => h.pne.1 (Option.some.inj e))).trans h.blk, hM, h.hm.of_block (hg.block hb (h.lt (.inr (.inr (.inl rfl)))) (fun e => h.ne (Option.some.inj e).symm)), Rs_step h.row (fun j hj => hg.block j (Kd.R_lt h.row j hj) (fun e => (h.row.1 j hj).2.1 (Option.some.inj e))) (fun j hj => h.row.1 j hj), h.ge, h.ne⟩
theorem FS.putH (h : FS W base pb ab hb v na nh ga gh out) {gh' : ByteArray → Int} (hM : MapS W1 hb (nh + 1) gh') (hg : W.grownBy W1 (some hb)) : FS W1 base pb ab hb v na (nh + 1) ga gh' out :=
  ⟨(hg.block pb (h.lt (.inl rfl)) (fun e => h.pne.2 (Option.some.inj e))).trans h.blk, h.am.of_block (hg.block ab (h.lt (.inr (.inl rfl))) (fun e => h.ne (Option.some.inj e))), hM, Rs_step h.row (fun j hj => hg.block j (Kd.R_lt h.row j hj) (fun e => (h.row.1 j hj).2.2 (Option.some.inj e))) (fun j hj => h.row.1 j hj), h.ge, h.ne⟩
end
theorem at_str {w : World} {A : Option Addr} {n : Nat} {xs : List ByteArray} (h : Kd.C Kd.string w A n xs) (i : Nat) (hi : i < xs.length) (hn : i < n) : ∃ ad, A = some ad ∧ w.cell? (ad.add i) = some (.string xs[i]) := by
  obtain ⟨ad, c, e, _, hK, hc⟩ := Kd.C_get h (⟨#[]⟩ : ByteArray) (i : Int) (by omega) (by omega)
  have hK' : c = [.string (xs.getD i ⟨#[]⟩)] := hK
  subst hK'
  refine ⟨ad, e, ?_⟩
  have := hc 0 _ rfl
  have hsz : Kd.string.sz = 1 := rfl
  rw [hsz, Int.toNat_natCast, Nat.mul_one, Nat.add_zero] at this
  rw [this]
  simp [hi]
def addk (g : ByteArray → Int) (by_ : Int) : List ByteArray → ByteArray → Int
  | [] => g
  | s :: l => addk (updI g s (g s + by_)) by_ l
def Bd (m : Int) (g : ByteArray → Int) : Prop := ∀ s, -m ≤ g s ∧ g s ≤ m
theorem Bd.upd {m : Int} {g : ByteArray → Int} (h : Bd m g) {s : ByteArray} {by_ : Int} (hb : -1 ≤ by_ ∧ by_ ≤ 1) : Bd (m + 1) (updI g s (g s + by_)) := by
  intro t
  have h1 := h t
  have h2 := h s
  unfold updI
  split <;> omega
set_option maxHeartbeats 4000000 in
set_option maxRecDepth 100000 in
theorem bind_calls {w0 W : World} {pb ab hb na nh : Nat} {v : Value} {ga gh : ByteArray → Int} {out : List ByteArray} (h : FS W w0.heap.size pb ab hb v na nh ga gh out) (hB : Below w0.heap.size w0 W) (l : List ByteArray) {A : Option Addr} {c : Nat} (hC : Kd.C Kd.string w0 A l.length l) (hNS : ∀ s ∈ l, NS s) (by_ : Int) (hby : -1 ≤ by_ ∧ by_ ≤ 1) (m : Nat) (hm : Bd m ga) (hml : m + l.length ≤ 1000000000000) (hn : na + l.length ≤ 1000000000000) :
    Calls Tryd.prog 55 #[.pointer (some ⟨pb, 0, none⟩), .slice A l.length c, .int .i64 by_] W fun e W' => e = .returned (.tuple #[]) ∧ FS W' w0.heap.size pb ab hb v (na + l.length) nh (addk ga by_ l) gh out ∧ Mod W W' (· = ab) := by
  have h9 := Aside0.mk h
  have hB9 := Aside0.mk hB
  have hC9 := Aside0.mk hC
  have hm9 := Aside0.mk hm
  have hlen := hC.2.1
  have hNS := Aside0.mk hNS
  clear h hB hC hm
  go_enter Tryd.func55, Tryd.ntmps55
  go_wp2
  go_loopg [10] (l.length + 1) (fun kq v10 w' => ∃ (i : Nat) (g : ByteArray → Int), v10 = .int .i64 (i : Int) ∧ i + kq = l.length + 1 ∧ 1 ≤ kq ∧ Aside0 (addk g by_ (l.drop i) = addk ga by_ l) ∧ Aside0 (Bd (m + i : Nat) g) ∧ Aside0 (FS w' w0.heap.size pb ab hb v (na + i) nh g gh out) ∧ Aside0 (Mod W w' (· = ab)))
  case atStart => exact ⟨0, ga, rfl, by omega, by omega, ⟨rfl⟩, hm9, h9, ⟨Mod.refl _ _⟩⟩
  case round =>
    obtain ⟨i, g, rfl, hi, hk, hs, hbd, hf, hmod⟩ := hrel
    by_cases hlt : i < l.length
    · obtain ⟨ad, rfl, hv⟩ := at_str (Kd.C_below hC9.out (Below.trans hB9.out (hmod.out.below hB9.out.size (fun j _ hj => hj ▸ h9.out.ge.2.1)))) i hlt hlt
      have p0 : (0 : Int) ≤ (i : Int) := by omega
      have q0 : (i : Int) < (l.length : Int) := by omega
      have q1 : decide ((i : Int) < (l.length : Int)) = true := decide_eq_true q0
      have hns := hNS.out l[i] (List.getElem_mem hlt)
      obtain ⟨hc0, _, _, _⟩ := hf.out.cells
      have hlk := hf.out.am.look hns
      have hb1 := hbd.out l[i]
      obtain ⟨W', hst, hM', hg'⟩ := hf.out.am.store (by unfold maxLen; omega) hns (g l[i] + by_)
      have hw1 : wrap64 (g l[i] + by_) = g l[i] + by_ := by unfold wrap64; omega
      have hF' := Aside0.mk (hf.out.putA hM' hg')
      have hmod' := Aside0.mk (hmod.out.trans (Mod.of_grown hg') (fun j _ hj => hj))
      have hbd' := Aside0.mk (hbd.out.upd (s := l[i]) hby)
      have hs' : Aside0 (addk (updI g l[i] (g l[i] + by_)) by_ (l.drop (i + 1)) = addk ga by_ l) := ⟨by rw [← hs.out, List.drop_eq_getElem_cons hlt]; rfl⟩
      clear hb1 hM' hg' hns
      generalize l[i] = s at *
      go_wp2
      go_roundg (gk - 1)
      case measure => omega
      case rel => exact ⟨i + 1, _, by go_num, by omega, by omega, hs', ⟨by have := hbd'.out; rwa [show (((m + (i + 1) : Nat)) : Int) = ((m + i : Nat) : Int) + 1 by omega]⟩, hF', hmod'⟩
    · have q1 : decide ((i : Int) < (l.length : Int)) = false := decide_eq_false (by omega)
      have hr := Aside0.mk (show g = addk ga by_ l by rw [← hs.out, List.drop_eq_nil_of_le (by omega)]; rfl)
      have hi2 : i = l.length := by omega
      subst hi2
      go_wp2
      refine bodyPost_end (v := .tuple #[]) (by simp [results, Tryd.results55, go_sem]) rfl ?_
      exact ⟨rfl, hr.out ▸ hf.out, hmod.out⟩
end Go.Proofs.YtmoeekidmkhkoaaDoor.FreeA

