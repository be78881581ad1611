/- A map that a range loop goes over while its values are written, told as a function; maps.Clone. No condition beyond those that each states. -/
import Derived.Test.YtepaddjjdhpmpaaDoorHeapSharesP
import Derived.Maps.RangeWalk
import Derived.Laws.Externs
namespace Go
open Go.ChangeMaps Go.MapKept Go.WideShapes
open Go.WideElems (Fit rd rg pl rd_key rd_val rg_of other_key)
open Go.Maps (Keyed)
section
variable {H : Type} {P : Program} {k : TypeId} {R : Value → Option (DataW H × List MemPlace)} {w : World} {b r n : Nat} {D : DataW H} {left : Lit → Bool} {cnt : Nat}
theorem ranges_update {t e : TypeId} (h : w.ranges P k R b r n D left cnt) (K : Keyed P k) (ht : P.underlying t = some (.map k e)) (hn : n < maxLen) {key val : Value} {kl : Lit} {d : DataW H} {ps : List MemPlace} (hkey : keyOf P k key = some kl) (hhas : Maps.has D kl = true) (hv : R val = some (d, ps)) :
    ∃ w', (Instr.mapUpdate t (.map (some b)) key val).run P w = .ok () w' ∧ w'.ranges P k R b r n (D.put kl d) left cnt ∧ w.grownBy w' (some b) := by
  have hne := h.ne
  obtain ⟨es, clock, since, seen, c0, hb, F, hs, rfl, hr, hold, rfl, hl1, hl2, hsc, hsk⟩ := h
  obtain ⟨es', clock', hrun, F', hput, _, _, _⟩ := Maps.fit_store (R' := R) K ht hb F (Nat.lt_of_le_of_lt hs hn) (fun _ _ _ _ hz => hz) hkey hv
  rcases K.find w hkey es.toList F.keys with ⟨h1, h2⟩ | ⟨j, e0, h1, h2, h3⟩
  · exfalso
    obtain ⟨p, hp, hpk⟩ := List.any_eq_true.1 hhas
    obtain ⟨x, hx, rfl⟩ := List.mem_map.1 (mem_sorted.1 hp)
    obtain ⟨y, hy⟩ := F.reads x hx
    have m1 := rd_key hy
    have e1 := WideAt.sameKey_eq hpk
    rw [rg_of hy] at e1
    exact h2 x hx (K.inj (e1 ▸ m1) hkey)
  · have hj : es[j]? = some e0 := by simpa using h2
    have hrun2 : (Instr.mapUpdate t (.map (some b)) key val).run P w = .ok () (setBlock w b (.map (es.modify j (fun e' => { e' with key := key, val := val })) clock)) := by
      simp [Instr.mapUpdate, run_underlying ht, MapKept.run_getObj_map hb, K.check w false hkey, h1, hj, h3, K.stays w hkey, MapKept.run_setObj_map _ hb, Result.andThen, setBlock]
    have hes : es' = es.modify j (fun e' => { e' with key := key, val := val }) ∧ clock' = clock := by
      have hw : setBlock w b (.map es' clock') = setBlock w b (.map (es.modify j (fun e' => { e' with key := key, val := val })) clock) := by
        rw [hrun] at hrun2
        injection hrun2
      have h5 := congrArg (fun W : World => W.heap[b]?) hw
      simp only [heap_setBlock_same hb] at h5
      injection h5 with h5
      injection h5 with h5 h6
      exact ⟨h5, h6⟩
    obtain ⟨rfl, rfl⟩ := hes
    have hlist : (es.modify j (fun e' => { e' with key := key, val := val })).toList = es.toList.set j { e0 with key := key, val := val } := by rw [Array.toList_modify, modify_eq_set _ _ _ _ h2]
    have hjl : j < es.toList.length := (List.getElem?_eq_some_iff.1 h2).1
    have hgj : es.toList[j] = e0 := (List.getElem?_eq_some_iff.1 h2).2
    have hkey0 : (rg P k R e0).1 = kl := by
      obtain ⟨y, hy⟩ := F.reads e0 (hgj ▸ List.getElem_mem hjl)
      have m1 := rd_key hy
      rw [rg_of hy]
      rw [h3, hkey] at m1
      exact (Option.some.inj m1).symm
    have hnew : ∀ born, (rg P k R (⟨key, val, born⟩ : MapEntry)).1 = kl := fun born => by
      have hv' : rd P k R (⟨key, val, born⟩ : MapEntry) = _ := Go.WideElems.rd_mk hkey hv
      rw [rg_of hv']
    -- the entries, one by one: key and stamp are as they were
    have hcorr : ∀ x ∈ (es.modify j (fun e' => { e' with key := key, val := val })).toList, ∃ x0 ∈ es.toList, x.born = x0.born ∧ (rg P k R x).1 = (rg P k R x0).1 := by
      intro x hx
      rw [hlist] at hx
      obtain ⟨i, hi, ex⟩ := List.getElem_of_mem hx
      rw [List.getElem_set] at ex
      split at ex
      · subst ex
        exact ⟨e0, hgj ▸ List.getElem_mem hjl, rfl, (hnew e0.born).trans hkey0.symm⟩
      · exact ⟨x, ex ▸ List.getElem_mem (by simpa using hi), rfl, rfl⟩
    have hback : ∀ x0 ∈ es.toList, ∃ x ∈ (es.modify j (fun e' => { e' with key := key, val := val })).toList, (rg P k R x).1 = (rg P k R x0).1 := by
      intro x0 hx0
      rw [hlist]
      obtain ⟨i, hi, ex⟩ := List.getElem_of_mem hx0
      by_cases hij : j = i
      · subst hij
        refine ⟨{ e0 with key := key, val := val }, List.mem_iff_getElem.2 ⟨j, by simpa using hi, by simp⟩, ?_⟩
        rw [← ex, hgj]
        exact (hnew e0.born).trans hkey0.symm
      · exact ⟨x0, List.mem_iff_getElem.2 ⟨i, by simpa using hi, by rw [List.getElem_set_ne hij]; exact ex⟩, rfl⟩
    refine ⟨_, hrun, ⟨_, clock', since, seen, c0, heap_setBlock_same hb _, F', by simpa using hs, by rw [DataW.put_eq, hput], (heap_setBlock_other hb _ hne).trans hr, fun x hx => ?_, ?_, fun x hx => ?_, fun kl' hkl' => ?_, hsc, hsk⟩, ⟨rfl, rfl, rfl, by simp [setBlock], fun i _ hi => heap_setBlock_other hb _ (fun e => hi (by rw [e]))⟩⟩
    · obtain ⟨x0, hx0, e1, _⟩ := hcorr x hx
      rw [e1]
      exact hold x0 hx0
    · have e1 : ∀ a : Array MapEntry, (leftOf a seen).size = ((a.toList.map MapEntry.born).filter fun e => !seen.contains e).length := fun a => by
        unfold leftOf
        rw [← Array.length_toList, Array.toList_filter, List.filter_map, List.length_map]
        rfl
      rw [e1, e1, hlist]
      congr 2
      rw [List.map_set]
      have : (es.toList.map MapEntry.born).set j e0.born = es.toList.map MapEntry.born := by
        apply List.ext_getElem
        · simp
        · intro i h1 h2
          rw [List.getElem_set]
          split
          · rename_i hji
            subst hji
            rw [List.getElem_map, hgj]
          · rfl
      exact this
    · obtain ⟨x0, hx0, e1, e2⟩ := hcorr x hx
      rw [e1, e2]
      exact hl1 x0 hx0
    · obtain ⟨x0, hx0, e2⟩ := hl2 kl' hkl'
      obtain ⟨x, hx, e3⟩ := hback x0 hx0
      exact ⟨x, hx, e3.trans e2⟩
end
end Go
namespace Go.Proofs.YtepaddjjdhpmpaaDoor.HeapA
open Go.RowKit Go.Proofs.YtepaddjjdhpmpaaDoorW.PrintWords Go.Proofs.YtepaddjjdhpmpaaDoorW.PrintLast Go.Proofs.YtepaddjjdhpmpaaDoorW.PrintMore Go.Proofs.YtepaddjjdhpmpaaDoor.HeapK Go.Proofs.YtepaddjjdhpmpaaDoor.PHeapP
open Go.Maps (Keyed has IsMap)
set_option linter.unusedVariables false
set_option linter.unusedSimpArgs false
/-! ### a map under a range loop -/
def RgF (W : World) (b r n : Nat) (F : Lit → Option Value) (left : Lit → Bool) (cnt : Nat) : Prop :=
  ∃ D : DataW Value, W.ranges Tryd.prog 2 rawR b r n D left cnt ∧ IsMap D ∧ ∀ l z, D.atKey l z = match F l with | some v => .held v | none => z
section
variable {W W1 : World} {b r n cnt : Nat} {F : Lit → Option Value} {left : Lit → Bool}
theorem has_of {D : DataW Value} (hD : ∀ l z, D.atKey l z = match F l with | some v => .held v | none => z) (l : Lit) : has D l = (F l).isSome := by
  cases hf : F l with
  | none => exact Maps.has_false_of_atKey (fun z => by have := hD l z; rwa [hf] at this)
  | some v => exact Maps.has_true_of_atKey (y := .held v) (fun z => by have := hD l z; rwa [hf] at this)
theorem RgF.mapF (h : RgF W b r n F left cnt) : MapF W Tryd.prog 2 b n F := by
  obtain ⟨D, h, hm, hD⟩ := h
  exact ⟨D, h.owns, hm, hD⟩
theorem RgF.kept {row : Option Nat} (h : RgF W b r n F left cnt) (hg : W.grownBy W1 row) (hb : some b ≠ row) (hr : some r ≠ row) : RgF W1 b r n F left cnt := by
  obtain ⟨D, h, hm, hD⟩ := h
  exact ⟨D, h.kept hg hb hr, hm, hD⟩
theorem RgF.left_eq (h : RgF W b r n F left cnt) : W.rangeLeft b r = cnt := by
  obtain ⟨D, h, _⟩ := h
  exact h.left_eq
theorem RgF.lt (h : RgF W b r n F left cnt) : r < W.heap.size ∧ r ≠ b := by
  obtain ⟨D, h, _⟩ := h
  exact ⟨h.lt, h.ne⟩
theorem RgF.update (h : RgF W b r n F left cnt) (hn : n < maxLen) {p : Int} (hp : WF p) {v0 : Value} (hF : F (.int .i64 p) = some v0) (val : Value) :
    ∃ W' F', (Instr.mapUpdate 46 (.map (some b)) (.int .i64 p) val).run Tryd.prog W = .ok () W' ∧ RgF W' b r n F' left cnt ∧ F' (.int .i64 p) = some val ∧ (∀ l, l ≠ .int .i64 p → F' l = F l) ∧ W.grownBy W' (some b) := by
  classical
  obtain ⟨D, h, hm, hD⟩ := h
  obtain ⟨W', hrun, h', hg⟩ := ranges_update h keyed2 Tryd.underlying46 hn (key2 hp) (by rw [has_of hD, hF]; rfl) (val := val) (d := .held val) (ps := []) rfl
  refine ⟨W', fun l => if l = .int .i64 p then some val else F l, hrun, ⟨_, h', hm.put _ _, fun l z => ?_⟩, if_pos rfl, fun l hl => if_neg hl, hg⟩
  by_cases hl : l = .int .i64 p
  · subst hl
    rw [Maps.atKey_put_same hm (key_is p)]
    simp
  · rw [Maps.atKey_put_other hl]
    simp only [hl, if_false]
    exact hD l z
theorem rg_range {ops : Array Oper} {rest : List Oper} {o : Oper} {a : Act} {Q : Exit → Act → World → Prop} (h : MapF W Tryd.prog 2 b n F) (hg : o.guard = none) (m : Operand) (hop : o.op = Op.range 46 m) (hm : a.eval m = .map (some b))
    (hK : ∀ w' left cnt, RgF w' b W.heap.size n F left cnt → (∀ l, left l = (F l).isSome) → W.grownBy w' none → w'.heap.size = W.heap.size + 1 → wpList Tryd.prog ops Q rest (a.put o.dst (.pointer (some ⟨W.heap.size, 0, none⟩))) w') :
    wpList Tryd.prog ops Q (o :: rest) a W := by
  obtain ⟨D, h, hmp, hD⟩ := h
  exact wpList_range_own W hg m 46 hop 2 54 keyed2 Tryd.underlying46 rawR b n D hm h (fun w' hr hg2 hs => hK w' _ _ ⟨D, hr, hmp, hD⟩ (fun l => has_of hD l) hg2 hs)
theorem rg_next {ops : Array Oper} {rest : List Oper} {o : Oper} {a : Act} {Q : Exit → Act → World → Prop} (h : RgF W b r n F left cnt) (hg : o.guard = none) (it : Operand) (hop : o.op = Op.next it false) (hit : a.eval it = .pointer (some ⟨r, 0, none⟩))
    (hDone : (∀ l, left l = false) → wpList Tryd.prog ops Q rest (a.put o.dst (.tuple #[.bool false])) W)
    (hMore : ∀ (x : Int) (v : Value) (w' : World) (cnt' : Nat), WF x → left (.int .i64 x) = true → F (.int .i64 x) = some v → RgF w' b r n F (fun z => left z && !z.sameKey (.int .i64 x)) cnt' → cnt' < cnt → W.grownBy w' (some r) → w'.heap.size = W.heap.size →
      (Instr.entry (.pointer (some ⟨r, 0, none⟩))).run Tryd.prog w' = .ok (.tuple #[.int .i64 x, v]) w' → wpList Tryd.prog ops Q rest (a.put o.dst (.tuple #[.bool true, .int .i64 x, v])) w') :
    wpList Tryd.prog ops Q (o :: rest) a W := by
  obtain ⟨D, h, hmp, hD⟩ := h
  refine wpList_next_ranges W hg it hop 2 keyed2 rawR (Value.int .i64) (fun v : Value => v) (fun key kl hkey => by obtain ⟨x, rfl, _⟩ := Maps.keyOf_int_inv Tryd.underlying2 hkey; exact ⟨x, rfl⟩) (fun v y _ => ⟨v, rfl⟩) b r n D left cnt hit h (fun _ hl => hDone hl) (fun x v kl y w' cnt' hkey hlk hv hat hrg hlt hgr hsz hen => ?_)
  obtain ⟨x', ex, rfl, hwx⟩ := Maps.keyOf_int_inv Tryd.underlying2 hkey
  cases ex
  have hy : y = (.held v, []) := (Option.some.inj hv).symm
  subst hy
  have hF : F (.int .i64 x) = some v := by
    have h1 := (hD (.int .i64 x) .nil).symm.trans (hat .nil)
    cases hf : F (.int .i64 x) with
    | none => rw [hf] at h1; cases h1
    | some u => rw [hf] at h1; injection h1 with h1; rw [h1]
  have hWF : WF x := by
    simp [Lit.wf, IntKind.min, IntKind.max, IntKind.signed, IntKind.bits] at hwx
    unfold WF
    omega
  exact hMore x v w' cnt' hWF hlk hF ⟨D, hrg, hmp, hD⟩ hlt hgr hsz hen
end
end Go.Proofs.YtepaddjjdhpmpaaDoor.HeapA
