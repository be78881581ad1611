/- What the calls of tag.Set and of gristmillref.Tags come to: the tags in order, each once (slices.Clone, SortFunc, Compact are walked, or laid out of the library's contracts); a copy. No condition but the size of the row. -/
import Derived.Test.YtpmpmgoddgcnjaaDoorPTagsBx0
import Derived.Laws.MakeOwn
import Derived.Test.YtpmpmgoddgcnjaaDoorCompact
import Derived.Test.YtpmpmgoddgcnjaaDoorCmp
import Derived.Test.YtpmpmgoddgcnjaaDoorExt
import Derived.Test.YtpmpmgoddgcnjaaDoorTagOrd
import Derived.Test.YtpmpmgoddgcnjaaDoorSortLay
import Derived.Shelf.SlSortCmp.NoneTotal
namespace Go.Proofs.YtpmpmgoddgcnjaaDoor.ExtT
open Go.RowKit Go.Proofs.YtpmpmgoddgcnjaaDoor.PTagsB Go.Proofs.YtpmpmgoddgcnjaaDoorW.PrintWords Go.Proofs.YtpmpmgoddgcnjaaDoorW.PrintLast Go.Proofs.YtpmpmgoddgcnjaaDoorW.PrintMore
set_option linter.unusedVariables false
set_option linter.unusedSimpArgs false
theorem info23 : (Tryd.prog.info? 23).map (fun i => (i.zero, i.size, i.bytes)) = some (some (.agg #[(.int .i64 0), (.string ⟨#[]⟩), (.int .i64 0)]), 3, 32) := by kernel_rfl
theorem k23_M {w : World} {base : Nat} {ok : Nat → Prop} {x : S23} {cs : List Value} : k23.M w base ok x cs ↔ cs = Compact.enc x := by
  constructor
  · intro h
    obtain rfl := k23_openM h
    rfl
  · rintro rfl
    exact k23_mkM w base ok x
theorem k23_KM {w : World} {base : Nat} {ok : Nat → Prop} {x : S23} {cs : List Value} (h : k23.K w x cs) : k23.M w base ok x cs := by
  obtain rfl := k23_open h
  exact k23_mkM w base ok x
/-- slices.Clone at tags. -/
theorem Clone_calls (A : Option Addr) (c : Nat) (l : List S23) (w : World) (hr : Kd.C k23 w A l.length l) (hc : l.length ≤ c) (hs : l.length * 32 ≤ 140737488355328) :
    Calls Tryd.prog 27 #[.slice A l.length c] w fun e w' => ∃ v, e = .returned v ∧ Kd.R k23 23 w' w.heap.size (fun _ => True) v l ∧ Below w.heap.size w w' := by
  have hu23 := Tryd.underlying23
  cases A with
  | none =>
    have h0 : l = [] := by
      apply List.eq_nil_of_length_eq_zero
      rcases Nat.eq_zero_or_pos l.length with h | h
      · exact h
      · obtain ⟨ad, e, _⟩ := hr.2.2 h
        cases e
    subst h0
    have hq : (binOp .eql 24 (.slice none 0 c) (.slice none 0 0)).run Tryd.prog w = .ok (.bool true) w := Lib.run_eql_slice_nil w 24 23 none 0 c 0 0 Tryd.underlying24
    clear hr
    simp only [List.length_nil]
    go_enter Tryd.func27, Tryd.ntmps27
    go_wp2
    go_ret
    exact ⟨_, rfl, Kd.R_nil _ _ _ _ _, Below.refl _ _⟩
  | some ad =>
    have HR := Aside0.mk hr
    clear hr
    have hq : (binOp .eql 24 (.slice (some ad) l.length c) (.slice none 0 0)).run Tryd.prog w = .ok (.bool false) w := Lib.run_eql_slice_nil w 24 23 (some ad) l.length c 0 0 Tryd.underlying24
    go_enter Tryd.func27, Tryd.ntmps27
    go_wp2_with (refine Kd.R_append_rows k23 (w0 := w) w.heap.size rfl (.tmp 5) (.tmp 6) 24 23 (.agg #[(.int .i64 0), (.string ⟨#[]⟩), (.int .i64 0)]) 32 rfl Tryd.underlying24 info23 rfl (by decide) (by omega) (.slice (some ⟨w.heap.size, 0, none⟩) 0 0) ([] : List S23) l _ _ _ (fun _ => True) (fun _ => False) rfl rfl ?aO ?aR (fun _ _ h => k23_KM h) (fun _ h => h.elim) ?aF ?aB ?aS ?aL ?_)
    case aR => exact Kd.C_alloc HR.out _
    case aF => exact fun _ _ => trivial
    case aB => exact below_alloc (Below.refl _ _) _
    case aS => exact (below_alloc (Below.refl w.heap.size w) _).size
    case aL => simpa using hs
    case aO =>
      have h2 := World.ownsRow_lit (base := w.heap.size) (e := 23) (size := 3) w #[] 0 (Nat.le_refl _) (by decide) (by simp)
      exact ⟨fun _ _ => trivial, [], h2, Reps.none _ _⟩
    intro v1 w1 hR hB hg hat
    go_wp2
    go_ret
    exact ⟨_, rfl, hR, hB⟩

def gristmillref_Tags.f (l : List S23) : Option (List S23) := if l.length * 32 ≤ 140737488355328 then some l else none
set_option maxHeartbeats 4000000 in
set_option maxRecDepth 100000 in
theorem gristmillref_Tags.calls (A0 : Option Addr) (c0 : Nat) (l0 r : List S23) (w : World) (hr0 : Kd.C k23 w A0 l0.length l0) (hc0 : l0.length ≤ c0) (h : gristmillref_Tags.f l0 = some r) :
    Calls Tryd.prog 24 #[.slice A0 l0.length c0] w fun e w' => ∃ v0_ : Value, e = .returned (v0_) ∧ Kd.R k23 23 w' w.heap.size (fun _ => True) v0_ r ∧ Below w.heap.size w w' := by
  unfold gristmillref_Tags.f at h
  by_cases hs : l0.length * 32 ≤ 140737488355328
  · rw [if_pos hs] at h
    obtain rfl := Option.some.inj h
    clear h
    have hu23 := Tryd.underlying23
    obtain ⟨i0, hi0, hz⟩ := Option.map_eq_some_iff.1 info23
    simp only [Prod.mk.injEq] at hz
    obtain ⟨hz0, hz1, hz2⟩ := hz
    obtain ⟨w1, hmk, hown, hgr⟩ := run_make_own (P := Tryd.prog) w w.heap.size 24 23 i0 _ 3 Tryd.underlying24 hi0 hz0 hz1 .i64 .i64 l0.length (by rw [hz2]; omega) (by simp [maxLen]; omega) (Nat.le_refl _)
    have hB1 : Below w.heap.size w w1 := ⟨hgr.os, hgr.tape, hgr.output, hgr.size, fun k hk => hgr.block k hk (by simp)⟩
    have hR1 : Kd.R k23 23 w1 w.heap.size (fun _ => True) (.slice (some ⟨w.heap.size, 0, none⟩) 0 l0.length) [] := ⟨fun _ _ => trivial, [], hown, Reps.none _ _⟩
    clear hi0 hz0 hz1 hz2 hown hgr
    go_enter Tryd.func24, Tryd.ntmps24
    go_wp2
    clear hmk
    go_loopg [3, 4] (l0.length + 1) (fun kq v3 v4 w' => ∃ i : Nat, v4 = .int .i64 (i : Int) ∧ i + kq = l0.length + 1 ∧ 1 ≤ kq ∧ Aside0 (Kd.R k23 23 w' w.heap.size (fun _ => True) v3 (l0.take i)) ∧ Aside0 (Below w.heap.size w w'))
    case atStart => exact ⟨0, rfl, by omega, by omega, ⟨by rw [List.take_zero]; exact hR1⟩, ⟨hB1⟩⟩
    case round =>
      obtain ⟨i, rfl, hi, hk, hR, hB⟩ := hrel
      by_cases hlt : i < l0.length
      · have hC : Kd.C k23 wr A0 l0.length l0 := Kd.C_below hr0 hB.out
        obtain ⟨ad, hA, hw0, hw1, hw2⟩ := at_T23 hC (i : Int) (by omega) (by omega)
        subst hA
        have hx : rd_T23 l0 (i : Int) = l0[i] := by simp [rd_T23, hlt]
        simp only [Int.toNat_natCast] at hw0 hw1 hw2
        rw [hx] at hw0 hw1 hw2
        have p0 : 0 ≤ (i : Int) := by omega
        have q0 : (i : Int) < (l0.length : Int) := by omega
        have q1 : decide ((i : Int) < (l0.length : Int)) = true := decide_eq_true q0
        have hx2 := Aside0.mk (show l0.take (i + 1) = l0.take i ++ [l0[i]] by rw [List.take_add_one, List.getElem?_eq_getElem hlt]; rfl)
        have hC' := Aside0.mk hC
        clear hC hx
        generalize l0[i] = x at *
        go_wp2_with (refine Kd.R_append k23 (w0 := w) w.heap.size rfl (.tmp 14) (.tmp 19) 24 23 (.agg #[(.int .i64 0), (.string ⟨#[]⟩), (.int .i64 0)]) 32 rfl Tryd.underlying24 info23 rfl (by decide) (by omega) _ (l0.take i) x [.int .i64 x.f0, .string x.f1, .int .i64 x.f2] (fun _ => True) (fun _ => False) rfl rfl ?aP (fun _ h => h.elim) ?aF hR.out hB.out hB.out.size ?aL ?_)
        case aP => exact k23_mkM _ _ _ x
        case aF => exact fun _ _ => trivial
        case aL => rw [List.length_take]; omega
        rw [← hx2.out]
        intro v1 w2 hR2 hB2 _ _
        clear hR hB hC' hx2
        go_wp2
        go_roundg (gk - 1)
        case measure => omega
        case rel => exact ⟨i + 1, by go_num, by omega, by omega, ⟨hR2⟩, ⟨hB2⟩⟩
      · have q0 : decide ((i : Int) < (l0.length : Int)) = false := decide_eq_false (by omega)
        have hR3 := hR.out
        rw [List.take_of_length_le (by omega)] at hR3
        clear hR
        go_wp2
        go_ret
        exact ⟨_, rfl, hR3, hB.out⟩
  · rw [if_neg hs] at h
    cases h

open Go.Sort Go.Lib Go.Shelf
/-- A row is laid anew: what its block holds then; all else as it was. -/
theorem put_facts {w0 W : World} {base g n : Nat} {cur : Array Value} {d : Array S23} (hg : W.heap[g]? = some (.cells cur 23 (0, 0))) (hb : base ≤ g) (hB : Below base w0 W) (hd : d.size * 3 ≤ cur.size) :
    ∃ cur', (putRowK Compact.enc 3 (Sort.ahead W n) g 0 d).heap[g]? = some (.cells cur' 23 (0, 0)) ∧ cur'.size = cur.size ∧ (∀ j, j < d.size * 3 → cur'[j]? = some (flatK Compact.enc 3 d)[j]!) ∧ Below base w0 (putRowK Compact.enc 3 (Sort.ahead W n) g 0 d) ∧ (putRowK Compact.enc 3 (Sort.ahead W n) g 0 d).heap.size = W.heap.size := by
  refine ⟨putCells id 0 (flatK Compact.enc 3 d) cur, ?_, by simp [putCells], ?_, ?_, ?_⟩
  · simp only [putRowK, putRow, mapBlock, Sort.ahead, Array.getElem?_modify, if_true, hg, Option.map_some, onCells]
  · intro j hj
    have hj' : j < cur.size := by omega
    simp only [putCells, Array.getElem?_mapIdx, Array.getElem?_eq_getElem hj', Option.map_some, id]
    rw [if_pos ⟨Nat.zero_le _, by simpa using hj⟩, Nat.sub_zero]
  · refine ⟨hB.os, hB.tape, hB.output, by simpa [putRowK, putRow, mapBlock, Sort.ahead] using hB.size, fun k hk => ?_⟩
    rw [← hB.block k hk]
    simp only [putRowK, putRow, mapBlock, Sort.ahead, Array.getElem?_modify]
    rw [if_neg (by omega)]
  · simp [putRowK, putRow, mapBlock, Sort.ahead]
theorem flat_get (l : List S23) (j : Nat) (h : j < l.length * 3) : (flatK Compact.enc 3 l.toArray)[j]! = (Compact.enc (l[j / 3]'(by omega)))[j % 3]! := by
  rw [get_flatK _ _ _ j (by simpa using h)]
  have h3 : j / 3 < l.length := by omega
  rw [getElem!_pos l.toArray (j / 3) (by simpa using h3)]
  simp
/-- An own row of tags, by its block. -/
theorem R_iff_block {w : World} {base g cap : Nat} {l : List S23} {cur : Array Value} (hg : w.heap[g]? = some (.cells cur 23 (0, 0))) (hb : base ≤ g) (hc : l.length ≤ cap) (hm : cap ≤ maxLen) (hs : cur.size = cap * 3) (h : ∀ j, j < l.length * 3 → cur[j]? = some (flatK Compact.enc 3 l.toArray)[j]!) :
    Kd.R k23 23 w base (fun _ => True) (.slice (some ⟨g, 0, none⟩) l.length cap) l := by
  refine ⟨fun _ _ => trivial, cur.toList.take (l.length * 3), ⟨?_, .inr ⟨g, cap, cur, rfl, hb, hg, hc, hm, hs, rfl⟩⟩, ?_, ?_⟩
  · show (cur.toList.take (l.length * 3)).length = l.length * 3
    rw [List.length_take]; simp; omega
  · show (cur.toList.take (l.length * 3)).length = l.length * 3
    rw [List.length_take]; simp; omega
  · intro j p hp
    rw [k23_M]
    have hj : j < l.length := (List.getElem?_eq_some_iff.1 hp).1
    have hp' : l[j] = p := (List.getElem?_eq_some_iff.1 hp).2
    show ((cur.toList.take (l.length * 3)).drop (j * 3)).take 3 = _
    apply List.ext_getElem?
    intro i
    by_cases hi : i < 3
    · rw [List.getElem?_take_of_lt hi, List.getElem?_drop, List.getElem?_take_of_lt (by omega), Array.getElem?_toList, h (j * 3 + i) (by omega), flat_get l _ (by omega)]
      have e1 : (j * 3 + i) / 3 = j := by omega
      have e2 : (j * 3 + i) % 3 = i := by omega
      simp only [e1, e2, hp']
      rw [getElem!_pos (Compact.enc p) i hi, List.getElem?_eq_getElem hi]
    · rw [List.getElem?_eq_none (by rw [List.length_take]; omega), List.getElem?_eq_none (by show 3 ≤ i; omega)]
theorem block_of_R {w : World} {base : Nat} {v : Value} {l : List S23} (h : Kd.R k23 23 w base (fun _ => True) v l) :
    (v = .slice none 0 0 ∧ l = []) ∨ ∃ g cap cur, v = .slice (some ⟨g, 0, none⟩) l.length cap ∧ base ≤ g ∧ w.heap[g]? = some (.cells cur 23 (0, 0)) ∧ l.length ≤ cap ∧ cap ≤ maxLen ∧ cur.size = cap * 3 ∧ HoldsK Compact.enc 3 w g 0 l.toArray := by
  obtain ⟨_, inner, ⟨h1, h2⟩, h3⟩ := h
  rcases h2 with ⟨rfl, h2⟩ | ⟨g, cap, cur, rfl, hb, hg, hc, hm, hs, ht⟩
  · exact .inl ⟨rfl, List.eq_nil_of_length_eq_zero h2⟩
  · refine .inr ⟨g, cap, cur, rfl, hb, hg, hc, hm, hs, ?_⟩
    change cur.size = cap * 3 at hs
    change cur.toList.take (l.length * 3) = inner at ht
    subst ht
    intro j hj
    have hj3 : j < l.length * 3 := by simpa using hj
    have h3' := h3.2 (j / 3) _ (List.getElem?_eq_getElem (show j / 3 < l.length by omega))
    rw [k23_M] at h3'
    change ((cur.toList.take (l.length * 3)).drop (j / 3 * 3)).take 3 = _ at h3'
    have hlt : j < cur.size := by have := Nat.mul_le_mul_right 3 hc; omega
    have e : cur[j]? = some (flatK Compact.enc 3 l.toArray)[j]! := by
      rw [flat_get l j hj3, ← h3']
      have : (((cur.toList.take (l.length * 3)).drop (j / 3 * 3)).take 3)[j % 3]? = cur[j]? := by
        rw [List.getElem?_take_of_lt (by omega), List.getElem?_drop, show j / 3 * 3 + j % 3 = j by omega, List.getElem?_take_of_lt hj3, Array.getElem?_toList]
      rw [List.getElem!_eq_getElem?_getD, this, Array.getElem?_eq_getElem hlt]
      rfl
    refine ⟨?_, ?_⟩
    · simp only [World.cell?, Nat.zero_add, hg]
      simpa using e
    · simp [World.frozen?, hg]

theorem Compact_nil (w : World) : Calls Tryd.prog 29 #[.slice none 0 0] w fun e w' => e = .returned (.slice none 0 0) ∧ w' = w := by
  go_enter Tryd.func29, Tryd.ntmps29
  go_wp2
  go_ret
  exact ⟨rfl, rfl⟩
/-! The printed comparison's plain functions. -/
theorem cmpI_eq (a b : Int) : PTagsQ.cmp_Compare_int.f a b = some (TagOrd.cmpI a b) := by
  unfold PTagsQ.cmp_Compare_int.f PTagsQ.cmp_isNaN_int.f TagOrd.cmpI
  simp only [Option.bind_some, bne_self_eq_false, Bool.false_eq_true, if_false]
  by_cases h : a < b
  · rw [if_pos h, if_pos h]
  · rw [if_neg h, if_neg h]
    by_cases h' : b < a
    · rw [if_pos h', if_pos h']
    · rw [if_neg h', if_neg h']
theorem cmpS_eq (a b : ByteArray) : Ext.cmp_Compare_string.f a b = some (TagOrd.cmpS a b) := by
  unfold Ext.cmp_Compare_string.f TagOrd.cmpS
  repeat' split
  all_goals rfl
theorem or_eq (k : Nat) (x y z : Int) : PTagsQ.cmp_Or_int.f (k + 4) [x, y, z] = some (TagOrd.or3 x y z) := by
  unfold PTagsQ.cmp_Or_int.f TagOrd.or3
  simp only [PTagsQ.cmp_Or_int.l0]
  have w0 : wrap64 (0 + 1) = 1 := by unfold wrap64; omega
  have w1 : wrap64 (1 + 1) = 2 := by unfold wrap64; omega
  have w2 : wrap64 (2 + 1) = 3 := by unfold wrap64; omega
  have r0 : rd [x, y, z] 0 = x := rfl
  have r1 : rd [x, y, z] 1 = y := rfl
  have r2 : rd [x, y, z] 2 = z := rfl
  have l3 : (([x, y, z].length : Nat) : Int) = 3 := rfl
  rw [l3, if_pos (by decide), if_pos (by decide), if_pos (by decide), r0, w0]
  by_cases hx : x = 0
  · rw [if_pos hx, if_pos (by decide), if_pos (by decide), if_pos (by decide), r1, w1]
    by_cases hy : y = 0
    · rw [if_pos hy, if_pos (by decide), if_pos (by decide), if_pos (by decide), r2, w2]
      by_cases hz : z = 0
      · rw [if_pos hz, if_neg (by decide)]
        simp [hx, hy, hz]
      · rw [if_neg hz]
        simp [hx, hy]
    · rw [if_neg hy]
      simp [hx, hy]
  · rw [if_neg hx]
    simp [hx]
theorem compare_lays (blk size : Nat) (w : World) : CmpLays Tryd.prog 26 #[] Compact.enc 3 TagOrd.cmpT blk 0 size w := by
  intro m os dk _ x y
  have h : PTagsQ.tag_compare.f 4 x.f0 x.f1 x.f2 y.f0 y.f1 y.f2 = some (TagOrd.cmpT x y) := by
    unfold PTagsQ.tag_compare.f TagOrd.cmpT
    rw [cmpI_eq, Option.bind_some, cmpS_eq, Option.bind_some, cmpI_eq, Option.bind_some, or_eq 0]
    rfl
  refine (Cmp.compare_calls 4 x.f0 x.f1 x.f2 y.f0 y.f1 y.f2 _ _ h).mono ?_
  rintro e w' ⟨rfl, hB, hD⟩
  obtain ⟨q, hq⟩ := hD.out
  obtain ⟨os', h'⟩ := Cmp.grow_of_below hB hq
  exact ⟨rfl, q, os', h'⟩
/-- The tags in order, each once. -/
def setT (l : List S23) : List S23 := Lib.compact (l.mergeSort fun x y => !TagOrd.ltT y x)
def tag_Set.f (l : List S23) : Option (List S23) := if l.length * 32 ≤ 140737488355328 then some (setT l) else none
theorem sort_none (p : Option Addr) (cap : Nat) (fv : Value) (w : World) : Calls Tryd.prog 28 #[.slice p 0 cap, fv] w fun e w' => e = .returned (.tuple #[]) ∧ w' = w := by
  have h := AnyF.slices_SortFunc_none Tryd.sortT p cap fv w
  exact h
theorem sort_calls (g cap : Nat) (d : Array S23) (w : World) (hH : HoldsK Compact.enc 3 w g 0 d) (hblk : g < w.heap.size) (hsz : d.size < 4611686018427387904) :
    Calls Tryd.prog 28 #[.slice (some ⟨g, 0, none⟩) d.size cap, .func (.func 26) #[] #[]] w fun e w' => e = .returned (.tuple #[]) ∧ ∃ n os, w' = sortWorldK Compact.enc 3 w g 0 n (d.toList.mergeSort fun x y => !ltOf TagOrd.cmpT y x).toArray os := by
  have eg : ∀ args w, (callFunc 26 args).run Tryd.prog w = .ok (.enter 26 args) w := enters_of Tryd.func26 (by kernel_rfl) rfl
  have h := AnyQ.slices_SortFunc_total Tryd.sortT 3 Tryd.isAgg23 Tryd.sizeOf23 Compact.enc (fun _ => rfl) (fun x v hv => by simp [Compact.enc] at hv; rcases hv with rfl | rfl | rfl <;> rfl) TagOrd.cmpT TagOrd.swo 26 #[] g 0 cap d w eg (compare_lays g d.size w) hH hblk hsz TagOrd.total
  exact h
theorem tag_Set.calls (A0 : Option Addr) (c0 : Nat) (l0 r : List S23) (w : World) (hr0 : Kd.C k23 w A0 l0.length l0) (hc0 : l0.length ≤ c0) (h : tag_Set.f l0 = some r) :
    Calls Tryd.prog 13 #[.slice A0 l0.length c0] w fun e w' => ∃ v0_ : Value, e = .returned (v0_) ∧ Kd.R k23 23 w' w.heap.size (fun _ => True) v0_ r ∧ Below w.heap.size w w' := by
  unfold tag_Set.f at h
  by_cases hs : l0.length * 32 ≤ 140737488355328
  · rw [if_pos hs] at h
    obtain rfl := Option.some.inj h
    have hclone := Clone_calls A0 c0 l0 w hr0 hc0 hs
    clear h hr0
    go_enter Tryd.func13, Tryd.ntmps13
    go_wp2_with (go_at_call 27; refine hclone.mono ?_; rintro e w1 ⟨v, rfl, hR, hB⟩)
    rcases block_of_R hR with ⟨rfl, rfl⟩ | ⟨g, cap, cur, rfl, hb, hg, hc, hm, hcs, hH⟩
    · clear hR
      go_wp2_with (first | (go_at_call 28; refine (sort_none _ _ _ _).mono ?_; rintro e w2 ⟨rfl, rfl⟩) | (go_at_call 29; refine (Compact_nil _).mono ?_; rintro e w3 ⟨rfl, rfl⟩))
      have e0 : setT [] = [] := by simp [setT, Lib.compact, compactUpTo]
      rw [e0]
      go_ret
      exact ⟨_, rfl, Kd.R_nil _ _ _ _ _, hB⟩
    · clear hR
      have hlt : g < w1.heap.size := (Array.getElem?_eq_some_iff.1 hg).1
      have hsort := sort_calls g cap l0.toArray w1 hH hlt (by simp; omega)
      obtain ⟨s, hse⟩ : ∃ s, s = l0.mergeSort fun x y => !TagOrd.ltT y x := ⟨_, rfl⟩
      have hsl : s.length = l0.length := by rw [hse]; exact List.length_mergeSort _
      have hset : setT l0 = Lib.compact s := by rw [hse]; rfl
      simp only [List.size_toArray] at hsort
      rw [show (l0.mergeSort fun x y => !ltOf TagOrd.cmpT y x) = s from hse.symm] at hsort
      have hcomp : ∀ n os, Calls Tryd.prog 29 #[.slice (some ⟨g, 0, none⟩) l0.length cap] (sortWorldK Compact.enc 3 w1 g 0 n s.toArray os) fun e w' => e = .returned (.slice (some ⟨g, 0, none⟩) (Lib.compact s).length cap) ∧ Kd.R k23 23 w' w.heap.size (fun _ => True) (.slice (some ⟨g, 0, none⟩) (Lib.compact s).length cap) (Lib.compact s) ∧ Below w.heap.size w w' := by
        intro n os
        obtain ⟨cur2, hg2, hs2, hc2, hB2, hz2⟩ := put_facts (n := n) (d := s.toArray) hg hb hB (by simp [hsl]; omega)
        have hH2 : HoldsK Compact.enc 3 (sortWorldK Compact.enc 3 w1 g 0 n s.toArray os) g 0 s.toArray := by
          unfold sortWorldK
          refine holdsK_grow _ _ _ _ _ _ _ (by rw [hz2]; exact hlt) ?_
          exact holdsK_putRowK _ _ _ _ _ l0.toArray s.toArray (holdsK_ahead _ _ _ _ _ _ _ hH) (by simp [hsl])
        have h29 := Compact.Compact_arr g cap s.toArray _ hH2 (by simp [hsl, maxLen] at *; omega) (by simp [hsl]; omega)
        rw [show s.toArray.size = l0.length by simp [hsl]] at h29
        refine h29.mono ?_
        rintro e w' ⟨rfl, q, rfl⟩
        have hcl : (compactUpTo s.toArray l0.length) = Lib.compact s := by rw [← hsl]; rfl
        rw [hcl]
        have hg3 : (sortWorldK Compact.enc 3 w1 g 0 n s.toArray os).heap[g]? = some (.cells cur2 23 (0, 0)) := by
          unfold sortWorldK Sort.grow
          simp only
          rw [Array.getElem?_append_left (by rw [hz2]; exact hlt)]
          exact hg2
        have hB3 : Below w.heap.size w (sortWorldK Compact.enc 3 w1 g 0 n s.toArray os) := by
          unfold sortWorldK Sort.grow
          refine ⟨hB2.os, hB2.tape, hB2.output, ?_, fun k hk => ?_⟩
          · simp only [Array.size_append]
            have := hB2.size
            omega
          · simp only
            have := hB2.size
            rw [Array.getElem?_append_left (by omega)]
            exact hB2.block k hk
        have hle : (Lib.compact s).length ≤ s.length := by
          unfold Lib.compact compactUpTo
          rw [List.length_map]
          exact Nat.le_trans (List.length_filter_le _ _) (by simp)
        have hdz : (Lib.compact s ++ List.replicate (l0.length - (Lib.compact s).length) z23).toArray.size = l0.length := by simp; omega
        obtain ⟨cur3, hg4, hs4, hc4, hB4, _⟩ := put_facts (n := q) (d := (Lib.compact s ++ List.replicate (l0.length - (Lib.compact s).length) z23).toArray) hg3 hb hB3 (by rw [hdz]; omega)
        refine ⟨rfl, R_iff_block hg4 hb (by omega) hm (by omega) ?_, hB4⟩
        intro j hj
        rw [hc4 j (by rw [hdz]; omega), get_flatK _ _ _ _ (by rw [hdz]; omega), get_flatK _ _ _ _ (by simpa using hj)]
        congr 3
        rw [getElem!_pos _ _ (by rw [hdz]; omega), getElem!_pos _ _ (by simp; omega)]
        simp only [List.getElem_toArray]
        rw [List.getElem_append_left]
      have HS := Aside0.mk (And.intro hg (And.intro hb (And.intro hcs (And.intro hB hH))))
      clear hg hcs hB hH hclone hse HS
      go_wp2_with (first | (go_at_call 28; refine hsort.mono ?_; rintro e w2 ⟨rfl, n, os, rfl⟩) | (go_at_call 29; refine (hcomp _ _).mono ?_; rintro e w3 ⟨rfl, hR3, hB3⟩))
      rw [hset]
      go_ret
      exact ⟨_, rfl, hR3, hB3⟩
  · rw [if_neg hs] at h
    cases h


/-! The elder contracts, under this text's name. -/
abbrev strconv_Itoa.f (a0 : Int) : Option ByteArray := Ext.strconv_Itoa.f a0
theorem strconv_Itoa.calls (a0 : Int) (r : ByteArray) (w : World) (h : strconv_Itoa.f a0 = some r) :
    Calls Tryd.prog 33 #[.int .i64 a0] w fun e w' => e = .returned (.string r) ∧ Drawn0 w w' := Ext.strconv_Itoa.calls a0 r w h
abbrev cmp_Compare_string.f (a0 a1 : ByteArray) : Option Int := Ext.cmp_Compare_string.f a0 a1
theorem cmp_Compare_string.calls (a0 a1 : ByteArray) (r : Int) (w : World) (h : cmp_Compare_string.f a0 a1 = some r) :
    Calls Tryd.prog 36 #[.string a0, .string a1] w fun e w' => e = .returned (.int .i64 r) ∧ Drawn0 w w' := Ext.cmp_Compare_string.calls a0 a1 r w h
/-- The document's text of a right tag. -/
def gristmillref14_TagText.f (a0_0 : Int) (a0_1 : ByteArray) (a0_2 : Int) : Option ByteArray :=
  if 1 ≤ a0_0 ∧ a0_0 ≤ 6 ∧ a0_1.size ≤ 140737488351232 ∧ 0 ≤ a0_2 ∧ a0_2 < 100 then some ((((⟨#[32, 67, 70, 80, 65, 73, 68]⟩ : ByteArray).extract a0_0.toNat (a0_0.toNat + 1) ++ a0_1) ++ (⟨#[47]⟩ : ByteArray)) ++ (⟨(Lib.decDigits a0_2.toNat).toArray⟩ : ByteArray)) else none
theorem dec_len (n : Nat) (h : n < 100) : (⟨(Lib.decDigits n).toArray⟩ : ByteArray).size ≤ 2 := by
  show (Lib.decDigits n).length ≤ 2
  unfold Lib.decDigits
  split
  · simp
  · unfold Lib.decDigits
    rw [dif_pos (by omega)]
    simp
set_option maxHeartbeats 8000000 in
set_option maxRecDepth 100000 in
theorem gristmillref14_TagText.calls (a0_0 : Int) (a0_1 : ByteArray) (a0_2 : Int) (r : ByteArray) (w : World) (h : gristmillref14_TagText.f a0_0 a0_1 a0_2 = some r) :
    Calls Tryd.prog 22 #[.agg #[.int .i64 a0_0, .string a0_1, .int .i64 a0_2]] w fun e w' => e = .returned (.string r) ∧ Below w.heap.size w w' := by
  unfold gristmillref14_TagText.f at h
  by_cases hc : 1 ≤ a0_0 ∧ a0_0 ≤ 6 ∧ a0_1.size ≤ 140737488351232 ∧ 0 ≤ a0_2 ∧ a0_2 < 100
  · rw [if_pos hc] at h
    obtain rfl := Option.some.inj h
    obtain ⟨h1, h6, hs, n0, n1⟩ := hc
    have hI : Ext.strconv_Itoa.f a0_2 = some (⟨(Lib.decDigits a0_2.toNat).toArray⟩ : ByteArray) := by
      unfold Ext.strconv_Itoa.f
      rw [if_pos n0, if_pos n1]
    have hC := fun W => Ext.strconv_Itoa.calls a0_2 _ W hI
    have hd := dec_len a0_2.toNat (by omega)
    have hu23 := Tryd.underlying23
    clear h hI
    generalize (⟨(Lib.decDigits a0_2.toNat).toArray⟩ : ByteArray) = dg at *
    have b0 : 1 + a0_1.size ≤ 9223372036854775807 := by omega
    have b1 : 1 + a0_1.size + 1 ≤ 9223372036854775807 := by omega
    have b2 : 1 + a0_1.size + 1 + dg.size ≤ 9223372036854775807 := by omega
    have b0' := eq_true b0; have b1' := eq_true b1; have b2' := eq_true b2
    have b0f := eq_false (Nat.not_lt.2 b0); have b1f := eq_false (Nat.not_lt.2 b1); have b2f := eq_false (Nat.not_lt.2 b2)
    obtain rfl | rfl | rfl | rfl | rfl | rfl : a0_0 = 1 ∨ a0_0 = 2 ∨ a0_0 = 3 ∨ a0_0 = 4 ∨ a0_0 = 5 ∨ a0_0 = 6 := by omega
    · have hw : IntKind.i64.wrap 2 = 2 := by decide
      have hsl : ∀ W : World, (Instr.slice 9 (.string ⟨#[32, 67, 70, 80, 65, 73, 68]⟩) (some (.int .i64 1)) (some (.int .i64 2)) none).run Tryd.prog W = .ok (.string (⟨#[67]⟩ : ByteArray)) W := fun W => by rfl
      go_enter Tryd.func22, Tryd.ntmps22
      go_wp2_with (first | ((with_reducible refine gate_dst (N := 1) rfl ?_); refine box_event ?hg (N := 1) ?hd (cs := #[.int .i64 1, .string a0_1, .int .i64 a0_2]) (t := 23) ?hr ?_; (case hd => rfl); (case hg => rfl); (case hr => first | (go_simp; done) | (go_simp; rfl)); intro gb hg w2 hbox hb2; have HB2 := Aside0.mk hb2; have hcz0 : w2.cell? ⟨gb, 0, none⟩ = some (.int .i64 1) := (blk_cell hbox 0).trans rfl; have hcz1 : w2.cell? ⟨gb, 1, none⟩ = some (.string a0_1) := (blk_cell hbox 1).trans rfl; have hcz2 : w2.cell? ⟨gb, 2, none⟩ = some (.int .i64 a0_2) := (blk_cell hbox 2).trans rfl; clear hbox hb2 hg))
      repeat (go_quiet (first | (go_at_call 33; refine (hC _).mono ?_; rintro e w' ⟨rfl, ⟨nd, rfl⟩⟩; (try first | exact ⟨rfl, _, World.drewN_drewN _ _ _⟩ | exact ⟨rfl, _, Eq.trans (World.drewN_drewN _ _ _) (congrArg (World.drewN _) (Nat.add_assoc _ _ _))⟩))); try go_wp2)
      go_ret
      exact ⟨rfl, by repeat (first | (with_reducible first | exact HB2.out | apply below_alloc | apply pw_below_drewN | apply below_drew1) | exact HB2.out)⟩
    · have hw : IntKind.i64.wrap 3 = 3 := by decide
      have hsl : ∀ W : World, (Instr.slice 9 (.string ⟨#[32, 67, 70, 80, 65, 73, 68]⟩) (some (.int .i64 2)) (some (.int .i64 3)) none).run Tryd.prog W = .ok (.string (⟨#[70]⟩ : ByteArray)) W := fun W => by rfl
      go_enter Tryd.func22, Tryd.ntmps22
      go_wp2_with (first | ((with_reducible refine gate_dst (N := 1) rfl ?_); refine box_event ?hg (N := 1) ?hd (cs := #[.int .i64 2, .string a0_1, .int .i64 a0_2]) (t := 23) ?hr ?_; (case hd => rfl); (case hg => rfl); (case hr => first | (go_simp; done) | (go_simp; rfl)); intro gb hg w2 hbox hb2; have HB2 := Aside0.mk hb2; have hcz0 : w2.cell? ⟨gb, 0, none⟩ = some (.int .i64 2) := (blk_cell hbox 0).trans rfl; have hcz1 : w2.cell? ⟨gb, 1, none⟩ = some (.string a0_1) := (blk_cell hbox 1).trans rfl; have hcz2 : w2.cell? ⟨gb, 2, none⟩ = some (.int .i64 a0_2) := (blk_cell hbox 2).trans rfl; clear hbox hb2 hg))
      repeat (go_quiet (first | (go_at_call 33; refine (hC _).mono ?_; rintro e w' ⟨rfl, ⟨nd, rfl⟩⟩; (try first | exact ⟨rfl, _, World.drewN_drewN _ _ _⟩ | exact ⟨rfl, _, Eq.trans (World.drewN_drewN _ _ _) (congrArg (World.drewN _) (Nat.add_assoc _ _ _))⟩))); try go_wp2)
      go_ret
      exact ⟨rfl, by repeat (first | (with_reducible first | exact HB2.out | apply below_alloc | apply pw_below_drewN | apply below_drew1) | exact HB2.out)⟩
    · have hw : IntKind.i64.wrap 4 = 4 := by decide
      have hsl : ∀ W : World, (Instr.slice 9 (.string ⟨#[32, 67, 70, 80, 65, 73, 68]⟩) (some (.int .i64 3)) (some (.int .i64 4)) none).run Tryd.prog W = .ok (.string (⟨#[80]⟩ : ByteArray)) W := fun W => by rfl
      go_enter Tryd.func22, Tryd.ntmps22
      go_wp2_with (first | ((with_reducible refine gate_dst (N := 1) rfl ?_); refine box_event ?hg (N := 1) ?hd (cs := #[.int .i64 3, .string a0_1, .int .i64 a0_2]) (t := 23) ?hr ?_; (case hd => rfl); (case hg => rfl); (case hr => first | (go_simp; done) | (go_simp; rfl)); intro gb hg w2 hbox hb2; have HB2 := Aside0.mk hb2; have hcz0 : w2.cell? ⟨gb, 0, none⟩ = some (.int .i64 3) := (blk_cell hbox 0).trans rfl; have hcz1 : w2.cell? ⟨gb, 1, none⟩ = some (.string a0_1) := (blk_cell hbox 1).trans rfl; have hcz2 : w2.cell? ⟨gb, 2, none⟩ = some (.int .i64 a0_2) := (blk_cell hbox 2).trans rfl; clear hbox hb2 hg))
      repeat (go_quiet (first | (go_at_call 33; refine (hC _).mono ?_; rintro e w' ⟨rfl, ⟨nd, rfl⟩⟩; (try first | exact ⟨rfl, _, World.drewN_drewN _ _ _⟩ | exact ⟨rfl, _, Eq.trans (World.drewN_drewN _ _ _) (congrArg (World.drewN _) (Nat.add_assoc _ _ _))⟩))); try go_wp2)
      go_ret
      exact ⟨rfl, by repeat (first | (with_reducible first | exact HB2.out | apply below_alloc | apply pw_below_drewN | apply below_drew1) | exact HB2.out)⟩
    · have hw : IntKind.i64.wrap 5 = 5 := by decide
      have hsl : ∀ W : World, (Instr.slice 9 (.string ⟨#[32, 67, 70, 80, 65, 73, 68]⟩) (some (.int .i64 4)) (some (.int .i64 5)) none).run Tryd.prog W = .ok (.string (⟨#[65]⟩ : ByteArray)) W := fun W => by rfl
      go_enter Tryd.func22, Tryd.ntmps22
      go_wp2_with (first | ((with_reducible refine gate_dst (N := 1) rfl ?_); refine box_event ?hg (N := 1) ?hd (cs := #[.int .i64 4, .string a0_1, .int .i64 a0_2]) (t := 23) ?hr ?_; (case hd => rfl); (case hg => rfl); (case hr => first | (go_simp; done) | (go_simp; rfl)); intro gb hg w2 hbox hb2; have HB2 := Aside0.mk hb2; have hcz0 : w2.cell? ⟨gb, 0, none⟩ = some (.int .i64 4) := (blk_cell hbox 0).trans rfl; have hcz1 : w2.cell? ⟨gb, 1, none⟩ = some (.string a0_1) := (blk_cell hbox 1).trans rfl; have hcz2 : w2.cell? ⟨gb, 2, none⟩ = some (.int .i64 a0_2) := (blk_cell hbox 2).trans rfl; clear hbox hb2 hg))
      repeat (go_quiet (first | (go_at_call 33; refine (hC _).mono ?_; rintro e w' ⟨rfl, ⟨nd, rfl⟩⟩; (try first | exact ⟨rfl, _, World.drewN_drewN _ _ _⟩ | exact ⟨rfl, _, Eq.trans (World.drewN_drewN _ _ _) (congrArg (World.drewN _) (Nat.add_assoc _ _ _))⟩))); try go_wp2)
      go_ret
      exact ⟨rfl, by repeat (first | (with_reducible first | exact HB2.out | apply below_alloc | apply pw_below_drewN | apply below_drew1) | exact HB2.out)⟩
    · have hw : IntKind.i64.wrap 6 = 6 := by decide
      have hsl : ∀ W : World, (Instr.slice 9 (.string ⟨#[32, 67, 70, 80, 65, 73, 68]⟩) (some (.int .i64 5)) (some (.int .i64 6)) none).run Tryd.prog W = .ok (.string (⟨#[73]⟩ : ByteArray)) W := fun W => by rfl
      go_enter Tryd.func22, Tryd.ntmps22
      go_wp2_with (first | ((with_reducible refine gate_dst (N := 1) rfl ?_); refine box_event ?hg (N := 1) ?hd (cs := #[.int .i64 5, .string a0_1, .int .i64 a0_2]) (t := 23) ?hr ?_; (case hd => rfl); (case hg => rfl); (case hr => first | (go_simp; done) | (go_simp; rfl)); intro gb hg w2 hbox hb2; have HB2 := Aside0.mk hb2; have hcz0 : w2.cell? ⟨gb, 0, none⟩ = some (.int .i64 5) := (blk_cell hbox 0).trans rfl; have hcz1 : w2.cell? ⟨gb, 1, none⟩ = some (.string a0_1) := (blk_cell hbox 1).trans rfl; have hcz2 : w2.cell? ⟨gb, 2, none⟩ = some (.int .i64 a0_2) := (blk_cell hbox 2).trans rfl; clear hbox hb2 hg))
      repeat (go_quiet (first | (go_at_call 33; refine (hC _).mono ?_; rintro e w' ⟨rfl, ⟨nd, rfl⟩⟩; (try first | exact ⟨rfl, _, World.drewN_drewN _ _ _⟩ | exact ⟨rfl, _, Eq.trans (World.drewN_drewN _ _ _) (congrArg (World.drewN _) (Nat.add_assoc _ _ _))⟩))); try go_wp2)
      go_ret
      exact ⟨rfl, by repeat (first | (with_reducible first | exact HB2.out | apply below_alloc | apply pw_below_drewN | apply below_drew1) | exact HB2.out)⟩
    · have hw : IntKind.i64.wrap 7 = 7 := by decide
      have hsl : ∀ W : World, (Instr.slice 9 (.string ⟨#[32, 67, 70, 80, 65, 73, 68]⟩) (some (.int .i64 6)) (some (.int .i64 7)) none).run Tryd.prog W = .ok (.string (⟨#[68]⟩ : ByteArray)) W := fun W => by rfl
      go_enter Tryd.func22, Tryd.ntmps22
      go_wp2_with (first | ((with_reducible refine gate_dst (N := 1) rfl ?_); refine box_event ?hg (N := 1) ?hd (cs := #[.int .i64 6, .string a0_1, .int .i64 a0_2]) (t := 23) ?hr ?_; (case hd => rfl); (case hg => rfl); (case hr => first | (go_simp; done) | (go_simp; rfl)); intro gb hg w2 hbox hb2; have HB2 := Aside0.mk hb2; have hcz0 : w2.cell? ⟨gb, 0, none⟩ = some (.int .i64 6) := (blk_cell hbox 0).trans rfl; have hcz1 : w2.cell? ⟨gb, 1, none⟩ = some (.string a0_1) := (blk_cell hbox 1).trans rfl; have hcz2 : w2.cell? ⟨gb, 2, none⟩ = some (.int .i64 a0_2) := (blk_cell hbox 2).trans rfl; clear hbox hb2 hg))
      repeat (go_quiet (first | (go_at_call 33; refine (hC _).mono ?_; rintro e w' ⟨rfl, ⟨nd, rfl⟩⟩; (try first | exact ⟨rfl, _, World.drewN_drewN _ _ _⟩ | exact ⟨rfl, _, Eq.trans (World.drewN_drewN _ _ _) (congrArg (World.drewN _) (Nat.add_assoc _ _ _))⟩))); try go_wp2)
      go_ret
      exact ⟨rfl, by repeat (first | (with_reducible first | exact HB2.out | apply below_alloc | apply pw_below_drewN | apply below_drew1) | exact HB2.out)⟩
  · rw [if_neg hc] at h
    cases h
end Go.Proofs.YtpmpmgoddgcnjaaDoor.ExtT
