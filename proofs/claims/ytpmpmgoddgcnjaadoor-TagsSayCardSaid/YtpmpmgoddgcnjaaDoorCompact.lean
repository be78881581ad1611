/- What a call of slices.Compact at tags comes to: the row holds each of what stands in line once, then zero values. No condition but that the row is within its bounds. -/
import Derived.Test.YtpmpmgoddgcnjaaDoorPTagsBx0
import Derived.Shelf.RegionOpenPlain
import Derived.Lib.SlicesCompact
import Derived.Lib.SliceRun
import Derived.Lib.SlicesS
import Derived.Sort.WalkB12
import Derived.Shelf.GgSortFunc.RowK
namespace Go.Proofs.YtpmpmgoddgcnjaaDoor.Compact
open Go.RowKit Go.Lib Go.Sort Go.Shelf Go.Proofs.YtpmpmgoddgcnjaaDoor.PTagsB Go.Proofs.YtpmpmgoddgcnjaaDoorW.PrintWords Go.Proofs.YtpmpmgoddgcnjaaDoorW.PrintLast
set_option linter.unusedVariables false
set_option linter.unusedSimpArgs false
instance : DecidableEq S23 := fun a b => decidable_of_iff (a.f0 = b.f0 ∧ a.f1 = b.f1 ∧ a.f2 = b.f2) ⟨fun ⟨x, y, z⟩ => by cases a; cases b; simp_all, fun h => by subst h; exact ⟨rfl, rfl, rfl⟩⟩
instance : Inhabited S23 := ⟨z23⟩
/-- A tag's three cells. -/
def enc (x : S23) : List Value := [.int .i64 x.f0, .string x.f1, .int .i64 x.f2]
theorem cells_of {w : World} {blk : Nat} {d : Array S23} (h : HoldsK enc 3 w blk 0 d) {i : Nat} (hi : i < d.size) :
    (w.cell? ⟨blk, i * 3, none⟩ = some (.int .i64 d[i]!.f0) ∧ w.cell? ⟨blk, i * 3 + 1, none⟩ = some (.string d[i]!.f1) ∧ w.cell? ⟨blk, i * 3 + 2, none⟩ = some (.int .i64 d[i]!.f2)) ∧
    (w.frozen? ⟨blk, i * 3, none⟩ = false ∧ w.frozen? ⟨blk, i * 3 + 1, none⟩ = false ∧ w.frozen? ⟨blk, i * 3 + 2, none⟩ = false) := by
  have h0 := h.cell (i := i) (c := 0) hi (by omega)
  have h1 := h.cell (i := i) (c := 1) hi (by omega)
  have h2 := h.cell (i := i) (c := 2) hi (by omega)
  simp only [Nat.zero_add, Nat.add_zero] at h0 h1 h2
  exact ⟨⟨h0.1, h1.1, h2.1⟩, h0.2, h1.2, h2.2⟩
theorem flatK_set (d : Array S23) (i : Nat) (x : S23) (hi : i < d.size) : setMany (flatK enc 3 d) (i * 3) (enc x) = flatK enc 3 (d.setIfInBounds i x) := by
  refine ext_get! (by simp) fun t ht => ?_
  have ht' : t < d.size * 3 := by simpa using ht
  rw [get_setMany _ _ _ t (by simpa using ht'), get_flatK enc 3 (d.setIfInBounds i x) t (by simpa using ht')]
  have hl : (enc x).length = 3 := rfl
  rw [hl]
  by_cases a : t / 3 = i
  · rw [if_pos (by omega), a, getElem!_set_same _ _ _ hi, show t - i * 3 = t % 3 by omega]
  · rw [if_neg (by omega), get_flatK _ _ _ t ht', getElem!_set_other _ _ _ _ a]
theorem putRowK_store (w : World) (blk : Nat) (d : Array S23) (i : Nat) (x : S23) (hi : i < d.size) : (putRowK enc 3 w blk 0 d).setCells blk (i * 3) (enc x) = putRowK enc 3 w blk 0 (d.setIfInBounds i x) := by
  have h := setCells_putRow w blk 0 (enc x) (i * 3) (flatK enc 3 d) (by simp [enc]; omega)
  rw [Nat.zero_add] at h
  unfold putRowK
  rw [h, flatK_set d i x hi]
theorem setCells_app (blk : Nat) : ∀ (a b : List Value) (o : Nat) (w : World), w.setCells blk o (a ++ b) = (w.setCells blk o a).setCells blk (o + a.length) b
  | [], b, o, w => rfl
  | v :: r, b, o, w => by
    show (w.setCell ⟨blk, o, none⟩ v).setCells blk (o + 1) (r ++ b) = _
    rw [setCells_app blk r b (o + 1)]
    show _ = ((w.setCell ⟨blk, o, none⟩ v).setCells blk (o + 1) r).setCells blk (o + (r.length + 1)) b
    rw [show o + 1 + r.length = o + (r.length + 1) by omega]
theorem flat_succ (n : Nat) (z : S23) : (flatK enc 3 (Array.replicate (n + 1) z)).toList = enc z ++ (flatK enc 3 (Array.replicate n z)).toList := by
  have h : flatK enc 3 (Array.replicate (n + 1) z) = (enc z ++ (flatK enc 3 (Array.replicate n z)).toList).toArray := by
    refine ext_get! (by simp [enc]; omega) fun t ht => ?_
    have ht' : t < (n + 1) * 3 := by simpa using ht
    rw [get_flatK _ _ _ t (by simpa using ht')]
    have hr : (Array.replicate (n + 1) z)[t / 3]! = z := by rw [getElem!_pos _ _ (by simp; omega)]; simp
    rw [hr, getElem!_pos _ t (by simp [enc]; omega)]
    simp only [List.getElem_toArray]
    by_cases h3 : t < 3
    · rw [List.getElem_append_left (by exact h3), show t % 3 = t by omega, getElem!_pos (enc z) t h3]
    · rw [List.getElem_append_right (by show 3 ≤ t; omega)]
      have hl : (enc z).length = 3 := rfl
      have e : (flatK enc 3 (Array.replicate n z)).toList[t - (enc z).length]'(by simp [hl]; omega) = (flatK enc 3 (Array.replicate n z))[t - 3]! := by
        rw [getElem!_pos _ _ (by simp; omega)]; simp [hl]
      rw [e, get_flatK _ _ _ _ (by simp; omega)]
      have hr : (Array.replicate n z)[(t - 3) / 3]! = z := by rw [getElem!_pos _ _ (by simp; omega)]; simp
      rw [hr, show (t - 3) % 3 = t % 3 by omega]
  rw [h]
theorem putRowK_clear (w : World) (blk : Nat) (z : S23) : ∀ (n : Nat) (d : Array S23) (k : Nat), k + n ≤ d.size → (putRowK enc 3 w blk 0 d).setCells blk (k * 3) (flatK enc 3 (Array.replicate n z)).toList = putRowK enc 3 w blk 0 (lay d k (List.replicate n z))
  | 0, d, k, h => by
    have e : (flatK enc 3 (Array.replicate 0 z)).toList = [] := List.eq_nil_of_length_eq_zero (by simp)
    rw [e]; rfl
  | n + 1, d, k, h => by
    rw [flat_succ, setCells_app, putRowK_store w blk d k z (by omega), List.replicate_succ, lay]
    have := putRowK_clear w blk z n (d.setIfInBounds k z) (k + 1) (by simp; omega)
    rw [← this]
    rw [show (k + 1) * 3 = k * 3 + (enc z).length by show (k + 1) * 3 = k * 3 + 3; omega]
theorem eqA23 (d : Nat) (w : World) (x0 y0 : Int) (x1 y1 : ByteArray) (x2 y2 : Int) :
    (Op.equalIn (d + 2) 23 (.agg #[.int .i64 x0, .string x1, .int .i64 x2]) (.agg #[.int .i64 y0, .string y1, .int .i64 y2])).run Tryd.prog w = .ok (x0 == y0 && (x1.toList == y1.toList && (x2 == y2))) w := by
  refine eqA_of Tryd.underlying23 (by kernel_rfl) ?_
  refine eqf_cons (by rfl) (by go_simp; rfl) (by go_simp; rfl) (by go_simp) ?_
  refine eqf_cons (by rfl) (by go_simp; rfl) (by go_simp; rfl) (by go_simp) ?_
  exact eqf_last (by rfl) (by go_simp; rfl) (by go_simp; rfl) (by go_simp)
theorem toList_inj {a b : ByteArray} (h : a.toList = b.toList) : a = b := by
  rw [ByteArray.toList_eq, ByteArray.toList_eq] at h
  cases a; cases b
  simp only at h
  rw [Array.toList_inj.1 h]
theorem ne_bool {x y : S23} (h : x ≠ y) : (x.f0 == y.f0 && (x.f1.toList == y.f1.toList && (x.f2 == y.f2))) = false := by
  rw [Bool.eq_false_iff]
  intro e
  simp only [Bool.and_eq_true, beq_iff_eq] at e
  obtain ⟨e0, e1, e2⟩ := e
  have := toList_inj e1
  cases x; cases y
  simp_all
/-- 'clear' on a slice of tags. -/
theorem clear_tags (w : World) (ty : TypeId) (b o n c : Nat) (hn : 0 < n)
    (hc : ∀ j, j < n * 3 → (w.cell? ⟨b, o + j, none⟩).isSome = true) (hf : ∀ j, j < n * 3 → w.frozen? ⟨b, o + j, none⟩ = false) :
    (Builtin.clear_ #[24] ty #[.slice (some ⟨b, o, none⟩) n c]).run Tryd.prog w = .ok (.tuple #[]) (w.setCells b o (flatK enc 3 (Array.replicate n z23)).toList) := by
  have hz : ∀ w, (zeroValue 23).run Tryd.prog w = .ok (.agg #[.int .i64 0, .string ⟨#[]⟩, .int .i64 0]) w := fun w => Tryd.zeroValue23 w
  have hl : (flatK enc 3 (Array.replicate n z23)).toList.length = n * 3 := by simp
  have hzc : (Builtin.zeroCells (Value.agg #[.int .i64 0, .string ⟨#[]⟩, .int .i64 0]).cells n) = flatK enc 3 (Array.replicate n z23) := by
    refine ext_get! (by simp [Builtin.zeroCells, Value.cells]) fun t ht => ?_
    have ht' : t < n * 3 := by simpa [Builtin.zeroCells, Value.cells] using ht
    rw [get_flatK _ _ _ t (by simpa using ht')]
    have hr : (Array.replicate n z23)[t / 3]! = z23 := by rw [getElem!_pos _ _ (by simp; omega)]; simp
    rw [hr]
    rw [getElem!_pos _ t ht]
    simp only [Builtin.zeroCells, Value.cells, Array.getElem_map, Array.getElem_range]
    show (#[Value.int .i64 0, .string ⟨#[]⟩, .int .i64 0] : Array Value)[t % 3]! = _
    have h3 : t % 3 = 0 ∨ t % 3 = 1 ∨ t % 3 = 2 := by omega
    rcases h3 with h3 | h3 | h3 <;> rw [h3] <;> rfl
  have hst := run_storeCells_cells (P := Tryd.prog) b o (flatK enc 3 (Array.replicate n z23)).toList 0 w (by rw [hl]; simpa using hc) (by rw [hl]; simpa using hf) (by
    intro v hv
    obtain ⟨t, ht, rfl⟩ := List.getElem_of_mem hv
    rw [hl] at ht
    have : (flatK enc 3 (Array.replicate n z23)).toList[t]'(by rw [hl]; exact ht) = (flatK enc 3 (Array.replicate n z23))[t]! := by rw [getElem!_pos _ _ (by simpa using ht)]; simp
    rw [this, get_flatK _ _ _ t (by simpa using ht)]
    generalize (Array.replicate n z23)[t / 3]! = y
    have h3 : t % 3 = 0 ∨ t % 3 = 1 ∨ t % 3 = 2 := by omega
    rcases h3 with h3 | h3 | h3 <;> rw [h3] <;> rfl)
  simp only [Nat.add_zero] at hst
  obtain ⟨m, rfl⟩ : ∃ m, n = m + 1 := ⟨n - 1, by omega⟩
  simp [Builtin.clear_, run_underlying Tryd.underlying24, hz, hzc, hst]
attribute [local go_sem high] eqA23
set_option maxHeartbeats 4000000 in
set_option maxRecDepth 1000000 in
theorem Compact_arr (blk cap : Nat) (d : Array S23) (w : World) (hH : HoldsK enc 3 w blk 0 d) (hsz : d.size ≤ 9223372036854775807) (hcap : d.size ≤ cap) :
    Calls Tryd.prog 29 #[.slice (some ⟨blk, 0, none⟩) d.size cap] w fun e w' => e = .returned (.slice (some ⟨blk, 0, none⟩) (compactUpTo d d.size).length cap) ∧ ∃ q, w' = putRowK enc 3 (Sort.ahead w q) blk 0 (compactUpTo d d.size ++ List.replicate (d.size - (compactUpTo d d.size).length) z23).toArray := by
  have hu23 := Tryd.underlying23
  have same : ∀ q, (∀ j, j < d.size → keeps d j = true) → (compactUpTo d d.size).length = d.size ∧ w.drewN q = putRowK enc 3 (Sort.ahead w q) blk 0 (compactUpTo d d.size ++ List.replicate (d.size - (compactUpTo d d.size).length) z23).toArray := by
    intro q hall
    have e : compactUpTo d d.size = d.toList := by rw [compactUpTo_all d _ hall, range_map_get]
    rw [e]
    refine ⟨by simp, ?_⟩
    simp only [Array.length_toList, Nat.sub_self, List.replicate_zero, List.append_nil, Array.toArray_toList]
    exact (putRowK_self enc 3 (Sort.ahead w q) blk 0 d (holdsK_ahead enc 3 w q blk 0 d hH)).symm
  have HS : Aside (∀ q, (∀ j, j < d.size → keeps d j = true) → (compactUpTo d d.size).length = d.size ∧ w.drewN q = putRowK enc 3 (Sort.ahead w q) blk 0 (compactUpTo d d.size ++ List.replicate (d.size - (compactUpTo d d.size).length) z23).toArray) := same
  clear same
  by_cases h2 : d.size < 2
  · have HH : Aside (HoldsK enc 3 w blk 0 d) := hH
    clear hH
    go_enter Tryd.func29, Tryd.ntmps29
    go_wp2
    go_ret
    obtain ⟨e1, e2⟩ := HS.out 0 (fun j hj => keeps_lt_one d j (by omega))
    exact ⟨by rw [e1]; rfl, 0, e2⟩
  · go_enter Tryd.func29, Tryd.ntmps29
    go_wp2
    go_loopg [3] d.size (fun g s3 wr => ∃ k q : Nat, 1 ≤ k ∧ k ≤ d.size ∧ d.size - k ≤ g ∧ s3 = .int .i64 k ∧ wr = w.drewN q ∧ ∀ j, j < k → keeps d j = true)
    case atStart => exact ⟨1, 0, Nat.le_refl _, by omega, by omega, rfl, rfl, keeps_lt_one d⟩
    case round =>
      obtain ⟨k, q, hk1, hk, hg, rfl, rfl, hall⟩ := hrel
      by_cases hlt : k < d.size
      · obtain ⟨⟨c10, c11, c12⟩, f1⟩ := cells_of hH hlt
        obtain ⟨⟨c00, c01, c02⟩, f0⟩ := cells_of hH (show k - 1 < d.size by omega)
        have A : Aside (∀ j, j < k → keeps d j = true) := hall
        have HH : Aside (HoldsK enc 3 w blk 0 d) := hH
        clear hall hH f1 f0
        generalize hx : d[k]! = x at c10 c11 c12
        generalize hy : d[k - 1]! = y at c00 c01 c02
        have B : Aside (d[k]! = x ∧ d[k - 1]! = y) := ⟨hx, hy⟩
        clear hx hy
        by_cases hdup : x = y
        · subst hdup
          try go_wp2
          repeat (go_quiet (fail); try go_wp2)
          clear c00 c01 c02 c10 c11 c12
          go_loopg [3, 5] d.size (fun g s3 s5 wr => ∃ (kk k2 q2 : Nat) (dk : Array S23), s3 = .int .i64 kk ∧ s5 = .int .i64 k2 ∧ 1 ≤ k2 ∧ k + k2 ≤ d.size ∧ d.size - (k + k2) ≤ g ∧ wr = putRowK enc 3 (Sort.ahead w q2) blk 0 dk ∧ CompInv d (k + k2) kk dk)
          case atStart => exact ⟨k, 1, _, d, rfl, rfl, Nat.le_refl _, by omega, by omega, (putRowK_self enc 3 (Sort.ahead w _) blk 0 d (holdsK_ahead enc 3 w _ blk 0 d HH.out)).symm, CompInv.start A.out (keeps_neg (by omega) (by rw [B.out.1, B.out.2]))⟩
          case round =>
            obtain ⟨kk, k2, q2, dk, rfl, rfl, h1, hle, hg2, hwr, hI⟩ := hrel
            have hkk := hI.lt
            have hds := hI.size
            have hHk : HoldsK enc 3 wr blk 0 dk := by rw [hwr]; exact holdsK_putRowK enc 3 _ blk 0 d dk (holdsK_ahead enc 3 w q2 blk 0 d HH.out) hds
            have W2 : Aside (wr = putRowK enc 3 (Sort.ahead w q2) blk 0 dk) := hwr
            have I2 : Aside (CompInv d (k + k2) kk dk) := hI
            clear hwr
            by_cases hlt2 : k + k2 < d.size
            · obtain ⟨⟨cm0, cm1, cm2⟩, _⟩ := cells_of hHk (i := k + k2) (by omega)
              obtain ⟨⟨cp0, cp1, cp2⟩, _⟩ := cells_of hHk (i := k + k2 - 1) (by omega)
              obtain ⟨⟨ck0, ck1, ck2⟩, fk0, fk1, fk2⟩ := cells_of hHk (i := kk) (by omega)
              rw [hI.high (k + k2) (by omega)] at cm0 cm1 cm2
              rw [hI.high (k + k2 - 1) (by omega)] at cp0 cp1 cp2
              rw [show (k + k2) * 3 = k * 3 + k2 * 3 by omega] at cm0 cm1 cm2
              rw [show (k + k2 - 1) * 3 = k * 3 + (k2 - 1) * 3 by omega] at cp0 cp1 cp2
              clear hHk hI
              generalize hu : d[k + k2]! = u at cm0 cm1 cm2
              generalize hv : d[k + k2 - 1]! = v at cp0 cp1 cp2
              generalize dk[kk]! = old at ck0 ck1 ck2
              have C : Aside (d[k + k2]! = u ∧ d[k + k2 - 1]! = v) := ⟨hu, hv⟩
              clear hu hv
              by_cases huv : u = v
              · subst huv
                try go_wp2
                repeat (go_quiet (fail); try go_wp2)
                go_roundg (d.size - (k + (k2 + 1)))
                case measure => omega
                case rel => exact ⟨kk, k2 + 1, _, dk, rfl, by go_num, by omega, by omega, Nat.le_refl _, by rw [W2.out]; exact putRowK_drewN enc 3 w q2 _ blk 0 dk, I2.out.skip (keeps_neg (by omega) (by rw [C.out.1, C.out.2]))⟩
              · have hne := ne_bool huv
                try go_wp2
                repeat (go_quiet (fail); try go_wp2)
                go_roundg (d.size - (k + (k2 + 1)))
                case measure => omega
                case rel =>
                  refine ⟨kk + 1, k2 + 1, q2 + nq, dk.setIfInBounds kk u, by go_num, by go_num, by omega, by omega, Nat.le_refl _, ?_, by have := I2.out.keep hlt2 (keeps_pos (by rw [C.out.1, C.out.2]; exact huv)); rwa [C.out.1] at this⟩
                  rw [W2.out, putRowK_drewN]
                  exact putRowK_store _ blk dk kk u (by omega)
            · have hend : k + k2 = d.size := by omega
              have hcl : ∀ ty, (Builtin.clear_ #[24] ty #[.slice (some ⟨blk, kk * 3, none⟩) (d.size - kk) (cap - kk)]).run Tryd.prog wr = .ok (.tuple #[]) (wr.setCells blk (kk * 3) (flatK enc 3 (Array.replicate (d.size - kk) z23)).toList) :=
                fun ty => clear_tags wr ty blk (kk * 3) (d.size - kk) (cap - kk) (by omega) (fun j hj => by
                  obtain ⟨⟨q0, q1, q2⟩, _⟩ := cells_of hHk (i := kk + j / 3) (by omega)
                  have h3 : j % 3 = 0 ∨ j % 3 = 1 ∨ j % 3 = 2 := by omega
                  rcases h3 with h3 | h3 | h3
                  · rw [show kk * 3 + j = (kk + j / 3) * 3 by omega, q0]; rfl
                  · rw [show kk * 3 + j = (kk + j / 3) * 3 + 1 by omega, q1]; rfl
                  · rw [show kk * 3 + j = (kk + j / 3) * 3 + 2 by omega, q2]; rfl) (fun j hj => by
                  obtain ⟨_, q0, q1, q2⟩ := cells_of hHk (i := kk + j / 3) (by omega)
                  have h3 : j % 3 = 0 ∨ j % 3 = 1 ∨ j % 3 = 2 := by omega
                  rcases h3 with h3 | h3 | h3
                  · rw [show kk * 3 + j = (kk + j / 3) * 3 by omega, q0]
                  · rw [show kk * 3 + j = (kk + j / 3) * 3 + 1 by omega, q1]
                  · rw [show kk * 3 + j = (kk + j / 3) * 3 + 2 by omega, q2])
              clear hHk hI
              try go_wp2
              go_ret
              have hI := I2.out
              rw [hend] at hI
              refine ⟨by rw [hI.len]; rfl, q2, ?_⟩
              rw [hI.len, ← hI.done z23, W2.out]
              exact putRowK_clear _ blk z23 _ dk kk (by omega)
        · have hne := ne_bool hdup
          try go_wp2
          repeat (go_quiet (fail); try go_wp2)
          go_roundg (d.size - (k + 1))
          case measure => omega
          case rel =>
            refine ⟨k + 1, _, by omega, by omega, Nat.le_refl _, by go_num, rfl, fun j hj => ?_⟩
            by_cases e : j = k
            · subst e
              exact keeps_pos (by rw [B.out.1, B.out.2]; exact hdup)
            · exact A.out j (by omega)
      · have : k = d.size := by omega
        subst this
        have HH : Aside (HoldsK enc 3 w blk 0 d) := hH
        clear hH
        go_wp2
        go_ret
        obtain ⟨e1, e2⟩ := HS.out q hall
        exact ⟨by rw [e1]; rfl, q, e2⟩
end Go.Proofs.YtpmpmgoddgcnjaaDoor.Compact
