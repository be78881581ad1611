/- deps.all. No condition beyond those that each states. -/
import Derived.Test.YtlgpoigbadajnaaDoorDepE
namespace Go.Proofs.YtlgpoigbadajnaaDoor.DepA
open Go.RowKit Go.Proofs.YtlgpoigbadajnaaDoorW.PrintWords Go.Proofs.YtlgpoigbadajnaaDoorW.PrintLast Go.Proofs.YtlgpoigbadajnaaDoorW.PrintMore Go.Proofs.YtlgpoigbadajnaaDoor.PDepA
set_option linter.unusedVariables false
set_option linter.unusedSimpArgs false
theorem infSI : (Tryd.prog.info? 42).map (fun i => (i.zero, i.size, i.bytes)) = some (some (.slice none 0 0), 1, 24) := by kernel_rfl
theorem made_one (z : Value) (hz : z.cells = #[z]) (n : Nat) : (madeCells z.cells (n * 1)).toList = List.replicate n z := by
  rw [hz, Nat.mul_one]
  apply List.ext_getElem
  · simp [size_madeCells]
  · intro i h1 h2
    simp [madeCells, Nat.mod_one]
theorem add_i (g i : Nat) : (⟨g, 0, none⟩ : Addr).add i = ⟨g, i, none⟩ := by
  simp only [Addr.add]
  split <;> simp_all
def allL (ds : List S34) : List (List Int) := (List.range ds.length).map (usesL ds)
theorem Rn_ok {base : Nat} {ok ok' : Nat → Prop} {W : World} {v : Value} {xs : List Int} (h : Kd.R kI 3 W base ok v xs) (hok : ∀ j, v.ownBlock = some j → ok' j) : Kd.R kI 3 W base ok' v xs := by
  obtain ⟨h0, inner, ho, hr⟩ := h
  exact ⟨hok, inner, ho, hr.imp_ (fun _ _ hm => hm)⟩
theorem Rn_step {base : Nat} {ok ok' : Nat → Prop} {W W1 : World} {v : Value} {xs : List Int} (h : Kd.R kI 3 W base ok v xs) (hb : ∀ j, v.ownBlock = some j → W1.heap[j]? = W.heap[j]?) (hok : ∀ j, v.ownBlock = some j → ok' j) : Kd.R kI 3 W1 base ok' v xs :=
  Rn_ok (Kd.R_step (Rn_ok (ok' := fun j => v.ownBlock = some j) h (fun _ hj => hj)) (fun j hj _ => hb j hj)) hok
/-- A row of rows, as far as it is written. -/
structure AL (W : World) (base g n : Nat) (ls : List (List Int)) : Prop where
  blk : ∃ vs : List Value, W.heap[g]? = some (.cells (vs ++ List.replicate (n - ls.length) (Value.slice none 0 0)).toArray 42 (0, 0)) ∧ vs.length = ls.length ∧ ∀ j (h : j < ls.length) v, vs[j]? = some v → Kd.R kI 3 W base (fun k => k ≠ g) v ls[j]
  ge : base ≤ g
  le : ls.length ≤ n
theorem AL.below {W W1 : World} {base g n : Nat} {ls : List (List Int)} (h : AL W base g n ls) (hb : Below W.heap.size W W1) : AL W1 base g n ls := by
  obtain ⟨⟨vs, h1, h2, h3⟩, h4, h5⟩ := h
  exact ⟨⟨vs, blk_below h1 hb, h2, fun j hj v hv => Rn_step (h3 j hj v hv) (fun k hk => hb.block k (Kd.R_lt (h3 j hj v hv) k hk)) (fun k hk => (h3 j hj v hv).1 k hk)⟩, h4, h5⟩
theorem AL.lt {W : World} {base g n : Nat} {ls : List (List Int)} (h : AL W base g n ls) : g < W.heap.size := by
  obtain ⟨⟨vs, h1, _⟩, _⟩ := h
  exact (Array.getElem?_eq_some_iff.1 h1).1
theorem AL.put {W : World} {base g n : Nat} {ls : List (List Int)} (h : AL W base g n ls) (hlt : ls.length < n) {v : Value} {l : List Int} (hr : Kd.R kI 3 W base (fun k => k ≠ g) v l) : AL (W.setCell ⟨g, ls.length, none⟩ v) base g n (ls ++ [l]) := by
  obtain ⟨⟨vs, h1, h2, h3⟩, h4, h5⟩ := h
  have hfar : ∀ k, k ≠ g → (W.setCell ⟨g, ls.length, none⟩ v).heap[k]? = W.heap[k]? := fun k hk => Below.heap_setCell W ⟨g, ls.length, none⟩ v k hk
  refine ⟨⟨vs ++ [v], ?_, by simp [h2], fun j hj u hu => ?_⟩, h4, by simp; omega⟩
  · refine blk_put h1 ls.length v ?_
    rw [← h2]
    apply Array.toList_inj.1
    rw [Array.toList_setIfInBounds, List.toList_toArray, List.toList_toArray]
    rw [show n - vs.length = (n - (vs ++ [v]).length) + 1 by simp; omega, List.replicate_succ]
    have h6 : (ls ++ [l]).length = (vs ++ [v]).length := by simp [h2]
    rw [h6]
    simp
  · have hjl : j < vs.length + 1 := by have := (List.getElem?_eq_some_iff.1 hu).1; simpa using this
    rcases Nat.lt_or_ge j vs.length with hj2 | hj2
    · rw [List.getElem?_append_left hj2] at hu
      have h7 := h3 j (by omega) u hu
      rw [List.getElem_append_left (by omega)]
      exact Rn_step h7 (fun k hk => hfar k (h7.1 k hk)) (fun k hk => h7.1 k hk)
    · have : j = vs.length := by omega
      subst this
      rw [List.getElem?_append_right (Nat.le_refl _), Nat.sub_self] at hu
      obtain rfl : v = u := by simpa using hu
      have h8 : (ls ++ [l])[vs.length]'hj = l := by simp [h2]
      rw [h8]
      exact Rn_step hr (fun k hk => hfar k (hr.1 k hk)) (fun k hk => hr.1 k hk)
theorem AL.row {W : World} {base g n : Nat} {ls : List (List Int)} (h : AL W base g n ls) (hn : ls.length = n) (hm : n ≤ maxLen) : Kd.C kII W (some ⟨g, 0, none⟩) ls.length ls := by
  obtain ⟨⟨vs, h1, h2, h3⟩, h4, h5⟩ := h
  refine ⟨rfl, by rw [hn]; exact hm, fun _ => ⟨_, rfl, fun j p hj => ?_⟩⟩
  obtain ⟨hjl, hp⟩ := List.getElem?_eq_some_iff.1 hj
  have hv : vs[j]? = some vs[j] := List.getElem?_eq_getElem (by omega)
  have hR := h3 j hjl _ hv
  rw [hp] at hR
  obtain ⟨A, c, he, hl, hC⟩ := Kd.R_reads hR
  refine ⟨[vs[j]], rfl, ⟨A, c, by rw [he], hl, hC⟩, fun i u hu => ?_⟩
  match i, hu with
  | 0, hu =>
    have hsz : kII.sz = 1 := rfl
    rw [hsz, Nat.mul_one, Nat.add_zero, add_i, blk_cell h1]
    rw [hn, Nat.sub_self]
    simpa [hv] using hu
theorem AL.cell {W : World} {base g n : Nat} {ls : List (List Int)} (h : AL W base g n ls) (hlt : ls.length < n) : W.cell? ((⟨g, 0, none⟩ : Addr).add ls.length) = some (.slice none 0 0) ∧ W.frozen? ((⟨g, 0, none⟩ : Addr).add ls.length) = false := by
  obtain ⟨⟨vs, h1, h2, h3⟩, h4, h5⟩ := h
  rw [add_i]
  refine ⟨?_, blk_frozen h1 _⟩
  rw [blk_cell h1, ← h2]
  rw [show n - vs.length = (n - vs.length - 1) + 1 by omega, List.replicate_succ]
  simp
theorem AL.made {w : World} (n : Nat) {W1 : World} (hW : W1 = w.alloc (.cells (madeCells (Value.slice none 0 0).cells (n * 1)) 42)) {base : Nat} (hb : base ≤ w.heap.size) : AL W1 base w.heap.size n [] := by
  subst hW
  refine ⟨⟨[], ?_, rfl, fun j hj => by simp at hj⟩, hb, Nat.zero_le _⟩
  have h := blk_new w (.cells (madeCells (Value.slice none 0 0).cells (n * 1)) 42 (0, 0))
  have e : (madeCells (Value.slice none 0 0).cells (n * 1)) = (List.replicate n (Value.slice none 0 0)).toArray := by
    apply Array.toList_inj.1
    rw [made_one _ rfl, List.toList_toArray]
  rw [e] at h ⊢
  simpa using h
def okDs (ds : List S34) : Bool := ds.all okD && decide (ds.length ≤ 1000)
theorem okDs_at {ds : List S34} (h : okDs ds = true) {k : Nat} (hk : k < ds.length) : okD ds[k] = true ∧ ds.length ≤ 1000 := by
  simp only [okDs, Bool.and_eq_true, decide_eq_true_eq] at h
  exact ⟨List.all_eq_true.1 h.1 _ (List.getElem_mem hk), h.2⟩
set_option maxHeartbeats 8000000 in
set_option maxRecDepth 100000 in
theorem all_calls {w : World} (ds : List S34) (hok : okDs ds = true) {Ad Af : Option Addr} {nd cd cf : Nat} (hC : Kd.C k34 w Af ds.length ds) :
    Calls Tryd.prog 28 #[.agg #[.slice Ad nd cd, .slice Af ds.length cf]] w fun e w' => ∃ A, e = .returned (.slice A (allL ds).length (allL ds).length) ∧ Kd.C kII w' A (allL ds).length (allL ds) ∧ Below w.heap.size w w' := by
  have hl : ds.length ≤ 1000 := by simp only [okDs, Bool.and_eq_true, decide_eq_true_eq] at hok; exact hok.2
  obtain ⟨i0, hi, hzz⟩ := Option.map_eq_some_iff.1 infSI
  simp only [Prod.mk.injEq] at hzz
  obtain ⟨hz0, hz1, hz2⟩ := hzz
  have hb1 := below_alloc (Below.refl w.heap.size w) (.cells #[.slice Ad nd cd, .slice Af ds.length cf] 38)
  have hr := run_make (P := Tryd.prog) (w := w.alloc (.cells #[.slice Ad nd cd, .slice Af ds.length cf] 38)) 40 42 i0 (.slice none 0 0) Tryd.underlying40 hi hz0 .i64 .i64 (ds.length : Int) (ds.length : Int) (by omega) (by omega) (by rw [hz2]; omega) (by omega)
  simp only [Int.toNat_natCast] at hr
  rw [hz1] at hr
  obtain ⟨W1, hW1⟩ : ∃ W1, (w.alloc (.cells #[.slice Ad nd cd, .slice Af ds.length cf] 38)).alloc (.cells (madeCells (Value.slice none 0 0).cells (ds.length * 1)) 42) = W1 := ⟨_, rfl⟩
  rw [hW1] at hr
  have hal := AL.made ds.length hW1.symm (base := w.heap.size) hb1.size
  obtain ⟨g, hg⟩ : ∃ g, (w.alloc (.cells #[.slice Ad nd cd, .slice Af ds.length cf] 38)).heap.size = g := ⟨_, rfl⟩
  rw [hg] at hr hal
  have hgw : w.heap.size < g := by rw [← hg]; simp
  have hb2 : Below w.heap.size w W1 := by rw [← hW1]; exact below_alloc hb1 _
  have hPb : W1.heap[w.heap.size]? = some (.cells #[.slice Ad nd cd, .slice Af ds.length cf] 38 (0, 0)) := by
    rw [← hW1]
    exact (Below.heap_alloc _ _ _ (by simp)).trans (blk_new w (.cells #[.slice Ad nd cd, .slice Af ds.length cf] 38 (0, 0)))
  have hC9 := Aside0.mk hC
  have hok9 := Aside0.mk hok
  have hal := Aside0.mk hal
  have hb2 := Aside0.mk hb2
  have hPb := Aside0.mk hPb
  have hgw := Aside0.mk hgw
  clear hC hok hb1 hW1 hg hz0 hz1 hz2 hi
  go_enter Tryd.func28, Tryd.ntmps28
  go_wp2
  go_loopg [11] (ds.length + 1) (fun kq v11 w' => ∃ (i : Nat), v11 = .int .i64 (i : Int) ∧ i + kq = ds.length + 1 ∧ 1 ≤ kq ∧ Aside0 (AL w' w.heap.size g ds.length ((List.range i).map (usesL ds))) ∧ Aside0 (w'.heap[w.heap.size]? = some (.cells #[.slice Ad nd cd, .slice Af ds.length cf] 38 (0, 0))) ∧ Aside0 (Below w.heap.size w w'))
  case atStart => exact ⟨0, rfl, by omega, by omega, hal, hPb, hb2⟩
  case round =>
    obtain ⟨i, rfl, hi, hk, hA, hP, hBr⟩ := hrel
    by_cases hlt : i < ds.length
    · have p0 : (0 : Int) ≤ (i : Int) := by omega
      have q0 : (i : Int) < (ds.length : Int) := by omega
      have q1 : decide ((i : Int) < (ds.length : Int)) = true := decide_eq_true q0
      have hx0 := (blk_cell hP.out 0).trans rfl
      have hx1 := (blk_cell hP.out 1).trans rfl
      have CU := uses_calls ds (Kd.C_below hC9.out hBr.out) i hlt (okDs_at hok9.out hlt).1 (by omega) (Ad := Ad) (nd := nd) (cd := cd) (cf := cf)
      go_wp2_with (first | (go_at_call 19; go_loud (with_reducible refine CU.mono ?_); rintro e w5 ⟨v5, rfl, hr5, hb5⟩; obtain ⟨A5, c5, hv5⟩ := Kd.R_slice hr5; subst hv5; have HA5 := Aside0.mk (hA.out.below hb5); have HR5 := Aside0.mk (Kd.R_lower (Rn_ok (ok' := fun k => k ≠ g) hr5 (fun k hk => by have := Kd.R_base hr5 k hk; have := hA.out.lt; omega)) hBr.out.size); have HP5 := Aside0.mk (blk_below hP.out hb5); have HB5 := Aside0.mk (hBr.out.trans (hb5.mono hBr.out.size)); obtain ⟨hcz, hfz⟩ := HA5.out.cell (by simpa using hlt); simp only [List.length_map, List.length_range, add_i] at hcz hfz; clear hr5 hb5 CU))
      have hA6 : Aside0 (AL (w5.setCell ⟨g, i, none⟩ (.slice A5 (usesL ds i).length c5)) w.heap.size g ds.length ((List.range (i + 1)).map (usesL ds))) := ⟨by
        have := HA5.out.put (by simpa using hlt) HR5.out
        simp only [List.length_map, List.length_range] at this
        rw [List.range_succ, List.map_append]
        exact this⟩
      have hP6 : Aside0 ((w5.setCell ⟨g, i, none⟩ (.slice A5 (usesL ds i).length c5)).heap[w.heap.size]? = some (.cells #[.slice Ad nd cd, .slice Af ds.length cf] 38 (0, 0))) := ⟨by exact (Below.heap_setCell w5 ⟨g, i, none⟩ _ _ (Nat.ne_of_lt hgw.out)).trans HP5.out⟩
      have hB6 : Aside0 (Below w.heap.size w (w5.setCell ⟨g, i, none⟩ (.slice A5 (usesL ds i).length c5))) := ⟨by exact HB5.out.setCell (p := ⟨g, i, none⟩) (Nat.le_of_lt hgw.out) _⟩
      clear hfz hcz
      go_roundg (gk - 1)
      case measure => omega
      case rel => exact ⟨i + 1, by go_num, by omega, by omega, hA6, hP6, hB6⟩
    · have q1 : decide ((i : Int) < (ds.length : Int)) = false := decide_eq_false (by omega)
      have hi2 : i = ds.length := by omega
      subst hi2
      have hfin := Aside0.mk (hA.out.row (by simp) (by unfold maxLen; omega))
      have hll : (allL ds).length = ds.length := by simp [allL]
      go_wp2
      go_ret
      rw [hll]
      exact ⟨_, rfl, by have := hfin.out; simpa [allL] using this, hBr.out⟩
end Go.Proofs.YtlgpoigbadajnaaDoor.DepA
