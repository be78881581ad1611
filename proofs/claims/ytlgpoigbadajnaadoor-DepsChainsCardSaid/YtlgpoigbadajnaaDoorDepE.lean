/- deps.needed. No condition beyond those that each states. -/
import Derived.Test.YtlgpoigbadajnaaDoorDepD
namespace Go.Proofs.YtlgpoigbadajnaaDoor.DepA
open Go.Maps (Keyed)
open Go.RowKit Go.Proofs.YtlgpoigbadajnaaDoorW.PrintWords Go.Proofs.YtlgpoigbadajnaaDoorW.PrintLast Go.Proofs.YtlgpoigbadajnaaDoorW.PrintMore Go.Proofs.YtlgpoigbadajnaaDoor.PDepA
set_option linter.unusedVariables false
set_option linter.unusedSimpArgs false
abbrev kII : Kd (List Int) := Kd.slice 3 kI
theorem at_row {w0 wr : World} (hB : Below w0.heap.size w0 wr) {A : Option Addr} {l : List (List Int)} (hC : Kd.C kII w0 A l.length l) (i : Nat) (hi : i < l.length) : ∃ ad A1 c1, A = some ad ∧ wr.cell? (ad.add i) = some (.slice A1 l[i].length c1) ∧ Kd.C kI w0 A1 l[i].length l[i] ∧ l[i].length ≤ c1 := by
  obtain ⟨ad, c, e, _, hK, hc⟩ := Kd.C_get hC ([] : List Int) (i : Int) (by omega) (by omega)
  obtain ⟨A1, c1, hc1, hl, hr⟩ := hK
  subst hc1
  have hx : l.getD i [] = l[i] := by simp [hi]
  simp only [Int.toNat_natCast] at hl hr hc
  rw [hx] at hl hr
  have := hc 0 _ rfl
  have hsz : kII.sz = 1 := rfl
  rw [hsz, Nat.mul_one, Nat.add_zero, hx] at this
  exact ⟨ad, A1, c1, e, (hB.cell (World.block_lt_of_cell? _ _ this)).trans this, hr, hl⟩
/-! ### plain -/
def inI (h : List Int) (n : Int) : Bool := h.any fun t => decide (t = n)
theorem memN_in (h : List Int) (n : Int) : memN h n = if inI h n then 1 else 0 := rfl
/-! ### a map of ones: its keys, in their order -/
def FD (r : List Int) : Lit → Option Value
  | .int .i64 s => if inI r s then some (.int .i64 1) else none
  | _ => none
def MapD (W : World) (b n : Nat) (r : List Int) : Prop := ∃ D : DataW Value, W.ownsMap Tryd.prog 3 rawR b n D ∧ Maps.Tidy D ∧ (∀ l z, D.atKey l z = match FD r l with | some v => .held v | none => z) ∧ Maps.size D = r.length
section
variable {W W1 : World} {b n : Nat} {r : List Int}
theorem MapD.mapF (h : MapD W b n r) : MapF W Tryd.prog 3 b n (FD r) := by
  obtain ⟨D, h1, h2, h3, h4⟩ := h
  exact ⟨D, h1, h2.isMap, h3⟩
theorem MapD.mapN (h : MapD W b n r) : MapN W b n (memN r) := ⟨FD r, h.mapF, fun s => by
  simp only [FD, memN_in]
  split <;> rename_i hh
  · split at hh
    · rename_i h2; rw [if_pos h2]; exact (Option.some.inj hh).symm
    · cases hh
  · split at hh
    · cases hh
    · rename_i h2; rw [if_neg h2]⟩
theorem MapD.lt (h : MapD W b n r) : b < W.heap.size := h.mapF.lt
theorem MapD.of_block (h : MapD W b n r) (hb : W1.heap[b]? = W.heap[b]?) : MapD W1 b n r := by
  obtain ⟨D, ⟨es, clock, h1, h2⟩, h3⟩ := h
  exact ⟨D, ⟨es, clock, hb.trans h1, h2⟩, h3⟩
theorem MapD.made (W : World) : MapD (W.alloc (.map #[] 0)) W.heap.size 0 [] := ⟨.map [], World.ownsMap_made W Tryd.prog 3 rawR, Maps.tidy_empty, fun l z => by
  have : FD [] l = none := by
    unfold FD
    split <;> rfl
  rw [this]; rfl, rfl⟩
theorem MapD.look (h : MapD W b n r) {s : Int} (hs : WF s) : (Instr.lookup 59 (.map (some b)) (.int .i64 s) false).run Tryd.prog W = .ok (.int .i64 (memN r s)) W := h.mapN.look hs
theorem FD_key {r : List Int} {l : Lit} {v : Value} (h : FD r l = some v) : ∃ s, l = .int .i64 s ∧ inI r s = true := by
  unfold FD at h
  split at h
  · rename_i s
    split at h
    · rename_i hh; exact ⟨s, rfl, hh⟩
    · cases h
  · cases h
theorem has_of {D : DataW Value} {F : Lit → Option Value} (hD : ∀ l z, D.atKey l z = match F l with | some v => .held v | none => z) (l : Lit) : Maps.has D l = (F l).isSome := by
  cases hf : F l with
  | none => exact Maps.has_false_of_atKey (fun z => by have := hD l z; rwa [hf] at this)
  | some v => exact Maps.has_true_of_atKey (y := .held v) (fun z => by have := hD l z; rwa [hf] at this)
theorem MapD.store (h : MapD W b n r) (hn : n < maxLen) {s : Int} (hs : WF s) (hnew : inI r s = false) : ∃ W', (Instr.mapUpdate 59 (.map (some b)) (.int .i64 s) (.int .i64 1)).run Tryd.prog W = .ok () W' ∧ MapD W' b (n + 1) (r ++ [s]) ∧ W.grownBy W' (some b) := by
  obtain ⟨D, ho, ht, hD, hsz⟩ := h
  obtain ⟨W', hrun, ho', hg⟩ := ho.update keyedI Tryd.underlying59 hn (keyI hs) (val := .int .i64 1) (d := .held (.int .i64 1)) (ps := []) rfl
  refine ⟨W', hrun, ⟨_, ho', ht.put (keyI_is s) _, fun l z => ?_, ?_⟩, hg⟩
  · by_cases hl : l = .int .i64 s
    · subst hl
      rw [Maps.atKey_put_same ht.isMap (keyI_is s)]
      have : FD (r ++ [s]) (.int .i64 s) = some (.int .i64 1) := by simp [FD, inI]
      rw [this]
    · rw [Maps.atKey_put_other hl, hD l z]
      have : FD (r ++ [s]) l = FD r l := by
        unfold FD
        split
        · rename_i q
          have hq : ¬ s = q := fun e => hl (by rw [e])
          simp [inI, hq]
        · rfl
      rw [this]
  · rw [Maps.size_put ht, has_of hD, hsz]
    have : FD r (.int .i64 s) = none := by simp [FD, hnew]
    rw [this]
    simp
end
def nAdd (p : List Int × List Int) (n : Int) : List Int × List Int := if inI p.1 n then p else (p.1 ++ [n], p.2 ++ [n])
def small (us : List (List Int)) : Bool := decide (us.length ≤ 1000) && us.all (fun l => decide (l.length ≤ 1000) && l.all (fun n => decide (0 ≤ n) && decide (n < 100000)))
def bfs (us : List (List Int)) : Nat → List Int → List Int → Option (List Int)
  | 0, _, _ => none
  | F + 1, h, t => match t with
    | [] => some h
    | k :: t' => if decide (h.length ≤ 100000) && decide (t'.length ≤ 100000) && decide (0 ≤ k) then (match us[k.toNat]? with
      | some row => let p := row.foldl nAdd (h, t'); bfs us F p.1 p.2
      | none => none) else none
theorem nAdd_len (p : List Int × List Int) (n : Int) : (nAdd p n).1.length ≤ p.1.length + 1 ∧ (nAdd p n).2.length ≤ p.2.length + 1 := by
  unfold nAdd
  split <;> simp
theorem bfs_step {us : List (List Int)} {F : Nat} {h : List Int} {k : Int} {t' r : List Int} (hb : bfs us (F + 1) h (k :: t') = some r) : h.length ≤ 100000 ∧ t'.length ≤ 100000 ∧ 0 ≤ k ∧ ∃ hk : k.toNat < us.length, bfs us F (us[k.toNat].foldl nAdd (h, t')).1 (us[k.toNat].foldl nAdd (h, t')).2 = some r := by
  simp only [bfs] at hb
  split at hb
  · rename_i hc
    simp only [Bool.and_eq_true, decide_eq_true_eq] at hc
    split at hb
    · rename_i row hrow
      obtain ⟨hk, he⟩ := List.getElem?_eq_some_iff.1 hrow
      subst he
      exact ⟨hc.1.1, hc.1.2, hc.2, hk, hb⟩
    · cases hb
  · cases hb
theorem small_row {us : List (List Int)} (h : small us = true) {i : Nat} (hi : i < us.length) : us[i].length ≤ 1000 ∧ ∀ n ∈ us[i], 0 ≤ n ∧ n < 100000 := by
  simp only [small, Bool.and_eq_true, decide_eq_true_eq] at h
  have h1 := List.all_eq_true.1 h.2 _ (List.getElem_mem hi)
  simp only [Bool.and_eq_true, decide_eq_true_eq] at h1
  exact ⟨h1.1, fun n hn => by simpa using List.all_eq_true.1 h1.2 n hn⟩
set_option maxHeartbeats 16000000 in
set_option maxRecDepth 100000 in
theorem needed_calls {w : World} (us : List (List Int)) (hsm : small us = true) {U : Option Addr} {cu : Nat} (hU : Kd.C kII w U us.length us) (d : Int) (hd : 0 ≤ d ∧ d < 100000) {F0 : Nat} {r : List Int} (hr0 : bfs us F0 [d] [d] = some r) :
    Calls Tryd.prog 29 #[.slice U us.length cu, .int .i64 d] w fun e w' => ∃ hb nh, e = .returned (.map (some hb)) ∧ MapD w' hb nh r ∧ w.heap.size ≤ hb ∧ Below w.heap.size w w' := by
  have hmm := @run_makeMap Tryd.prog
  have E : ∀ W : World, ∀ o : Obj, (W.alloc o).heap.size = W.heap.size + 1 := fun W o => Array.size_push _
  obtain ⟨W1, hst, hM1, hg1⟩ := (MapD.made w).store (by unfold maxLen; omega) (show WF d from ⟨by omega, by omega⟩) rfl
  have hM1' : MapD W1 w.heap.size 1 [d] := hM1
  have hb1 : Below w.heap.size w W1 := (below_alloc (Below.refl _ _) _).trans ((Mod.of_grown hg1).below (by rw [E]; omega) (fun j _ hj => by omega))
  have hb2 : Below w.heap.size w (W1.alloc (.cells #[.int .i64 d] 3)) := below_alloc hb1 _
  have hQ : Kd.Q kI 3 (W1.alloc (.cells #[.int .i64 d] 3)) w.heap.size (fun j => j ≠ w.heap.size) (.slice (some ⟨W1.heap.size, 0, none⟩) 1 1) [d] := by
    refine Kd.Q_of_R ⟨fun j hj => ?_, [.int .i64 d], ?_, ⟨rfl, fun j p hj => ?_⟩⟩
    · have : j = W1.heap.size := by simpa [Value.ownBlock] using hj.symm
      have := hM1'.lt
      omega
    · have h2 := World.ownsRow_lit (base := w.heap.size) (e := 3) (size := 1) W1 #[.int .i64 d] 1 hb1.size (by decide) (by simp)
      have hsz : kI.sz = 1 := rfl
      rw [hsz]
      simpa using h2
    · match j, hj with
      | 0, hj => obtain rfl := Option.some.inj hj; rfl
  have hM2 := hM1'.of_block (W1 := W1.alloc (.cells #[.int .i64 d] 3)) (Below.heap_alloc _ _ _ hM1'.lt)
  have hM2 := Aside0.mk hM2
  have hQ := Aside0.mk hQ
  have hb2 := Aside0.mk hb2
  have hU := Aside0.mk hU
  have hsm := Aside0.mk hsm
  have hr0 := Aside0.mk hr0
  obtain ⟨i0, hi0, hzz⟩ := Option.map_eq_some_iff.1 infI
  simp only [Prod.mk.injEq] at hzz
  have hcut9 := Aside0.mk (fun A n c h1 => cut_from (P := Tryd.prog) 42 3 .i64 Tryd.underlying42 hi0 1 hzz.2.1 A n c 1 (by omega) h1)
  clear hM1 hM1' hg1 hb1 hzz
  go_enter Tryd.func29, Tryd.ntmps29
  go_wp2
  go_loopg [6] F0 (fun kq v6 w' => ∃ (h t : List Int) (A : Option Addr) (c m nh : Nat), v6 = .slice A m c ∧ Aside0 (bfs us kq h t = some r) ∧ Aside0 (m = t.length) ∧ Aside0 (Kd.Q kI 3 w' w.heap.size (fun j => j ≠ w.heap.size) (.slice A m c) t) ∧ Aside0 (MapD w' w.heap.size nh h ∧ nh ≤ h.length) ∧ Aside0 (Below w.heap.size w w'))
  case atStart => exact ⟨[d], [d], _, _, _, 1, rfl, hr0, ⟨rfl⟩, hQ, ⟨hM2.out, Nat.le_refl _⟩, hb2⟩
  case round =>
    obtain ⟨h, t, A, c, m, nh, rfl, hbf, hm, hQr, hMr, hBr⟩ := hrel
    cases t with
    | nil =>
      have hm0 : m = 0 := hm.out
      subst hm0
      have hrr : h = r := by
        have := hbf.out
        cases gk with
        | zero => cases this
        | succ F => simpa [bfs] using this
      subst hrr
      go_wp2
      go_ret
      exact ⟨_, nh, rfl, hMr.out.1, Nat.le_refl _, hBr.out⟩
    | cons k t' =>
      cases gk with
      | zero => cases hbf.out
      | succ F =>
      obtain ⟨l1, l2, hk0, hku, hbn⟩ := bfs_step hbf.out
      have hmt : m = t'.length + 1 := hm.out
      subst hmt
      obtain ⟨adU, A1, c1, rfl, hv0, hrow, _⟩ := at_row hBr.out hU.out k.toNat hku
      obtain ⟨hs1, hs2⟩ := small_row hsm.out hku
      obtain ⟨ad, rfl, hv1⟩ := at_int (Kd.Q_reads' hQr.out).2.2 0 (by simp) (by simp)
      have hcm := (Kd.Q_reads' hQr.out).2.1
      have hcut := hcut9.out (some ad) (t'.length + 1) c (by omega)
      have hQd := Kd.Q_drop (k := 1) hQr.out (by simp)
      obtain ⟨A', hA'⟩ : ∃ A', (if c = 1 then (some ad) else (some ad : Option Addr).map (·.add (1 * kI.sz))) = A' := ⟨_, rfl⟩
      rw [hA'] at hQd
      have hsz : kI.sz = 1 := rfl
      rw [hsz] at hA'
      rw [show (1 : Int).toNat = 1 from rfl, hA', show t'.length + 1 - 1 = t'.length by omega] at hcut
      rw [show t'.length + 1 - 1 = t'.length by omega] at hQd
      simp only [List.drop_succ_cons, List.drop_zero] at hQd
      simp only [List.getElem_cons_zero] at hv1
      rw [show (ad.add 0) = ad by simp [Addr.add]] at hv1
      have p1 : decide ((0 : Int) < ((t'.length : Int) + 1)) = true := decide_eq_true (by omega)
      have p3 : k < (us.length : Int) := by omega
      have hQd := Aside0.mk hQd
      have hrow := Aside0.mk hrow
      have hs1' := Aside0.mk hs1
      have hs2 := Aside0.mk hs2
      have hbn := Aside0.mk hbn
      have hl12 := Aside0.mk (And.intro l1 l2)
      generalize us[k.toNat] = row at *
      clear hA' hsz hcm
      go_wp2
      go_loopg [6, 28] (row.length + 1) (fun kq v6 v28 w' => ∃ (i : Nat) (h2 t2 : List Int) (A2 : Option Addr) (c2 m2 nh2 : Nat), v6 = .slice A2 m2 c2 ∧ v28 = .int .i64 (i : Int) ∧ i + kq = row.length + 1 ∧ 1 ≤ kq ∧ Aside0 ((row.drop i).foldl nAdd (h2, t2) = row.foldl nAdd (h, t')) ∧ Aside0 (m2 = t2.length ∧ t2.length ≤ t'.length + i ∧ h2.length ≤ h.length + i) ∧ Aside0 (Kd.Q kI 3 w' w.heap.size (fun j => j ≠ w.heap.size) (.slice A2 m2 c2) t2) ∧ Aside0 (MapD w' w.heap.size nh2 h2 ∧ nh2 ≤ h2.length) ∧ Aside0 (Below w.heap.size w w'))
      case atStart => exact ⟨0, h, t', _, _, _, nh, rfl, rfl, by omega, by omega, ⟨rfl⟩, ⟨rfl, Nat.le_refl _, Nat.le_refl _⟩, hQd, hMr, hBr⟩
      case round =>
        obtain ⟨i, h2, t2, A2, c2, m2, nh2, rfl, rfl, hi, hk, hfo, hm2, hQ2, hM2r, hB2⟩ := hrel
        by_cases hlt : i < row.length
        · obtain ⟨adr, rfl, hv⟩ := at_int (Kd.C_below hrow.out hB2.out) i hlt hlt
          have p0 : (0 : Int) ≤ (i : Int) := by omega
          have q0 : (i : Int) < (row.length : Int) := by omega
          have q1 : decide ((i : Int) < (row.length : Int)) = true := decide_eq_true q0
          have hnb := hs2.out row[i] (List.getElem_mem hlt)
          have hfo2 : (row.drop (i + 1)).foldl nAdd (nAdd (h2, t2) row[i]) = row.foldl nAdd (h, t') := by rw [← hfo.out, List.drop_eq_getElem_cons hlt]; rfl
          generalize row[i] = x at *
          have hwx : WF x := ⟨by omega, by omega⟩
          have hlk := hM2r.out.1.look hwx
          rw [memN_in] at hlk
          by_cases y1 : inI h2 x = true
          · rw [if_pos y1] at hlk
            have e1 : nAdd (h2, t2) x = (h2, t2) := by unfold nAdd; rw [if_pos y1]
            rw [e1] at hfo2
            have hfo2 := Aside0.mk hfo2
            clear e1 hnb hwx y1
            go_wp2
            go_roundg (gk - 1)
            case measure => omega
            case rel => exact ⟨i + 1, h2, t2, A2, c2, m2, nh2, rfl, by go_num, by omega, by omega, hfo2, ⟨hm2.out.1, by have := hm2.out; omega, by have := hm2.out; omega⟩, hQ2, hM2r, hB2⟩
          · rw [if_neg y1] at hlk
            have e1 : nAdd (h2, t2) x = (h2 ++ [x], t2 ++ [x]) := by unfold nAdd; rw [if_neg y1]
            rw [e1] at hfo2
            have hfo2 := Aside0.mk hfo2
            obtain ⟨W7, hst7, hM7, hg7⟩ := hM2r.out.1.store (by have := hm2.out; have := hM2r.out.2; have := hl12.out; have := hs1'.out; unfold maxLen; omega) hwx (by simpa using y1)
            have hQ7 := Aside0.mk (Kd.Q_grown hQ2.out hg7 (fun j hj e => hj (Option.some.inj e)))
            have hB7 : Aside0 (Below w.heap.size w W7) := ⟨hB2.out.trans ((Mod.of_grown hg7).below hB2.out.size (fun j _ hj => Nat.le_of_eq hj.symm))⟩
            have hM7 := Aside0.mk hM7
            have hL7 : Aside0 ((t2.length + 1) * 8 ≤ 140737488355328) := ⟨by have := hm2.out; have := hl12.out; have := hs1'.out; omega⟩
            have hfr : Aside0 (∀ j, W7.heap.size ≤ j → j ≠ w.heap.size) := ⟨fun j hj => by have := hM7.out.lt; omega⟩
            clear e1 hnb hwx y1 hg7
            go_wp2_with (first | ((with_reducible refine gate_builtin (b := .append) (xs := #[.tmp 38, .tmp 40]) rfl ?_); at_builtin; go_loud (refine Kd.Q_append kI (w0 := w) w.heap.size rfl (.tmp 38) (.tmp 40) 42 3 (.int .i64 0) 8 rfl Tryd.underlying42 infI rfl (by decide) (by decide) (.slice A2 m2 c2) t2 x [.int .i64 x] (fun j => j ≠ w.heap.size) (fun _ => False) rfl rfl ?aP (fun _ hk => hk.elim) ?aF ?aO ?aB ?aS ?aL ?_); (case aP => exact rfl); (case aF => exact hfr.out); (case aO => exact hQ7.out); (case aB => exact hB7.out); (case aS => exact hB7.out.size); (case aL => exact hL7.out); intro v3 w3 hr3 hb3 hg3 hat3; obtain ⟨A3, c3, hv3, _⟩ := Kd.Q_slice hr3; rw [List.length_append, List.length_singleton] at hv3; subst hv3; have hm3 := Aside0.mk (hM7.out.of_block (W1 := w3) (hg3.block _ hM7.out.lt (fun e => hQ7.out.1 _ e.symm rfl))); have hr3 := Aside0.mk hr3; have hb3 := Aside0.mk hb3; clear hg3 hat3))
            go_roundg (gk - 1)
            case measure => omega
            case rel => exact ⟨i + 1, h2 ++ [x], t2 ++ [x], A3, c3, t2.length + 1, nh2 + 1, rfl, by go_num, by omega, by omega, hfo2, ⟨by simp, by have := hm2.out; simp; omega, by have := hm2.out; simp; omega⟩, hr3, ⟨hm3.out, by have := hM2r.out.2; simp; omega⟩, hb3⟩
        · have q1 : decide ((i : Int) < (row.length : Int)) = false := decide_eq_false (by omega)
          have hfin : Aside0 (bfs us F h2 t2 = some r) := ⟨by
            have h5 := hfo.out
            rw [List.drop_eq_nil_of_le (by omega)] at h5
            simp only [List.foldl_nil] at h5
            have h6 := hbn.out
            rw [← h5] at h6
            exact h6⟩
          go_wp2
          go_roundg F
          case measure => omega
          case rel => exact ⟨h2, t2, A2, c2, m2, nh2, rfl, hfin, ⟨hm2.out.1⟩, hQ2, hM2r, hB2⟩
end Go.Proofs.YtlgpoigbadajnaaDoor.DepA
