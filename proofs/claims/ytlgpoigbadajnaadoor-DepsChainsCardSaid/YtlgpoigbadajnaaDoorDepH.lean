/- deps.Groups: what each needs. No condition beyond those that each states. -/
import Derived.Test.YtlgpoigbadajnaaDoorDepG
namespace Go.Proofs.YtlgpoigbadajnaaDoor.DepA
open Go.Maps (Keyed)
open Go.RowKit Go.Proofs.YtlgpoigbadajnaaDoorW.PrintWords Go.Proofs.YtlgpoigbadajnaaDoorW.PrintLast Go.Proofs.YtlgpoigbadajnaaDoorW.PrintMore Go.Proofs.YtlgpoigbadajnaaDoor.PDepA
set_option linter.unusedVariables false
set_option linter.unusedSimpArgs false
theorem infMI : (Tryd.prog.info? 59).map (fun i => (i.zero, i.size, i.bytes)) = some (some (.map none), 1, 8) := by kernel_rfl
structure NS' (W : World) (base nbx : Nat) (v : Value) (ms : NM) : Prop where
  box : W.heap[nbx]? = some (.cells #[v] 58 (0, 0))
  row : Kd.R kM 59 W base (fun j => j ≠ nbx) v (ms.map (·.1))
  maps : ∀ m ∈ ms, MapD W m.1 m.2.1 m.2.2
  ge : base ≤ nbx
theorem Rm_ok {base : Nat} {ok ok' : Nat → Prop} {W : World} {v : Value} {xs : List Nat} (h : Kd.R kM 59 W base ok v xs) (hok : ∀ j, v.ownBlock = some j → ok' j) : Kd.R kM 59 W base ok' v xs := by
  obtain ⟨h0, inner, ho, hr⟩ := h
  exact ⟨hok, inner, ho, hr.imp_ (fun _ _ hm => hm)⟩
theorem Rm_step {base : Nat} {ok ok' : Nat → Prop} {W W1 : World} {v : Value} {xs : List Nat} (h : Kd.R kM 59 W base ok v xs) (hb : ∀ j, v.ownBlock = some j → W1.heap[j]? = W.heap[j]?) (hok : ∀ j, v.ownBlock = some j → ok' j) : Kd.R kM 59 W1 base ok' v xs :=
  Rm_ok (Kd.R_step (Rm_ok (ok' := fun j => v.ownBlock = some j) h (fun _ hj => hj)) (fun j hj _ => hb j hj)) hok
theorem R_cells {α : Type} {d : Kd α} {e base : Nat} {ok : Nat → Prop} {W : World} {v : Value} {xs : List α} (h : d.R e W base ok v xs) {g : Nat} (hg : v.ownBlock = some g) : ∃ cur, W.heap[g]? = some (.cells cur e (0, 0)) := by
  obtain ⟨_, inner, ho, _⟩ := h
  rcases ho.2 with ⟨he, _⟩ | ⟨g', cap, cur, he, _, hh, _⟩
  · subst he; cases hg
  · subst he
    have : g' = g := by simpa [Value.ownBlock] using hg
    subst this
    exact ⟨cur, hh⟩
theorem MapD.ne_cells {W : World} {b n g : Nat} {r : List Int} (h : MapD W b n r) {cur : Array Value} {t : TypeId} {q : Nat × Nat} (hg : W.heap[g]? = some (.cells cur t q)) : b ≠ g := by
  rintro rfl
  obtain ⟨es, c, hm⟩ := h.mapF.blk
  rw [hg] at hm
  cases hm
section
variable {W W1 : World} {base nbx : Nat} {v v3 : Value} {ms : NM}
theorem NS'.below (h : NS' W base nbx v ms) (hb : Below W.heap.size W W1) : NS' W1 base nbx v ms :=
  ⟨blk_below h.box hb, Rm_step h.row (fun j hj => hb.block j (Kd.R_lt h.row j hj)) (fun j hj => h.row.1 j hj), fun m hm => (h.maps m hm).of_block (hb.block _ (h.maps m hm).lt), h.ge⟩
theorem NS'.add (h : NS' W base nbx v ms) {b n : Nat} {r : List Int} (hm : MapD W b n r) (hr : Kd.R kM 59 W1 base (fun j => j ≠ nbx) v3 (ms.map (·.1) ++ [b])) (hg : W.grownBy W1 v.ownBlock) : NS' (W1.setCell ⟨nbx, 0, none⟩ v3) base nbx v3 (ms ++ [(b, n, r)]) := by
  have hfar : ∀ k, k ≠ nbx → (W1.setCell ⟨nbx, 0, none⟩ v3).heap[k]? = W1.heap[k]? := fun k hk => Below.heap_setCell W1 ⟨nbx, 0, none⟩ v3 k hk
  have hbx : W1.heap[nbx]? = W.heap[nbx]? := hg.block nbx (Array.getElem?_eq_some_iff.1 h.box).1 (fun e => h.row.1 nbx e.symm rfl)
  have hmap : ∀ b' n' r', MapD W b' n' r' → MapD (W1.setCell ⟨nbx, 0, none⟩ v3) b' n' r' := fun b' n' r' hm' => hm'.of_block ((hfar b' (hm'.ne_cells h.box)).trans (hg.block b' hm'.lt (fun e => by
    obtain ⟨cur, hc⟩ := R_cells h.row e.symm
    exact hm'.ne_cells hc rfl)))
  refine ⟨blk_put (hbx.trans h.box) 0 v3 rfl, ?_, fun m hmm => ?_, h.ge⟩
  · rw [List.map_append]
    exact Rm_step hr (fun j hj => hfar j (hr.1 j hj)) (fun j hj => hr.1 j hj)
  · rcases List.mem_append.1 hmm with hmm | hmm
    · exact hmap _ _ _ (h.maps m hmm)
    · obtain rfl : m = (b, n, r) := by simpa using hmm
      exact hmap _ _ _ hm
theorem NS'.ne (h : NS' W base nbx v ms) : NE W nbx ms := by
  refine ⟨?_, h.maps⟩
  obtain ⟨A, c, he, _, hC⟩ := Kd.R_reads h.row
  rw [List.length_map] at he hC
  exact ⟨A, c, by rw [← he]; exact h.box, hC⟩
end
/-! ### plain -/
def okKr (rs : List (List Int)) (done : List Int) (i k : Int) : Bool := inI done k || (match rs[k.toNat]? with | some r => inI r i | none => true)
def rdyR (rs : List (List Int)) (done : List Int) (i : Nat) : Bool := match rs[i]? with
  | some r => r.all (okKr rs done (i : Int)) && !inI done (i : Int)
  | none => false
theorem okK_r (ms : NM) (done : List Int) (i : Int) : okK ms done i = okKr (ms.map (·.2.2)) done i := by
  funext k
  unfold okK okKr
  rw [List.getElem?_map]
  cases ms[k.toNat]? <;> rfl
theorem rdy_r (ms : NM) (done : List Int) (i : Nat) : rdy ms done i = rdyR (ms.map (·.2.2)) done i := by
  unfold rdy rdyR
  rw [List.getElem?_map, okK_r]
  cases ms[i]? <;> rfl
def nxt (rs : List (List Int)) (done : List Int) : Nat → Nat → Option Nat
  | 0, _ => none
  | F + 1, i => if i < rs.length then (if rdyR rs done i then some i else nxt rs done F (i + 1)) else none
def both (rs : List (List Int)) (i k : Nat) : Bool := (match rs[i]? with | some r => inI r (k : Int) | none => false) && (match rs[k]? with | some r => inI r (i : Int) | none => false)
def gr (rs : List (List Int)) (i : Nat) : Nat → Nat → List Int
  | 0, _ => []
  | F + 1, k => if both rs i k then (k : Int) :: gr rs i F (k + 1) else gr rs i F (k + 1)
theorem gr_len (rs : List (List Int)) (i : Nat) : ∀ (F k : Nat), (gr rs i F k).length ≤ F
  | 0, _ => Nat.le_refl _
  | F + 1, k => by
    have := gr_len rs i F (k + 1)
    simp only [gr]
    split
    · simp only [List.length_cons]; omega
    · omega
theorem gr_ge (rs : List (List Int)) (i : Nat) : ∀ (F k : Nat) (x : Int), x ∈ gr rs i F k → (k : Int) ≤ x
  | 0, _, x, h => by simp [gr] at h
  | F + 1, k, x, h => by
    simp only [gr] at h
    split at h
    · rcases List.mem_cons.1 h with rfl | h
      · exact Int.le_refl _
      · have := gr_ge rs i F (k + 1) x h; omega
    · have := gr_ge rs i F (k + 1) x h; omega
def grps (rs : List (List Int)) : Nat → List Int → List (List Int) → Option (List (List Int))
  | 0, _, _ => none
  | F + 1, done, out => if done.length < rs.length then (match nxt rs done 2000 0 with
    | none => none
    | some i => if (gr rs i rs.length 0).all (fun x => !inI done x) && decide (out.length ≤ 1000) then grps rs F (done ++ gr rs i rs.length 0) (out ++ [gr rs i rs.length 0]) else none) else some out
theorem grps_step {rs : List (List Int)} {F : Nat} {done : List Int} {out R : List (List Int)} (h : grps rs (F + 1) done out = some R) (hl : done.length < rs.length) : ∃ i, nxt rs done 2000 0 = some i ∧ (∀ x ∈ gr rs i rs.length 0, inI done x = false) ∧ out.length ≤ 1000 ∧ grps rs F (done ++ gr rs i rs.length 0) (out ++ [gr rs i rs.length 0]) = some R := by
  simp only [grps, if_pos hl] at h
  split at h
  · cases h
  · rename_i i hi
    split at h
    · rename_i hc
      simp only [Bool.and_eq_true, decide_eq_true_eq] at hc
      exact ⟨i, hi, fun x hx => by simpa using List.all_eq_true.1 hc.1 x hx, hc.2, h⟩
    · cases h
theorem nxt_lt {rs : List (List Int)} {done : List Int} : ∀ {F i k : Nat}, nxt rs done F i = some k → k < rs.length
  | 0, _, _, h => by cases h
  | F + 1, i, k, h => by
    simp only [nxt] at h
    split at h
    · rename_i hi
      split at h
      · obtain rfl := Option.some.inj h; exact hi
      · exact nxt_lt h
    · cases h
def needR (us : List (List Int)) (j : Nat) : List Int := (bfs us 3000 [(j : Int)] [(j : Int)]).getD []
def rsL (us : List (List Int)) : List (List Int) := (List.range us.length).map (needR us)
def okR (us : List (List Int)) : Bool := small us && decide (us.length ≤ 1000) && (List.range us.length).all (fun j => (bfs us 3000 [(j : Int)] [(j : Int)]).isSome) && (rsL us).all (fun r => r.all fun k => decide (0 ≤ k) && decide (k < (us.length : Int)))
theorem needR_eq {us : List (List Int)} (h : okR us = true) {j : Nat} (hj : j < us.length) : bfs us 3000 [(j : Int)] [(j : Int)] = some (needR us j) := by
  simp only [okR, Bool.and_eq_true] at h
  have := List.all_eq_true.1 h.1.2 j (List.mem_range.2 hj)
  unfold needR
  cases hb : bfs us 3000 [(j : Int)] [(j : Int)] with
  | none => rw [hb] at this; cases this
  | some r => rfl
/-! ### the walk: what each needs -/
set_option maxHeartbeats 8000000 in
set_option maxRecDepth 100000 in
theorem needs_round {W : World} {base : Nat} {us : List (List Int)} (hok : okR us = true) {U : Option Addr} {cu : Nat} (hU : Kd.C kII W U us.length us) {nbx : Nat} {v : Value} {ms : NM} (h : NS' W base nbx v ms) (j : Nat) (hj : j < us.length) :
    Calls Tryd.prog 29 #[.slice U us.length cu, .int .i64 (j : Int)] W fun e w' => ∃ hb nh, e = .returned (.map (some hb)) ∧ MapD w' hb nh (needR us j) ∧ NS' w' base nbx v ms ∧ Below W.heap.size W w' := by
  have hh := hok
  simp only [okR, Bool.and_eq_true, decide_eq_true_eq] at hok
  refine (needed_calls us hok.1.1.1 hU (j : Int) ⟨by omega, by omega⟩ (needR_eq hh hj)).mono ?_
  rintro e w' ⟨hb, nh, rfl, hm, _, hbl⟩
  exact ⟨hb, nh, rfl, hm, h.below hbl, hbl⟩
structure GS (w1 w' : World) (dbx db B2 nd : Nat) (done : List Int) (A : Option Addr) (c : Nat) (out : List (List Int)) : Prop where
  b : Below db w1 w'
  d : MapD w' db nd done
  n : nd ≤ done.length
  x : w'.heap[dbx]? = some (.cells #[.map (some db)] 59 (0, 0))
  r : Kd.R kII 42 w' B2 (fun _ => True) (.slice A out.length c) out
  z : db < B2 ∧ dbx < B2 ∧ B2 ≤ w'.heap.size
theorem GS.below {w1 w' w2 : World} {dbx db B2 nd : Nat} {done : List Int} {A : Option Addr} {c : Nat} {out : List (List Int)} (h : GS w1 w' dbx db B2 nd done A c out) (hb : Below w'.heap.size w' w2) : GS w1 w2 dbx db B2 nd done A c out :=
  ⟨h.b.trans (hb.mono (by have := h.z; omega)), h.d.of_block (hb.block _ h.d.lt), h.n, blk_below h.x hb, Kd.R_step h.r (fun j _ hj => hb.block j hj), ⟨h.z.1, h.z.2.1, Nat.le_trans h.z.2.2 hb.size⟩⟩
theorem RII_away {W W1 : World} {B2 : Nat} {v : Value} {xs : List (List Int)} {row : Option Nat} (h : Kd.R kII 42 W B2 (fun _ => True) v xs) (hb : ∀ j, B2 ≤ j → j < W.heap.size → some j ≠ row → W1.heap[j]? = W.heap[j]?) (hne : ∀ j, row = some j → j < B2) : Kd.R kII 42 W1 B2 (fun _ => True) v xs :=
  Kd.R_mono (Kd.R_step (Kd.R_bound h) (fun j hj hlt => hb j hj.2.1 hlt (fun e => by have := hne j e.symm; have := hj.2.1; omega))) (fun _ _ => trivial)
theorem mapLen {W : World} {b n : Nat} {r : List Int} (h : MapD W b n r) : (Builtin.len_ #[59] 3 #[.map (some b)]).run Tryd.prog W = .ok (.int .i64 (r.length : Int)) W := by
  obtain ⟨D, ho, _, _, hs⟩ := h
  rw [ho.len Tryd.underlying59 3, hs]
theorem okM_r {ms : NM} {us : List (List Int)} (hok : okR us = true) (h : ms.map (·.2.2) = rsL us) : okM ms = true := by
  have hl : ms.length = us.length := by have := congrArg List.length h; simpa [rsL] using this
  simp only [okR, Bool.and_eq_true, decide_eq_true_eq] at hok
  unfold okM
  rw [hl]
  simp only [Bool.and_eq_true, decide_eq_true_eq]
  refine ⟨hok.1.1.2, ?_⟩
  have h2 := hok.2
  rw [← h, List.all_map] at h2
  exact h2
theorem grp_at {W : World} {nbx : Nat} {ms : NM} (hN : NE W nbx ms) (h0 : 0 < ms.length) : ∃ ad c, W.cell? ⟨nbx, 0, none⟩ = some (.slice (some ad) ms.length c) ∧ ∀ i (hi : i < ms.length), W.cell? (ad.add i) = some (.map (some ms[i].1)) ∧ ∀ x, WF x → (Instr.lookup 59 (.map (some ms[i].1)) (.int .i64 x) false).run Tryd.prog W = .ok (.int .i64 (memN ms[i].2.2 x)) W := by
  obtain ⟨⟨A, c, h1, h2⟩, h3⟩ := hN
  obtain ⟨ad, rfl, _⟩ := at_map h2 0 (by simpa using h0) h0
  refine ⟨ad, c, (blk_cell h1 0).trans rfl, fun i hi => ⟨?_, fun x hx => (h3 _ (List.getElem_mem hi)).look hx⟩⟩
  obtain ⟨ad', e, hv⟩ := at_map h2 i (by simpa using hi) hi
  obtain rfl := Option.some.inj e
  rw [List.getElem_map] at hv
  exact hv
theorem both_eq {ms : NM} {rs : List (List Int)} (h : ms.map (·.2.2) = rs) {i k : Nat} (hi : i < ms.length) (hk : k < ms.length) : both rs i k = (inI ms[i].2.2 (k : Int) && inI ms[k].2.2 (i : Int)) := by
  subst h
  unfold both
  rw [List.getElem?_map, List.getElem?_map, List.getElem?_eq_getElem hi, List.getElem?_eq_getElem hk]
  rfl
set_option maxHeartbeats 16000000 in
set_option maxRecDepth 100000 in
theorem groups_calls {w : World} (ds : List S34) (hok : okDs ds = true) (hor : okR (allL ds) = true) {R : List (List Int)} (hg : grps (rsL (allL ds)) 2000 [] [] = some R) {Ad Af : Option Addr} {nd cd cf : Nat} (hC : Kd.C k34 w Af ds.length ds) :
    Calls Tryd.prog 13 #[.agg #[.slice Ad nd cd, .slice Af ds.length cf]] w fun e w' => ∃ A c, e = .returned (.slice A R.length c) ∧ R.length ≤ c ∧ Kd.C kII w' A R.length R ∧ Below w.heap.size w w' := by
  have hmm := @run_makeMap Tryd.prog
  have hb1 := below_alloc (Below.refl w.heap.size w) (.cells #[.slice Ad nd cd, .slice Af ds.length cf] 38)
  have CA := all_calls ds hok (Kd.C_below hC hb1) (Ad := Ad) (nd := nd) (cd := cd) (cf := cf)
  have hlu : (allL ds).length ≤ 1000 := by simp only [okR, Bool.and_eq_true, decide_eq_true_eq] at hor; exact hor.1.1.2
  have hb1 := Aside0.mk hb1
  have hor := Aside0.mk hor
  have hg := Aside0.mk hg
  clear hok hC
  generalize allL ds = us at *
  go_enter Tryd.func13, Tryd.ntmps13
  go_wp2_with (first | (go_at_call 28; go_loud (with_reducible refine CA.mono ?_); rintro e w2 ⟨U, rfl, hU, hb2⟩; have HB2 := Aside0.mk (below_step hb1.out hb2); have HU := Aside0.mk hU; have HNS := Aside0.mk (show NS' (w2.alloc (.cells #[.slice none 0 0] 58)) w2.heap.size w2.heap.size (.slice none 0 0) [] from ⟨blk_new w2 _, Kd.R_nil _ _ _ _ _, (fun m hm => nomatch hm), Nat.le_refl _⟩); clear hU hb2 CA))
  have hBa : Aside0 (Below w2.heap.size w2 (w2.alloc (.cells #[.slice none 0 0] 58))) := ⟨below_alloc (Below.refl _ _) _⟩
  have hCU : Aside0 (∀ W, Below w2.heap.size w2 W → Kd.C kII W U us.length us) := ⟨fun W hW => Kd.C_below HU.out hW⟩
  have hBw : Aside0 (∀ W, Below w2.heap.size w2 W → Below w.heap.size w W) := ⟨fun W hW => HB2.out.trans (hW.mono HB2.out.size)⟩
  clear HU HB2
  obtain ⟨nbx, hnx⟩ : ∃ nbx, w2.heap.size = nbx := ⟨_, rfl⟩
  rw [hnx] at HNS hBa hCU hBw ⊢
  clear hnx
  go_loopg [16] (us.length + 1) (fun kq v16 w' => ∃ (i : Nat) (A : Option Addr) (c : Nat) (ms : NM), v16 = .int .i64 (i : Int) ∧ i + kq = us.length + 1 ∧ 1 ≤ kq ∧ Aside0 (ms.map (·.2.2) = (List.range i).map (needR us)) ∧ Aside0 (NS' w' nbx nbx (.slice A ms.length c) ms) ∧ Aside0 (Below nbx w2 w'))
  case atStart => exact ⟨0, none, 0, [], rfl, by omega, by omega, ⟨rfl⟩, HNS, hBa⟩
  case round =>
    obtain ⟨i, A, c, ms, rfl, hi, hk, hms, hns, hB⟩ := hrel
    have hml : ms.length = i := by have := congrArg List.length hms.out; simpa using this
    by_cases hlt : i < us.length
    · have q1 : decide ((i : Int) < (us.length : Int)) = true := decide_eq_true (by omega)
      have hwd : Aside0 (Below wr.heap.size wr wr.drew) := ⟨below_drew1 (Below.refl _ _)⟩
      have hns2 : Aside0 (NS' wr.drew nbx nbx (.slice A ms.length c) ms) := ⟨hns.out.below hwd.out⟩
      have hB2 : Aside0 (Below nbx w2 wr.drew) := ⟨below_drew1 hB.out⟩
      have hU2 : Aside0 (Kd.C kII wr.drew U us.length us) := ⟨hCU.out _ hB2.out⟩
      have X0 : Aside0 (wr.drew.cell? ⟨nbx, 0, none⟩ = some (.slice A ms.length c)) := ⟨(blk_cell hns2.out.box 0).trans rfl⟩
      replace hml := Aside0.mk hml
      go_wp2
      refine start_ (n := 7) (S := fun w' => w'.cell? ⟨nbx, 0, none⟩ = some (.slice A ms.length c)) (ds := [6]) #[false, false, false, false, false, false, false] (by kernel_rfl) rfl rfl (X0.out) (fun hHeld => ?_)
      generalize wr.drew = W9 at *
      refine pure_ (i := 1) (N := some 20) (v := ?_) (a' := ?_) #[false, true, false, false, false, false, false] rfl rfl (by kernel_rfl) (fun _ _ _ h => h) (Or.inl ⟨by rfl, ?_⟩) ?_ ?_
      rotate_left
      · intro w'
        go_simp
        with_reducible rfl
      rotate_left
      · simp only [Act.put, List.setIfInBounds_toArray, List.set_cons_zero, List.set_cons_succ, i64_w, i32_w]
        rfl
      refine pure_ (i := 2) (N := some 21) (v := ?_) (a' := ?_) #[false, true, true, false, false, false, false] rfl rfl (by kernel_rfl) (fun _ _ _ h => h) (Or.inl ⟨by rfl, ?_⟩) ?_ ?_
      rotate_left
      · intro w'
        go_simp
        with_reducible rfl
      rotate_left
      · simp only [Act.put, List.setIfInBounds_toArray, List.set_cons_zero, List.set_cons_succ, i64_w, i32_w]
        rfl
      refine take_ (i := 0) (N := some 19) (v := ?_) (a' := ?_) #[true, true, true, false, false, false, false] rfl rfl (by kernel_rfl) (fun _ _ _ h => h) (Or.inl ⟨by rfl, ?_⟩) hHeld ?_ ?_
      rotate_left
      · intro w' s0
        go_simp
        with_reducible rfl
      rotate_left
      · simp only [Act.put, List.setIfInBounds_toArray, List.set_cons_zero, List.set_cons_succ, i64_w, i32_w]
        rfl
      refine one_ (i := 3) (N := some 22) #[true, true, true, true, false, false, false] rfl rfl (by kernel_rfl) (by decide) (fun K hK => ?_)
      refine goes_ Tryd.func29 (by kernel_rfl) rfl #[.slice U us.length us.length, .int .i64 (i : Int)] (by rfl) rfl rfl (by simp only [List.map_toArray, List.map_cons, List.map_nil]; rfl) ?_
      (with_reducible refine (needs_round hor.out hU2.out hns2.out i hlt).mono ?_)
      rintro e w5 ⟨mb, mn, rfl, hm5, hn5, hbq⟩
      refine ⟨_, rfl, ?_⟩
      have HM5 := Aside0.mk hm5
      have HN5 := Aside0.mk hn5
      have HBQ := Aside0.mk hbq
      have X5 : w5.cell? ⟨nbx, 0, none⟩ = some (.slice A ms.length c) := (blk_cell hn5.box 0).trans rfl
      clear hm5 hn5 hbq
      refine hK.out _ _ (X5) (fun hHeld => ?_)
      clear hK K
      refine norm_ (a' := ?_) ?_ ?_
      rotate_left
      · show Act.put _ (some 22) _ = _
        simp only [Act.put, List.setIfInBounds_toArray, List.set_cons_zero, List.set_cons_succ, i64_w, i32_w]
        rfl
      refine one_ (i := 4) (N := some 23) #[true, true, true, true, true, false, false] rfl rfl (by kernel_rfl) (by decide) (fun K hK => ?_)
      refine value_ (w1 := ?_) (v := ?_) (by rfl) rfl ?_ ?_
      rotate_left 2
      · go_simp
        constructor
        · rfl
        · rfl
      refine hK.out _ _ ((World.cell?_alloc_lt _ _ _ (World.block_lt_of_cell? _ _ hHeld)).trans hHeld) (fun hHeld => ?_)
      clear hK K
      refine norm_ (a' := ?_) ?_ ?_
      rotate_left
      · show Act.put _ (some 23) _ = _
        simp only [Act.put, List.setIfInBounds_toArray, List.set_cons_zero, List.set_cons_succ, i64_w, i32_w]
        rfl
      refine one_ (i := 5) (N := some 24) #[true, true, true, true, true, true, false] rfl rfl (by kernel_rfl) (by decide) (fun K hK => ?_)
      refine Kd.R_append_step kM (w0 := w5) nbx (by rfl) (.tmp 19) (.tmp 23) 58 59 (.map none) 8 rfl Tryd.underlying58 infMI rfl (by decide) (by decide) (.slice A ms.length c) (ms.map (·.1)) mb [.map (some mb)] (fun j => j ≠ nbx) (fun _ => False) rfl rfl rfl (fun _ hk => hk.elim) ?aF ?aO ?aB ?aS ?aL ?_
      case aF => exact fun k hk e => by have := (Array.getElem?_eq_some_iff.1 HN5.out.box).1; omega
      case aO => exact HN5.out.row
      case aB => exact Below.refl _ _
      case aS => exact Nat.le_of_lt (Array.getElem?_eq_some_iff.1 HN5.out.box).1
      case aL => rw [List.length_map]; have := hml.out; omega
      intro v3 w3 ho hb3 hg3 hat3
      obtain ⟨Ao, co, hv3⟩ := Kd.R_slice ho
      rw [List.length_append, List.length_map, List.length_singleton] at hv3
      subst hv3
      have hbk3 := (hg3.block nbx (Array.getElem?_eq_some_iff.1 HN5.out.box).1 (fun e => HN5.out.row.1 nbx e.symm rfl)).trans HN5.out.box
      have hfz3 := blk_frozen hbk3 0
      have hcz3 : w3.cell? ⟨nbx, 0, none⟩ = some (.slice A ms.length c) := (blk_cell hbk3 0).trans rfl
      refine hK.out _ _ (hcz3) (fun hHeld => ?_)
      clear hK K
      refine norm_ (a' := ?_) ?_ ?_
      rotate_left
      · show Act.put _ (some 24) _ = _
        simp only [Act.put, List.setIfInBounds_toArray, List.set_cons_zero, List.set_cons_succ, i64_w, i32_w]
        rfl
      refine last_ (i := 6) (N := none) #[true, true, true, true, true, true, true] rfl rfl (by kernel_rfl) (by decide) (fun K hK => ?_)
      refine skip_ (w1 := ?_) (by rfl) rfl ?_ ?_
      rotate_left
      · go_simp
        rfl
      refine hK.out _ _ ?_
      clear hK K
      refine done_ (by kernel_rfl) ?_
      have hN6 := HN5.out.add HM5.out ho hg3
      have hB5 : Below nbx w2 w5 := hB2.out.trans (HBQ.out.mono (Nat.le_of_lt (Array.getElem?_eq_some_iff.1 hns2.out.box).1))
      have hB6 : Aside0 (Below nbx w2 (w3.setCell ⟨nbx, 0, none⟩ (.slice Ao (ms.length + 1) co))) := ⟨(hB5.trans ((Mod.of_own hg3).below (Nat.le_of_lt (Array.getElem?_eq_some_iff.1 HN5.out.box).1) (fun j _ hj => Kd.R_base HN5.out.row j hj))).setCell (p := ⟨nbx, 0, none⟩) (Nat.le_refl _) _⟩
      have hN6 : Aside0 (NS' (w3.setCell ⟨nbx, 0, none⟩ (.slice Ao (ms.length + 1) co)) nbx nbx (.slice Ao (ms ++ [(mb, mn, needR us i)]).length co) (ms ++ [(mb, mn, needR us i)])) := ⟨by
        rw [List.length_append, List.length_singleton]
        exact hN6⟩
      have hms6 : Aside0 ((ms ++ [(mb, mn, needR us i)]).map (·.2.2) = (List.range (i + 1)).map (needR us)) := ⟨by rw [List.map_append, hms.out, List.range_succ, List.map_append]; rfl⟩
      have hlen6 : (ms ++ [(mb, mn, needR us i)]).length = ms.length + 1 := by simp
      generalize w3.setCell ⟨nbx, 0, none⟩ (.slice Ao (ms.length + 1) co) = Wc at *
      clear hg3 ho hat3 hbk3 hfz3 hcz3 hHeld hB5
      go_wp2
      rw [← hlen6]
      go_roundg (gk - 1)
      case measure => omega
      case rel => exact ⟨i + 1, Ao, co, ms ++ [(mb, mn, needR us i)], by go_num, by omega, by omega, hms6, hN6, hB6⟩
    · have q1 : decide ((i : Int) < (us.length : Int)) = false := decide_eq_false (by omega)
      have hi2 : i = us.length := by omega
      subst hi2
      have hrs : ms.map (·.2.2) = rsL us := hms.out
      have hokm := Aside0.mk (okM_r hor.out hrs)
      have hrs := Aside0.mk hrs
      have hNE := Aside0.mk hns.out.ne
      have hBr := Aside0.mk (hBw.out _ hB.out)
      have hrl : Aside0 ((rsL us).length = us.length) := ⟨by simp [rsL]⟩
      have E : ∀ W : World, ∀ o : Obj, (W.alloc o).heap.size = W.heap.size + 1 := fun W o => Array.size_push _
      have hGS : Aside0 (GS wr ((wr.alloc (.map #[] 0)).alloc (.cells #[.map (some wr.heap.size)] 59)) (wr.heap.size + 1) wr.heap.size (wr.heap.size + 1 + 1) 0 [] none 0 []) := ⟨⟨below_alloc (below_alloc (Below.refl _ _) _) _, (MapD.made wr).of_block (Below.heap_alloc _ _ _ (by rw [E]; omega)), Nat.le_refl _, by have := blk_new (wr.alloc (.map #[] 0)) (.cells #[.map (some wr.heap.size)] 59 (0, 0)); rwa [E] at this, Kd.R_nil _ _ _ _ _, ⟨by omega, by omega, by rw [E, E]; exact Nat.le_refl _⟩⟩⟩
      replace hml := Aside0.mk hml
      clear hms hns hB
      go_wp2
      have hNEw : Aside0 (∀ W : World, Below wr.heap.size wr W → NE W nbx ms) := ⟨fun W hW => hNE.out.below hW⟩
      have hBw2 : Aside0 (∀ W : World, Below wr.heap.size wr W → Below w.heap.size w W) := ⟨fun W hW => hBr.out.trans (hW.mono hBr.out.size)⟩
      have hdd : Aside0 (wr.heap.size + 1 ≠ wr.heap.size) := ⟨by omega⟩
      clear hNE hBr hBw
      generalize ((wr.alloc (.map #[] 0)).alloc (.cells #[.map (some wr.heap.size)] 59)) = wS at *
      generalize wr.heap.size + 1 = dbx at *
      generalize wr.heap.size = db at *
      generalize dbx + 1 = B2 at *
      generalize wr = wN at *
      go_loopg [8] 2000 (fun kq v8 w' => ∃ (done : List Int) (out : List (List Int)) (A : Option Addr) (c nd : Nat), v8 = .slice A out.length c ∧ Aside0 (grps (rsL us) kq done out = some R) ∧ Aside0 (GS wN w' dbx db B2 nd done A c out))
      case atStart => exact ⟨[], [], none, 0, 0, rfl, hg, hGS⟩
      case round =>
        obtain ⟨done, out, A, c, nd, rfl, hgr, hgs⟩ := hrel
        have hdx : Aside0 (∀ W : World, W.heap[dbx]? = some (.cells #[.map (some db)] 59 (0, 0)) → W.cell? ⟨dbx, 0, none⟩ = some (.map (some db))) := ⟨fun W hW => (blk_cell hW 0).trans rfl⟩
        have hc0 := hdx.out _ hgs.out.x
        have hln := mapLen hgs.out.d
        cases gk with
        | zero => cases hgr.out
        | succ F =>
        by_cases hlt : done.length < us.length
        · obtain ⟨i0, hnx, hdn, hol, hgn⟩ := grps_step hgr.out (by rw [hrl.out]; exact hlt)
          have q1 : decide ((done.length : Int) < (us.length : Int)) = true := decide_eq_true (by omega)
          have hi0 := nxt_lt hnx
          have hnx := Aside0.mk hnx
          have hdn := Aside0.mk hdn
          have hgn := Aside0.mk hgn
          have hol := Aside0.mk hol
          have hi0 := Aside0.mk hi0
          have hlt := Aside0.mk hlt
          clear hgr
          go_wp2
          go_loopg [9] 2000 (fun kq v9 w' => ∃ (i : Nat) , v9 = .int .i64 (i : Int) ∧ Aside0 (nxt (rsL us) done kq i = some i0) ∧ Aside0 (GS wN w' dbx db B2 nd done A c out))
          case atStart => exact ⟨0, rfl, hnx, hgs⟩
          case round =>
            clear hgs
            obtain ⟨i, rfl, hnx, hgs⟩ := hrel
            cases gk with
            | zero => cases hnx.out
            | succ F2 =>
            have hil : i < (rsL us).length := by
              have := hnx.out
              simp only [nxt] at this
              split at this
              · assumption
              · cases this
            have CR := ready_calls (hNEw.out _ hgs.out.b) hokm.out hgs.out.d hgs.out.x i (by rw [hrl.out] at hil; have := hml.out; omega)
            rw [rdy_r, hrs.out] at CR
            have hnx2 := hnx.out
            simp only [nxt, if_pos hil] at hnx2
            by_cases hr : rdyR (rsL us) done i = true
            · rw [if_pos hr] at hnx2
              obtain rfl := Option.some.inj hnx2
              rw [hr] at CR
              clear hnx2 hr hil hnx
              go_wp2_with (first | (go_at_call 30; go_loud (with_reducible refine CR.mono ?_); rintro e w5 ⟨rfl, hb5⟩; have hgs5 := Aside0.mk (hgs.out.below hb5); clear hb5 CR))
              have hil : i < ms.length := by have := hi0.out; rw [hrl.out] at this; have := hml.out; omega
              have hmu : ms.length = us.length := hml.out
              have hil := Aside0.mk hil
              have hmu := Aside0.mk hmu
              clear hgs
              go_loopg [10, 41] (us.length + 1) (fun kq v10 v41 w' => ∃ (k : Nat) (grp : List Int) (A3 : Option Addr) (c3 nd3 : Nat), v10 = .slice A3 grp.length c3 ∧ v41 = .int .i64 (k : Int) ∧ k + kq = us.length + 1 ∧ 1 ≤ kq ∧ Aside0 (grp ++ gr (rsL us) i (us.length - k) k = gr (rsL us) i us.length 0) ∧ Aside0 (MapD w' db nd3 (done ++ grp) ∧ nd3 ≤ done.length + grp.length ∧ grp.length ≤ k ∧ ∀ x ∈ grp, x < (k : Int)) ∧ Aside0 (Mod w5 w' (· = db)) ∧ Aside0 (Kd.R kI 3 w' w5.heap.size (fun _ => True) (.slice A3 grp.length c3) grp))
              case atStart => exact ⟨0, [], none, 0, nd, rfl, rfl, by omega, by omega, ⟨rfl⟩, ⟨by rw [List.append_nil]; exact hgs5.out.d, hgs5.out.n, Nat.le_refl _, fun x hx => nomatch hx⟩, ⟨Mod.refl _ _⟩, ⟨Kd.R_nil _ _ _ _ _⟩⟩
              case round =>
                obtain ⟨k, grp, A3, c3, nd3, rfl, rfl, hk1, hk2, hgq, hmd, hmod, hR3⟩ := hrel
                have hBk : Aside0 (Below db wN wr) := ⟨hgs5.out.b.trans (hmod.out.below (by have := hgs5.out.z; omega) (fun j _ hj => Nat.le_of_eq hj.symm))⟩
                by_cases hkl : k < us.length
                · have q1 : decide ((k : Int) < (us.length : Int)) = true := decide_eq_true (by omega)
                  have hkm : k < ms.length := by have := hmu.out; omega
                  obtain ⟨ad, cN, hcN, hat⟩ := grp_at (hNEw.out _ hBk.out) (by omega)
                  obtain ⟨hv1, hlk1⟩ := hat i hil.out
                  obtain ⟨hv2, hlk2⟩ := hat k hkm
                  have hlk1 := hlk1 (k : Int) ⟨by omega, by omega⟩
                  have hlk2 := hlk2 (i : Int) ⟨by omega, by have := hil.out; have := hmu.out; omega⟩
                  rw [memN_in] at hlk1 hlk2
                  have hbo := both_eq hrs.out hil.out hkm
                  have hgk : gr (rsL us) i (us.length - k) k = if both (rsL us) i k then (k : Int) :: gr (rsL us) i (us.length - (k + 1)) (k + 1) else gr (rsL us) i (us.length - (k + 1)) (k + 1) := by
                    rw [show us.length - k = (us.length - (k + 1)) + 1 by omega]; rfl
                  have pi0 : (0 : Int) ≤ (i : Int) := by omega
                  have pi1 : (i : Int) < (ms.length : Int) := by have := hil.out; omega
                  have pk0 : (0 : Int) ≤ (k : Int) := by omega
                  have pk1 : (k : Int) < (ms.length : Int) := by omega
                  generalize ms[i]'hil.out = mi at *
                  generalize ms[k]'hkm = mk at *
                  obtain ⟨bi, ni, ri⟩ := mi
                  obtain ⟨bk, nk, rk⟩ := mk
                  simp only at hv1 hv2 hlk1 hlk2 hbo
                  clear hat
                  have hgk := Aside0.mk hgk
                  have hbo := Aside0.mk hbo
                  by_cases y1 : inI ri (k : Int) = true
                  · rw [if_pos y1] at hlk1
                    by_cases y2 : inI rk (i : Int) = true
                    · rw [if_pos y2] at hlk2
                      have hgq2 : Aside0 ((grp ++ [(k : Int)]) ++ gr (rsL us) i (us.length - (k + 1)) (k + 1) = gr (rsL us) i us.length 0) := ⟨by
                        rw [← hgq.out, hgk.out, hbo.out, if_pos (by simp [y1, y2]), List.append_assoc]; rfl⟩
                      have hnew : Aside0 (inI (done ++ grp) (k : Int) = false) := ⟨by
                        have h1 := hdn.out (k : Int) (by rw [hrl.out, ← hgq2.out]; simp)
                        have h2 : inI grp (k : Int) = false := by
                          cases e : inI grp (k : Int) with
                          | false => rfl
                          | true => have := hmd.out.2.2.2 _ (inI_iff.1 e); omega
                        unfold inI at h1 h2 ⊢
                        rw [List.any_append, h1, h2]; rfl⟩
                      have hnm : Aside0 (nd3 < maxLen) := ⟨by have := hmd.out; have := hlt.out; unfold maxLen; omega⟩
                      have hs5 : Aside0 (w5.heap.size ≤ wr.heap.size) := ⟨hmod.out.size⟩
                      have hz5 : Aside0 (db < w5.heap.size ∧ dbx < w5.heap.size ∧ dbx ≠ db) := ⟨by have := hgs5.out.z; omega, by have := hgs5.out.z; omega, hdd.out⟩
                      have hxc : Aside0 (wr.heap[dbx]? = some (.cells #[.map (some db)] 59 (0, 0))) := ⟨(hmod.out.block dbx hz5.out.2.1 hz5.out.2.2).trans hgs5.out.x⟩
                      have hL7 : Aside0 ((grp.length + 1) * 8 ≤ 140737488355328) := ⟨by have := hmd.out; omega⟩
                      have hwk : Aside0 (WF (k : Int)) := ⟨⟨by omega, by omega⟩⟩
                      clear y1 y2
                      go_wp2_with (first | ((with_reducible refine gate_builtin (b := .append) (xs := #[.tmp 60, .tmp 62]) rfl ?_); at_builtin; go_loud (refine Kd.R_append kI (w0 := wr) w5.heap.size rfl (.tmp 60) (.tmp 62) 42 3 (.int .i64 0) 8 rfl Tryd.underlying42 infI rfl (by decide) (by decide) (.slice A3 grp.length c3) grp (k : Int) [.int .i64 (k : Int)] (fun _ => True) (fun _ => False) rfl rfl ?aP (fun _ hk => hk.elim) ?aF ?aO ?aB ?aS ?aL ?_); (case aP => exact rfl); (case aF => exact fun _ _ => trivial); (case aO => exact hR3.out); (case aB => exact Below.refl _ _); (case aS => exact hs5.out); (case aL => exact hL7.out); intro v3 w3 hr3 hb3 hg3 hat3; obtain ⟨A4, c4, hv3⟩ := Kd.R_slice hr3; rw [List.length_append, List.length_singleton] at hv3; subst hv3; have hfb : ∀ j, j < w5.heap.size → w3.heap[j]? = wr.heap[j]? := (fun j hj => hg3.block j (Nat.lt_of_lt_of_le hj hs5.out) (fun e => by have := Kd.R_base hR3.out j e.symm; omega)); have hcx3 := hdx.out _ ((hfb dbx hz5.out.2.1).trans hxc.out); obtain ⟨W7, hst7, hM7, hg7⟩ := (hmd.out.1.of_block (hfb db hz5.out.1)).store hnm.out hwk.out hnew.out; have hM7 := Aside0.mk hM7; have hg7 := Aside0.mk hg7; have hr3 := Aside0.mk hr3; have hg3 := Aside0.mk hg3; have hfb := Aside0.mk hfb; clear hat3 hb3))
                      go_roundg (gk - 1)
                      case measure => omega
                      case rel => exact ⟨k + 1, grp ++ [(k : Int)], A4, c4, nd3 + 1, by simp, by go_num, by omega, by omega, hgq2, ⟨by rw [← List.append_assoc]; exact hM7.out, by have := hmd.out; simp; omega, by have := hmd.out; simp; omega, fun x hx => by
                        rcases List.mem_append.1 hx with hx | hx
                        · have := hmd.out.2.2.2 x hx; omega
                        · have : x = (k : Int) := by simpa using hx
                          omega⟩, ⟨(hmod.out.trans (Mod.of_own hg3.out) (fun j hj e => absurd (Kd.R_base hR3.out j e) (by omega))).trans (Mod.of_grown hg7.out) (fun j _ hj => hj)⟩, ⟨by rw [List.length_append, List.length_singleton]; exact Rn_step hr3.out (fun j hj => hg7.out.block j (Kd.R_lt hr3.out j hj) (fun e => by have h1 := Option.some.inj e; have h2 := Kd.R_base hr3.out j hj; have := hz5.out; omega)) (fun _ _ => trivial)⟩⟩
                    · rw [if_neg y2] at hlk2
                      have hgq2 : Aside0 (grp ++ gr (rsL us) i (us.length - (k + 1)) (k + 1) = gr (rsL us) i us.length 0) := ⟨by
                        rw [← hgq.out, hgk.out, hbo.out, if_neg (by simp [y2])]⟩
                      clear y1 y2
                      go_wp2
                      go_roundg (gk - 1)
                      case measure => omega
                      case rel => exact ⟨k + 1, grp, A3, c3, nd3, rfl, by go_num, by omega, by omega, hgq2, ⟨hmd.out.1, hmd.out.2.1, by have := hmd.out; omega, fun x hx => by have := hmd.out.2.2.2 x hx; omega⟩, hmod, hR3⟩
                  · rw [if_neg y1] at hlk1
                    have hgq2 : Aside0 (grp ++ gr (rsL us) i (us.length - (k + 1)) (k + 1) = gr (rsL us) i us.length 0) := ⟨by
                      rw [← hgq.out, hgk.out, hbo.out, if_neg (by simp [y1])]⟩
                    clear y1 hlk2
                    go_wp2
                    go_roundg (gk - 1)
                    case measure => omega
                    case rel => exact ⟨k + 1, grp, A3, c3, nd3, rfl, by go_num, by omega, by omega, hgq2, ⟨hmd.out.1, hmd.out.2.1, by have := hmd.out; omega, fun x hx => by have := hmd.out.2.2.2 x hx; omega⟩, hmod, hR3⟩
                · have q1 : decide ((k : Int) < (us.length : Int)) = false := decide_eq_false (by omega)
                  have hk9 : k = us.length := by omega
                  subst hk9
                  have hge : grp = gr (rsL us) i (rsL us).length 0 := by rw [hrl.out, ← hgq.out, Nat.sub_self]; simp [gr]
                  rw [← hge] at hgn
                  have hgn := Aside0.mk hgn.out
                  have hRo : Aside0 (Kd.R kII 42 wr B2 (fun _ => True) (.slice A out.length c) out) := ⟨Kd.R_mono (Kd.R_step (Kd.R_bound hgs5.out.r) (fun j hj hlt => hmod.out.block j hlt (fun e => by have := hj.2.1; have := hgs5.out.z; omega))) (fun _ _ => trivial)⟩
                  have hBs : Aside0 (B2 ≤ w5.heap.size ∧ w5.heap.size ≤ wr.heap.size) := ⟨hgs5.out.z.2.2, hmod.out.size⟩
                  have hL7 : Aside0 ((out.length + 1) * 24 ≤ 140737488355328) := ⟨by have := hol.out; omega⟩
                  clear hge
                  go_wp2_with (first | ((with_reducible refine gate_builtin (b := .append) (xs := #[.tmp 67, .tmp 69]) rfl ?_); at_builtin; go_loud (refine Kd.R_append kII (w0 := wr) B2 rfl (.tmp 67) (.tmp 69) 40 42 (.slice none 0 0) 24 rfl Tryd.underlying40 infSI rfl (by decide) (by decide) (.slice A out.length c) out grp [.slice A3 grp.length c3] (fun _ => True) (fun j => w5.heap.size ≤ j) rfl rfl ?aP ?aK ?aF ?aO ?aB ?aS ?aL ?_); (case aP => exact Kd.M_row (Rn_ok (ok' := fun j => w5.heap.size ≤ j) (Kd.R_lower hR3.out hBs.out.1) (fun j hj => Kd.R_base hR3.out j hj))); (case aK => exact fun j hj => ⟨trivial, fun e => absurd (Kd.R_lt hgs5.out.r j e.symm) (by omega)⟩); (case aF => exact fun _ _ => trivial); (case aO => exact hRo.out); (case aB => exact Below.refl _ _); (case aS => exact Nat.le_trans hBs.out.1 hBs.out.2); (case aL => exact hL7.out); intro v3 w3 hr3 hb3 hg3 hat3; obtain ⟨A4, c4, hv3⟩ := Kd.R_slice hr3; rw [List.length_append, List.length_singleton] at hv3; subst hv3; have hr3 := Aside0.mk hr3; have hb3 := Aside0.mk hb3; clear hat3 hg3))
                  go_roundg F
                  case measure => omega
                  case rel => exact ⟨done ++ grp, out ++ [grp], A4, c4, nd3, by simp, hgn, ⟨⟨hBk.out.trans (hb3.out.mono (by have := hgs5.out.z; omega)), hmd.out.1.of_block (hb3.out.block db (by have := hgs5.out.z; omega)), by have := hmd.out; simp; omega, (hb3.out.block dbx (by have := hgs5.out.z; omega)).trans ((hmod.out.block dbx (by have := hgs5.out.z; omega) hdd.out).trans hgs5.out.x), by rw [List.length_append, List.length_singleton]; exact hr3.out, ⟨hgs5.out.z.1, hgs5.out.z.2.1, by have := hb3.out.size; have := hBs.out; omega⟩⟩⟩⟩
            · rw [if_neg hr] at hnx2
              have hr2 : rdyR (rsL us) done i = false := by simpa using hr
              rw [hr2] at CR
              have hnx2 := Aside0.mk hnx2
              have hi7 : i < 2000 := by rw [hrl.out] at hil; omega
              clear hr hr2 hil hnx
              go_wp2_with (first | (go_at_call 30; go_loud (with_reducible refine CR.mono ?_); rintro e w5 ⟨rfl, hb5⟩; have hgs5 := Aside0.mk (hgs.out.below hb5); clear hb5 CR))
              go_roundg F2
              case measure => omega
              case rel => exact ⟨i + 1, by go_num, hnx2, hgs5⟩
        · have q1 : decide ((done.length : Int) < (us.length : Int)) = false := decide_eq_false (by omega)
          have hRo : out = R := by
            have := hgr.out
            simp only [grps] at this
            rw [if_neg (by rw [hrl.out]; exact hlt)] at this
            exact Option.some.inj this
          subst hRo
          clear hgr
          go_wp2
          go_ret
          obtain ⟨A7, c7, he7, hl7, hC7⟩ := Kd.R_reads hgs.out.r
          injection he7 with h1 h2 h3
          subst h1 h3
          exact ⟨A, c, rfl, hl7, hC7, hBw2.out _ hgs.out.b⟩
end Go.Proofs.YtlgpoigbadajnaaDoor.DepA
