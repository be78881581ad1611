/- deps.Groups$1. No condition beyond those that each states. -/
import Derived.Test.YtlgpoigbadajnaaDoorDepF
import Derived.Maps.RangeWalk
namespace Go.Proofs.YtlgpoigbadajnaaDoor.DepA
open Go.Maps (Keyed)
open Go.RowKit Go.Proofs.YtlgpoigbadajnaaDoorW.PrintWords Go.Proofs.YtlgpoigbadajnaaDoorW.PrintLast Go.Proofs.YtlgpoigbadajnaaDoorW.PrintMore Go.Proofs.YtlgpoigbadajnaaDoor.PDepA
set_option linter.unusedVariables false
set_option linter.unusedSimpArgs false
def RgD (W : World) (b r n : Nat) (rr : List Int) (left : Lit → Bool) (cnt : Nat) : Prop :=
  ∃ D : DataW Value, W.ranges Tryd.prog 3 rawR b r n D left cnt ∧ ∀ l z, D.atKey l z = match FD rr l with | some v => .held v | none => z
section
variable {W W1 : World} {b r n cnt : Nat} {rr : List Int} {left : Lit → Bool}
theorem RgD.kept {row : Option Nat} (h : RgD W b r n rr left cnt) (hg : W.grownBy W1 row) (hb : some b ≠ row) (hr : some r ≠ row) : RgD W1 b r n rr left cnt := by
  obtain ⟨D, h, hD⟩ := h
  exact ⟨D, h.kept hg hb hr, hD⟩
theorem rd_range {ops : Array Oper} {rest : List Oper} {o : Oper} {a : Act} {Q : Exit → Act → World → Prop} (h : MapD W b n rr) (hg : o.guard = none) (m : Operand) (hop : o.op = Op.range 59 m) (hm : a.eval m = .map (some b))
    (hK : ∀ w' left cnt, RgD w' b W.heap.size n rr left cnt → (∀ l, left l = (FD rr l).isSome) → W.grownBy w' none → w'.heap.size = W.heap.size + 1 → wpList Tryd.prog ops Q rest (a.put o.dst (.pointer (some ⟨W.heap.size, 0, none⟩))) w') :
    wpList Tryd.prog ops Q (o :: rest) a W := by
  obtain ⟨D, h, ht, hD, hsz⟩ := h
  exact wpList_range_own W hg m 59 hop 3 3 keyedI Tryd.underlying59 rawR b n D hm h (fun w' hr hg2 hs => hK w' _ _ ⟨D, hr, hD⟩ (fun l => has_of hD l) hg2 hs)
set_option maxRecDepth 100000 in
theorem rd_next {ops : Array Oper} {rest : List Oper} {o : Oper} {a : Act} {Q : Exit → Act → World → Prop} (h : RgD W b r n rr left cnt) (hg : o.guard = none) (it : Operand) (hop : o.op = Op.next it false) (hit : a.eval it = .pointer (some ⟨r, 0, none⟩))
    (hDone : Aside0 (∀ l, left l = false) → wpList Tryd.prog ops Q rest (a.put o.dst (.tuple #[.bool false])) W)
    (hMore : ∀ (x : Int) (w' : World) (cnt' : Nat), Aside0 (WF x) → Aside0 (left (.int .i64 x) = true) → Aside0 (inI rr x = true) → Aside0 (RgD w' b r n rr (fun z => left z && !z.sameKey (.int .i64 x)) cnt') → Aside0 (cnt' < cnt) → Aside0 (W.grownBy w' (some r)) →
      (Instr.entry (.pointer (some ⟨r, 0, none⟩))).run Tryd.prog w' = .ok (.tuple #[.int .i64 x, .int .i64 1]) w' → wpList Tryd.prog ops Q rest (a.put o.dst (.tuple #[.bool true, .int .i64 x, .int .i64 1])) w') :
    wpList Tryd.prog ops Q (o :: rest) a W := by
  obtain ⟨D, h, hD⟩ := h
  refine wpList_next_ranges W hg it hop 3 keyedI rawR (Value.int .i64) (fun v : Value => v) (fun key kl hkey => by obtain ⟨x, rfl, _⟩ := Maps.keyOf_int_inv Tryd.underlying3 hkey; exact ⟨x, rfl⟩) (fun v y _ => ⟨v, rfl⟩) b r n D left cnt hit h (fun _ hl => hDone ⟨hl⟩) (fun x v kl y w' cnt' hkey hlk hv hat hrg hlt hgr hsz hen => ?_)
  obtain ⟨x', ex, rfl, hwx⟩ := Maps.keyOf_int_inv Tryd.underlying3 hkey
  cases ex
  have hy : y = (.held v, []) := (Option.some.inj hv).symm
  subst hy
  have hF : FD rr (.int .i64 x) = some v := by
    have h1 := (hD (.int .i64 x) .nil).symm.trans (hat .nil)
    cases hf : FD rr (.int .i64 x) with
    | none => rw [hf] at h1; cases h1
    | some u => rw [hf] at h1; injection h1 with h1; rw [h1]
  have hin : inI rr x = true ∧ v = .int .i64 1 := by
    simp only [FD] at hF
    split at hF
    · rename_i hh; exact ⟨hh, (Option.some.inj hF).symm⟩
    · cases hF
  obtain ⟨hin, rfl⟩ := hin
  have hWF : WF x := by
    simp [Lit.wf, IntKind.min, IntKind.max, IntKind.signed, IntKind.bits] at hwx
    unfold WF
    omega
  exact hMore x w' cnt' ⟨hWF⟩ ⟨hlk⟩ ⟨hin⟩ ⟨D, hrg, hD⟩ ⟨hlt⟩ ⟨hgr⟩ hen
end
/-! ### the maps of what each needs -/
abbrev kM : Kd Nat := Kd.scalar (fun b : Nat => Value.map (some b)) (fun _ => rfl)
abbrev NM := List (Nat × Nat × List Int)
theorem at_map {w : World} {A : Option Addr} {n : Nat} {xs : List Nat} (h : Kd.C kM w A n xs) (i : Nat) (hi : i < xs.length) (hn : i < n) : ∃ ad, A = some ad ∧ w.cell? (ad.add i) = some (.map (some xs[i])) := by
  obtain ⟨ad, c, e, _, hK, hc⟩ := Kd.C_get h (0 : Nat) (i : Int) (by omega) (by omega)
  have hK' : c = [.map (some (xs.getD i 0))] := hK
  subst hK'
  refine ⟨ad, e, ?_⟩
  have := hc 0 _ rfl
  have hsz : kM.sz = 1 := rfl
  rw [hsz, Int.toNat_natCast, Nat.mul_one, Nat.add_zero] at this
  rw [this]
  simp [hi]
structure NE (W : World) (nbx : Nat) (ms : NM) : Prop where
  row : ∃ A c, W.heap[nbx]? = some (.cells #[.slice A ms.length c] 58 (0, 0)) ∧ Kd.C kM W A ms.length (ms.map (·.1))
  maps : ∀ m ∈ ms, MapD W m.1 m.2.1 m.2.2
theorem NE.below {W W1 : World} {nbx : Nat} {ms : NM} (h : NE W nbx ms) (hb : Below W.heap.size W W1) : NE W1 nbx ms := by
  obtain ⟨⟨A, c, h1, h2⟩, h3⟩ := h
  exact ⟨⟨A, c, blk_below h1 hb, Kd.C_below h2 hb⟩, fun m hm => (h3 m hm).of_block (hb.block _ (h3 m hm).lt)⟩
/-- Is all that it needs done, or needs it? -/
def okK (ms : NM) (done : List Int) (i k : Int) : Bool := inI done k || (match ms[k.toNat]? with | some m => inI m.2.2 i | none => true)
def rdy (ms : NM) (done : List Int) (i : Nat) : Bool := match ms[i]? with
  | some m => m.2.2.all (okK ms done (i : Int)) && !inI done (i : Int)
  | none => false
def okM (ms : NM) : Bool := decide (ms.length ≤ 1000) && ms.all fun m => m.2.2.all fun k => decide (0 ≤ k) && decide (k < (ms.length : Int))
theorem inI_iff {h : List Int} {n : Int} : inI h n = true ↔ n ∈ h := by simp [inI]
theorem inI_all {h : List Int} {p : Int → Bool} (ha : h.all p = true) {n : Int} (hn : inI h n = true) : p n = true := List.all_eq_true.1 ha n (inI_iff.1 hn)
/-- What the round finds at a key. -/
theorem ready_at {W w4 : World} {nbx db nd : Nat} {ms : NM} {done : List Int} {i : Nat} {ad : Addr} {c : Nat} (hN : NE W nbx ms) (hD : MapD W db nd done) (hB : Below W.heap.size W w4) (hrow : W.heap[nbx]? = some (.cells #[.slice (some ad) ms.length c] 58 (0, 0))) (hC : Kd.C kM W (some ad) ms.length (ms.map (·.1))) {x : Int} (h0 : 0 ≤ x) (h1 : x < (ms.length : Int)) (hi : i < 1000) (hl : ms.length ≤ 1000) :
    ∃ bx, w4.cell? (ad.add x.toNat) = some (.map (some bx)) ∧ w4.cell? ⟨nbx, 0, none⟩ = some (.slice (some ad) ms.length c) ∧
      ((okK ms done (i : Int) x = true ∧ (Instr.lookup 59 (.map (some db)) (.int .i64 x) false).run Tryd.prog w4 = .ok (.int .i64 1) w4) ∨
       (okK ms done (i : Int) x = true ∧ (Instr.lookup 59 (.map (some db)) (.int .i64 x) false).run Tryd.prog w4 = .ok (.int .i64 0) w4 ∧ (Instr.lookup 59 (.map (some bx)) (.int .i64 (i : Int)) false).run Tryd.prog w4 = .ok (.int .i64 1) w4) ∨
       (okK ms done (i : Int) x = false ∧ (Instr.lookup 59 (.map (some db)) (.int .i64 x) false).run Tryd.prog w4 = .ok (.int .i64 0) w4 ∧ (Instr.lookup 59 (.map (some bx)) (.int .i64 (i : Int)) false).run Tryd.prog w4 = .ok (.int .i64 0) w4)) := by
  have hxl : x.toNat < ms.length := by omega
  obtain ⟨ad', e, hv⟩ := at_map (Kd.C_below hC hB) x.toNat (by simpa using hxl) hxl
  obtain rfl := Option.some.inj e
  rw [List.getElem_map] at hv
  have hm := hN.maps ms[x.toNat] (List.getElem_mem hxl)
  have hok : okK ms done (i : Int) x = (inI done x || inI ms[x.toNat].2.2 (i : Int)) := by unfold okK; rw [List.getElem?_eq_getElem hxl]
  rw [hok]
  generalize ms[x.toNat] = m at *
  obtain ⟨bx, nx, rx⟩ := m
  have h4 := (hm.of_block (hB.block _ hm.lt)).look (show WF (i : Int) from ⟨by omega, by omega⟩)
  have h5 := (hD.of_block (hB.block _ hD.lt)).look (show WF x from ⟨by omega, by omega⟩)
  rw [memN_in] at h4 h5
  refine ⟨bx, hv, (blk_cell (blk_below hrow hB) 0).trans rfl, ?_⟩
  cases e1 : inI done x with
  | true => rw [e1] at h5; exact .inl ⟨rfl, h5⟩
  | false =>
    rw [e1] at h5
    cases e2 : inI rx (i : Int) with
    | true => rw [e2] at h4; exact .inr (.inl ⟨rfl, h5, h4⟩)
    | false => rw [e2] at h4; exact .inr (.inr ⟨rfl, h5, h4⟩)
theorem same_int {p q : Int} : (Lit.int .i64 p).sameKey (.int .i64 q) = decide (p = q) := by
  by_cases h : p = q
  · subst h
    rw [WideAt.sameKey_self (keyI_is p)]
    simp
  · rw [Maps.sameKey_ne (fun e => h (by injection e))]
    simp [h]
theorem all_next {mr : List Int} {P : Int → Bool} {lf : Lit → Bool} (hA : ∀ x, inI mr x = true → lf (.int .i64 x) = false → P x = true) {x : Int} (hx : P x = true) : ∀ y, inI mr y = true → (lf (.int .i64 y) && !(Lit.int .i64 y).sameKey (.int .i64 x)) = false → P y = true := by
  intro y hy hl
  by_cases h : y = x
  · subst h; exact hx
  · refine hA y hy ?_
    simpa [same_int, h] using hl
set_option maxHeartbeats 16000000 in
set_option maxRecDepth 100000 in
theorem ready_calls {W : World} {nbx dbx db nd : Nat} {ms : NM} {done : List Int} (hN : NE W nbx ms) (hok : okM ms = true) (hD : MapD W db nd done) (hd : W.heap[dbx]? = some (.cells #[.map (some db)] 59 (0, 0))) (i : Nat) (hi : i < ms.length) :
    Calls Tryd.prog 30 #[.int .i64 (i : Int), .pointer (some ⟨nbx, 0, none⟩), .pointer (some ⟨dbx, 0, none⟩)] W fun e w' => e = .returned (.bool (rdy ms done i)) ∧ Below W.heap.size W w' := by
  have hN9 := Aside0.mk hN
  have hD9 := Aside0.mk hD
  have hd9 := Aside0.mk hd
  have hmi := hN.maps ms[i] (List.getElem_mem hi)
  have hrd : rdy ms done i = (ms[i].2.2.all (okK ms done (i : Int)) && !inI done (i : Int)) := by unfold rdy; rw [List.getElem?_eq_getElem hi]
  simp only [okM, Bool.and_eq_true, decide_eq_true_eq] at hok
  obtain ⟨hlm, hok⟩ := hok
  have hmk := List.all_eq_true.1 hok _ (List.getElem_mem hi)
  obtain ⟨A, c, hrow, hC⟩ := hN.row
  obtain ⟨ad, rfl, hv⟩ := at_map hC i (by simpa using hi) hi
  have hc0 := (blk_cell hrow 0).trans rfl
  have hdc := (blk_cell hd 0).trans rfl
  rw [List.getElem_map] at hv
  have hrow9 := Aside0.mk hrow
  have hC9 := Aside0.mk hC
  generalize hme : ms[i] = m at *
  obtain ⟨mb, mn, mr⟩ := m
  simp only at hv hmi hrd hmk
  have hmi := Aside0.mk hmi
  have hmk := Aside0.mk hmk
  have hrd := Aside0.mk hrd
  have p0 : (0 : Int) ≤ (i : Int) := by omega
  have q0 : (i : Int) < (ms.length : Int) := by omega
  clear hN hD hd hrow hC hok hme
  go_enter Tryd.func30, Tryd.ntmps30
  go_wp2_with (first | (at_range; refine rd_range hmi.out rfl _ rfl rfl ?_; intro w3 left cnt hrg hleft hgr hs3; have hrg := Aside0.mk hrg; have hleft := Aside0.mk hleft; have hgr := Aside0.mk hgr; have hs3 := Aside0.mk hs3))
  go_frame
  have hb3 : Aside0 (Below W.heap.size W w3) := ⟨⟨hgr.out.os, hgr.out.tape, hgr.out.output, hgr.out.size, fun j hj => hgr.out.block j hj (by simp)⟩⟩
  have hall : Aside0 (∀ x, inI mr x = true → left (.int .i64 x) = false → okK ms done (i : Int) x = true) := ⟨fun x hx hl => by rw [hleft.out] at hl; simp [FD, hx] at hl⟩
  clear hv hc0 hdc
  go_loopg [5] (cnt + 1) (fun kq v5 w' => ∃ (lf : Lit → Bool) (ct : Nat), kq = ct + 1 ∧ Aside0 (RgD w' mb W.heap.size mn mr lf ct) ∧ Aside0 (∀ x, inI mr x = true → lf (.int .i64 x) = false → okK ms done (i : Int) x = true) ∧ Aside0 (Below W.heap.size W w'))
  case atStart => exact ⟨left, cnt, rfl, hrg, hall, hb3⟩
  case round =>
    obtain ⟨lf, ct, hk, hR, hA, hB⟩ := hrel
    have hdc := (blk_cell (blk_below hd9.out hB.out) 0).trans rfl
    have hli := (hD9.out.of_block (hB.out.block _ hD9.out.lt)).look (show WF (i : Int) from ⟨by omega, by omega⟩)
    rw [memN_in] at hli
    have hq : Aside0 (W.heap.size ≤ W.heap.size) := ⟨Nat.le_refl _⟩
    go_wp2_with (first | (at_next; refine rd_next hR.out rfl _ rfl rfl (fun hdn => ?_) (fun x w4 ct' hwx hlx hin hrg4 hct hg4 hen => ?_); rotate_left; have hB4 : Aside0 (Below W.heap.size W w4) := ⟨hB.out.trans ((Mod.of_grown hg4.out).below hB.out.size (fun j _ hj => Nat.le_of_eq hj.symm))⟩; have hx := inI_all hmk.out hin.out; simp only [Bool.and_eq_true, decide_eq_true_eq] at hx; obtain ⟨hx0, hx1⟩ := hx; have hdc4 := (blk_cell (blk_below hd9.out hB4.out) 0).trans rfl; obtain ⟨bx, hv4, hc4, hcase⟩ := ready_at hN9.out hD9.out hB4.out hrow9.out hC9.out hx0 hx1 (i := i) (by omega) hlm; clear hdc hli; rcases hcase with ⟨hok4, hl4⟩ | ⟨hok4, hl4, hl5⟩ | ⟨hok4, hl4, hl5⟩; (have hok4 := Aside0.mk hok4); rotate_left; (have hok4 := Aside0.mk hok4); rotate_left; (have hok4 := Aside0.mk hok4); rotate_left))
    · go_ret
      exact ⟨rfl, hB.out⟩
    · have hall : mr.all (okK ms done (i : Int)) = true := List.all_eq_true.2 (fun x hx => hA.out x (inI_iff.2 hx) (hdn.out _))
      go_ret
      exact ⟨by rw [hall]; rfl, hB.out⟩
    · go_roundg (ct' + 1)
      case measure => have := hct.out; omega
      case rel => exact ⟨_, ct', rfl, hrg4, ⟨all_next hA.out hok4.out⟩, hB4⟩
    · go_roundg (ct' + 1)
      case measure => have := hct.out; omega
      case rel => exact ⟨_, ct', rfl, hrg4, ⟨all_next hA.out hok4.out⟩, hB4⟩
    · have hno : rdy ms done i = false := by
        rw [hrd.out]
        have : mr.all (okK ms done (i : Int)) = false := by
          cases he : mr.all (okK ms done (i : Int)) with
          | false => rfl
          | true => have := inI_all he hin.out; rw [hok4.out] at this; cases this
        rw [this]
        rfl
      go_ret
      exact ⟨by rw [hno]; rfl, hB4.out⟩
end Go.Proofs.YtlgpoigbadajnaaDoor.DepA
