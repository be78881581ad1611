/- free.Bound. No condition beyond those that each states. -/
import Derived.Test.YtmoeekidmkhkoaaDoorFreeC
namespace Go.Proofs.YtmoeekidmkhkoaaDoor.FreeA
open Go.RowKit Go.Proofs.YtmoeekidmkhkoaaDoorW.PrintWords Go.Proofs.YtmoeekidmkhkoaaDoorW.PrintLast Go.Proofs.YtmoeekidmkhkoaaDoorW.PrintMore Go.Proofs.YtmoeekidmkhkoaaDoor.PFreeA
set_option linter.unusedVariables false
set_option linter.unusedSimpArgs false
def SB (W w' : World) (base hb ob mb : Nat) (v0 : Value) (out : List ByteArray) (ch : Nat) : Prop :=
  ∃ A c nh, CS w' base hb ob mb (.slice A out.length c) nh out ∧ Mod W w' (fun j => FB hb v0 j ∨ j = ob) ∧ (∀ j, (Value.slice A out.length c).ownBlock = some j → v0.ownBlock = some j ∨ W.heap.size ≤ j) ∧ nh ≤ ch
theorem SB.below {W w' : World} {base hb ob mb ch nh : Nat} {v0 : Value} {out o0 : List ByteArray} (h : SB W w' base hb ob mb v0 out ch) (h0 : CS W base hb ob mb v0 nh o0) (hob : base ≤ ob) (hbs : base ≤ W.heap.size) : Below base W w' := by
  obtain ⟨A, c, n2, hc, hm, _⟩ := h
  refine hm.below hbs (fun j _ hj => ?_)
  rcases hj with hj | rfl
  · exact h0.bs.fge hj
  · exact hob
theorem SB.alloc {W w' w2 : World} {base hb ob mb ch : Nat} {v0 : Value} {out : List ByteArray} (h : SB W w' base hb ob mb v0 out ch) (hb2 : Below w'.heap.size w' w2) : SB W w2 base hb ob mb v0 out ch := by
  obtain ⟨A, c, n2, hc, hm, ho, hn⟩ := h
  exact ⟨A, c, n2, hc.below hb2, hm.trans (Mod.of_below hb2 (fun j => FB hb v0 j ∨ j = ob)) (fun _ _ hj => hj), ho, hn⟩
theorem SB.blk {W w' : World} {base hb ob mb ch b : Nat} {v0 : Value} {out : List ByteArray} {o : Obj} (h : SB W w' base hb ob mb v0 out ch) (hb' : W.heap[b]? = some o) (hn : ¬ (FB hb v0 b ∨ b = ob)) : w'.heap[b]? = some o := by
  obtain ⟨A, c, n2, hc, hm, _⟩ := h
  exact (hm.block b (Array.getElem?_eq_some_iff.1 hb').1 hn).trans hb'
theorem SB.comp {W w1 w2 : World} {base hb ob mb ch : Nat} {v0 v1 : Value} {out : List ByteArray} (hm : Mod W w1 (fun j => FB hb v0 j ∨ j = ob)) (ho : ∀ j, v1.ownBlock = some j → v0.ownBlock = some j ∨ W.heap.size ≤ j) (h : SB w1 w2 base hb ob mb v1 out ch) : SB W w2 base hb ob mb v0 out ch := by
  obtain ⟨A, c, n2, hc, hm2, ho2, hn⟩ := h
  refine ⟨A, c, n2, hc, hm.trans hm2 (fun j hj hfp => ?_), fun j hj => ?_, hn⟩
  · rcases hfp with (rfl | hv) | rfl
    · exact .inl (.inl rfl)
    · rcases ho j hv with h | h
      · exact .inl (.inr h)
      · omega
    · exact .inr rfl
  · rcases ho2 j hj with h | h
    · exact ho j h
    · exact .inr (Nat.le_trans hm.size h)
theorem putL_drop {l o : List ByteArray} {i : Nat} (h : i < l.length) : putL (l.drop i) o = putL (l.drop (i + 1)) (add1 o l[i]) := by rw [List.drop_eq_getElem_cons h]; rfl
set_option maxHeartbeats 8000000 in
set_option maxRecDepth 100000 in
theorem put_calls {w0 W : World} {hb ob mb nh : Nat} {A0 : Option Addr} {c0 : Nat} {out : List ByteArray} (h : CS W w0.heap.size hb ob mb (.slice A0 out.length c0) nh out) (hob : w0.heap.size ≤ ob) (hB : Below w0.heap.size w0 W) (l : List ByteArray) {A : Option Addr} {c : Nat} (hC : Kd.C Kd.string w0 A l.length l) (hNS : nsz l = true) (hn : nh + l.length ≤ 1000000000000) (ho : out.length + l.length ≤ 1000000000000) :
    Calls Tryd.prog 56 #[.slice A l.length c, .pointer (some ⟨mb, 0, none⟩), .pointer (some ⟨ob, 0, none⟩)] W fun e W' => e = .returned (.tuple #[]) ∧ SB W W' w0.heap.size hb ob mb (.slice A0 out.length c0) (putL l out) (nh + l.length) := by
  have h9 := Aside0.mk h
  have hB9 := Aside0.mk hB
  have hC9 := Aside0.mk hC
  have hlen := hC.2.1
  have hNS := Aside0.mk (nsz_all hNS)
  have hob := Aside0.mk hob
  clear h hB hC
  go_enter Tryd.func56, Tryd.ntmps56
  go_wp2
  go_loopg [8] (l.length + 1) (fun kq v8 w' => ∃ (i : Nat) (o : List ByteArray), v8 = .int .i64 (i : Int) ∧ i + kq = l.length + 1 ∧ 1 ≤ kq ∧ Aside0 (putL (l.drop i) o = putL l out) ∧ Aside0 (o.length ≤ out.length + i) ∧ Aside0 (SB W w' w0.heap.size hb ob mb (.slice A0 out.length c0) o (nh + i)))
  case atStart => exact ⟨0, out, rfl, by omega, by omega, ⟨rfl⟩, ⟨Nat.le_refl _⟩, ⟨A0, c0, nh, h9.out, Mod.refl _ _, fun j hj => .inl hj, Nat.le_refl _⟩⟩
  case round =>
    obtain ⟨i, o, rfl, hi, hk, hs, hol, hst⟩ := hrel
    have hBw := hB9.out.trans (SB.below hst.out h9.out hob.out hB9.out.size)
    by_cases hlt : i < l.length
    · obtain ⟨ad, rfl, hv⟩ := at_str (Kd.C_below hC9.out hBw) i hlt hlt
      have p0 : (0 : Int) ≤ (i : Int) := by omega
      have q0 : (i : Int) < (l.length : Int) := by omega
      have q1 : decide ((i : Int) < (l.length : Int)) = true := decide_eq_true q0
      have hns := hNS.out l[i] (List.getElem_mem hlt)
      have hs' : Aside0 (putL (l.drop (i + 1)) (add1 o l[i]) = putL l out) := ⟨by rw [← hs.out, putL_drop hlt]⟩
      have hal := add1_len o l[i]
      have hol1 := hol.out
      obtain ⟨A1, c1, n1, hc1, hm1, ho1, hn1⟩ := hst.out
      have hmc := (blk_cell hc1.mbk 0).trans rfl
      have hlk := hc1.hm.look hns
      generalize l[i] = s at *
      by_cases y1 : isIn o s = true
      · have q2 : (memI o s == 0) = false := by unfold memI; rw [y1]; rfl
        have e1 : add1 o s = o := by unfold add1; rw [if_pos y1]
        rw [e1] at hs'
        have hst2 : Aside0 (SB W wr w0.heap.size hb ob mb (.slice A0 out.length c0) o (nh + (i + 1))) := ⟨⟨A1, c1, n1, hc1, hm1, ho1, by omega⟩⟩
        have hol2 : Aside0 (o.length ≤ out.length + (i + 1)) := ⟨by omega⟩
        clear hBw hns hal hol1 hc1 hm1 ho1 hn1 e1
        go_wp2
        go_roundg (gk - 1)
        case measure => omega
        case rel => exact ⟨i + 1, o, by go_num, by omega, by omega, hs', hol2, hst2⟩
      · have q2 : (memI o s == 0) = true := by unfold memI; rw [if_neg y1]; rfl
        have e1 : add1 o s = o ++ [s] := by unfold add1; rw [if_neg y1]
        rw [e1] at hs' hal
        obtain ⟨W7, hst7, hM7, hg7⟩ := hc1.hm.store (by unfold maxLen; omega) hns 1
        rw [memI_upd] at hM7
        obtain ⟨p1, p2, p3, p4⟩ := hc1.putM hM7 hg7
        have hmc7 := (blk_cell p4 0).trans rfl
        have hoc7 := (blk_cell p3 0).trans rfl
        have hS7 : w0.heap.size ≤ W7.heap.size := Nat.le_trans hBw.size hg7.size
        have hlt7 : ∀ k, W7.heap.size ≤ k → k ≠ hb ∧ k ≠ ob ∧ k ≠ mb := fun k hk => by have := hc1.lt; have := hg7.size; omega
        have hL3 : (o.length + 1) * 16 ≤ 140737488355328 := by omega
        have hm7 : Mod W W7 (fun j => FB hb (.slice A0 out.length c0) j ∨ j = ob) := hm1.trans (Mod.of_grown hg7) (fun j _ hj => .inl (.inl hj))
        have p1 := Aside0.mk p1
        have p2 := Aside0.mk p2
        have p3 := Aside0.mk p3
        have p4 := Aside0.mk p4
        have hS7 := Aside0.mk hS7
        have hlt7 := Aside0.mk hlt7
        have hL3 := Aside0.mk hL3
        have hm7 := Aside0.mk hm7
        have ho1 := Aside0.mk ho1
        have hsz := Aside0.mk (Nat.le_trans hm1.size hg7.size)
        have hog := Aside0.mk (And.intro hc1.ge (And.intro hc1.om (And.intro hc1.one (And.intro hn1 (And.intro hal hol1)))))
        clear hBw hns hal hol1 hc1 hm1 hn1 e1 hM7 hg7
        go_wp2_with (first | ((with_reducible refine gate_builtin (b := .append) (xs := #[.tmp 18, .tmp 20]) rfl ?_); at_builtin; go_loud (refine Kd.R_append Kd.string (w0 := W7) w0.heap.size rfl (.tmp 18) (.tmp 20) 22 9 (.string ⟨#[]⟩) 16 rfl Tryd.underlying22 inf9 rfl (by decide) (by decide) (.slice A1 o.length c1) o s [.string s] (fun j => j ≠ hb ∧ j ≠ ob ∧ j ≠ mb) (fun _ => False) rfl rfl ?aP (fun _ hk => hk.elim) ?aF ?aO ?aB ?aS ?aL ?_); (case aP => exact rfl); (case aF => exact fun k hk => hlt7.out k hk); (case aO => exact p2.out); (case aB => exact Below.refl _ _); (case aS => exact hS7.out); (case aL => exact hL3.out); intro v3 w3 hr3 hb3 hg3 hat3; obtain ⟨A3, c3, hv3⟩ := Kd.R_slice hr3; rw [List.length_append, List.length_singleton] at hv3; subst hv3; have hbk3 := (hg3.block ob (Array.getElem?_eq_some_iff.1 p3.out).1 (fun e => (p2.out.1 ob e.symm).2.1 rfl)).trans p3.out; have hfz3 := blk_frozen hbk3 0; have hcz3 := (blk_cell hbk3 0).trans rfl; have hr3 := Aside0.mk hr3; have hg3 := Aside0.mk hg3; have hat3 := Aside0.mk hat3; clear hb3))
        have hst2 : Aside0 (SB W (w3.setCell ⟨ob, 0, none⟩ (.slice A3 (o.length + 1) c3)) w0.heap.size hb ob mb (.slice A0 out.length c0) (o ++ [s]) (nh + (i + 1))) := ⟨by
          have e : ∀ j, j ≠ ob → (w3.setCell ⟨ob, 0, none⟩ (.slice A3 (o.length + 1) c3)).heap[j]? = w3.heap[j]? := fun j hj => Below.heap_setCell w3 ⟨ob, 0, none⟩ _ j hj
          have hhb : w3.heap[hb]? = W7.heap[hb]? := hg3.out.block hb p1.out.lt (fun e => (p2.out.1 hb e.symm).1 rfl)
          have hmb : w3.heap[mb]? = W7.heap[mb]? := hg3.out.block mb (Array.getElem?_eq_some_iff.1 p4.out).1 (fun e => (p2.out.1 mb e.symm).2.2 rfl)
          refine ⟨A3, c3, n1 + 1, ⟨p1.out.of_block ((e hb hog.out.2.2.1.1).trans hhb), (by rw [List.length_append, List.length_singleton]; exact Rs_step hr3.out (fun j hj => e j (hr3.out.1 j hj).2.1) (fun j hj => hr3.out.1 j hj)), ?_, ((e mb hog.out.2.1.symm).trans hmb).trans p4.out, hog.out.1, hog.out.2.1⟩, ?_, ?_, by have := hog.out; omega⟩
          · rw [List.length_append, List.length_singleton]
            exact blk_put hbk3 0 _ rfl
          · refine (hm7.out.trans (Mod.of_own hg3.out) (fun j hj he => ?_)).trans (Mod.of_set _ _ _) (fun j _ hj => .inr hj)
            rcases ho1.out j he with h | h
            · exact .inl (.inr h)
            · omega
          · intro j hj
            rw [List.length_append, List.length_singleton] at hj
            rcases hat3.out with hh | ⟨b3, hh, hle⟩
            · exact ho1.out j (hh ▸ hj)
            · rw [hh] at hj
              injection hj with hj
              exact .inr (hj ▸ Nat.le_trans hsz.out hle)⟩
        have hol2 : Aside0 ((o ++ [s]).length ≤ out.length + (i + 1)) := ⟨by have := hog.out; rw [List.length_append, List.length_singleton]; omega⟩
        clear hbk3 hfz3 hcz3 hr3 hg3 hat3 p1 p2 p3 p4 hS7 hlt7 hL3 hm7 ho1 hsz hog
        go_wp2
        go_roundg (gk - 1)
        case measure => omega
        case rel => exact ⟨i + 1, o ++ [s], by go_num, by omega, by omega, hs', hol2, hst2⟩
    · have q1 : decide ((i : Int) < (l.length : Int)) = false := decide_eq_false (by omega)
      have hr := Aside0.mk (show o = putL l out by rw [← hs.out, List.drop_eq_nil_of_le (by omega)]; rfl)
      have hi2 : i = l.length := by omega
      subst hi2
      go_wp2
      refine bodyPost_end (v := .tuple #[]) (by simp [results, Tryd.results56, go_sem]) rfl ?_
      exact ⟨rfl, hr.out ▸ hst.out⟩
def YC (w0 : World) (e : S33) : Prop := ∀ {W : World} {hb nh : Nat} {out : List ByteArray} {A0 : Option Addr} {c0 : Nat}, BS W w0.heap.size hb (.slice A0 out.length c0) nh out → Below w0.heap.size w0 W → okE e = true → nh + cost e ≤ 100000000000 → out.length + cost e ≤ 100000000000 →
    ∀ {A3 A4 A5 : Option Addr} {c3 c4 c5 : Nat}, Kd.C Kd.string w0 A3 e.f3.length e.f3 → Kd.C k33 w0 A4 e.f4.length e.f4 → Kd.C k40 w0 A5 e.f5.length e.f5 →
    Calls Tryd.prog 40 #[.slice A0 out.length c0, .map (some hb), .agg #[.int .i64 e.f0, .string e.f1, .int .i64 e.f2, .slice A3 e.f3.length c3, .slice A4 e.f4.length c4, .slice A5 e.f5.length c5]] W fun r W' => ∃ A c nh', r = .returned (.slice A (bx e out).length c) ∧ BS W' w0.heap.size hb (.slice A (bx e out).length c) nh' (bx e out) ∧ Mod W W' (FB hb (.slice A0 out.length c0)) ∧ (∀ j, (Value.slice A (bx e out).length c).ownBlock = some j → (Value.slice A0 out.length c0).ownBlock = some j ∨ W.heap.size ≤ j) ∧ nh' ≤ nh + cost e
theorem step_p {w0 Wa w5 : World} {hb ob mb nh ch : Nat} {v : Value} {o0 o : List ByteArray} (hF : CS Wa w0.heap.size hb ob mb v nh o0) (hob : w0.heap.size ≤ ob) (hBa : Below w0.heap.size w0 Wa) (hsa : w0.heap.size ≤ Wa.heap.size) (hst : SB Wa w5 w0.heap.size hb ob mb v o ch) (l : List ByteArray) {A : Option Addr} (hC : Kd.C Kd.string w0 A l.length l) (hNS : nsz l = true) (hn : ch + l.length ≤ 1000000000000) (ho : o.length + l.length ≤ 1000000000000) (c : Nat) :
    Calls Tryd.prog 56 #[.slice A l.length c, .pointer (some ⟨mb, 0, none⟩), .pointer (some ⟨ob, 0, none⟩)] w5 fun e W' => e = .returned (.tuple #[]) ∧ SB Wa W' w0.heap.size hb ob mb v (putL l o) (ch + l.length) := by
  have hbw := hBa.trans (SB.below hst hF hob hsa)
  obtain ⟨A1, c1, n1, hc1, hm1, ho1, hn1⟩ := hst
  refine (put_calls hc1 hob hbw l hC hNS (by omega) ho).mono ?_
  rintro r W' ⟨rfl, h⟩
  obtain ⟨A2, c2, n2, h2⟩ := SB.comp hm1 ho1 h
  exact ⟨rfl, A2, c2, n2, h2.1, h2.2.1, h2.2.2.1, by have := h2.2.2.2; omega⟩
theorem step_y {w0 Wa w5 : World} {hb ob mb nh ch : Nat} {v : Value} {o0 o : List ByteArray} {e : S33} (hy : YC w0 e) (hF : CS Wa w0.heap.size hb ob mb v nh o0) (hob : w0.heap.size ≤ ob) (hBa : Below w0.heap.size w0 Wa) (hsa : w0.heap.size ≤ Wa.heap.size) (hst : SB Wa w5 w0.heap.size hb ob mb v o ch) (hok : okE e = true) (h1 : ch + cost e ≤ 100000000000) (h2 : o.length + cost e ≤ 100000000000)
    {A3 A4 A5 : Option Addr} (g3 : Kd.C Kd.string w0 A3 e.f3.length e.f3) (g4 : Kd.C k33 w0 A4 e.f4.length e.f4) (g5 : Kd.C k40 w0 A5 e.f5.length e.f5) (c3 c4 c5 : Nat) :
    ∃ A1 c1, w5.cell? ⟨ob, 0, none⟩ = some (.slice A1 o.length c1) ∧ w5.cell? ⟨mb, 0, none⟩ = some (.map (some hb)) ∧ Calls Tryd.prog 40 #[.slice A1 o.length c1, .map (some hb), .agg #[.int .i64 e.f0, .string e.f1, .int .i64 e.f2, .slice A3 e.f3.length c3, .slice A4 e.f4.length c4, .slice A5 e.f5.length c5]] w5 fun r W' => ∃ A c, r = .returned (.slice A (bx e o).length c) ∧ W'.cell? ⟨ob, 0, none⟩ = some (.slice A1 o.length c1) ∧ W'.frozen? ⟨ob, 0, none⟩ = false ∧ SB Wa (W'.setCell ⟨ob, 0, none⟩ (.slice A (bx e o).length c)) w0.heap.size hb ob mb v (bx e o) (ch + cost e) := by
  have hbw := hBa.trans (SB.below hst hF hob hsa)
  obtain ⟨A1, c1, n1, hc1, hm1, ho1, hn1⟩ := hst
  refine ⟨A1, c1, (blk_cell hc1.obk 0).trans rfl, (blk_cell hc1.mbk 0).trans rfl, (hy hc1.bs hbw hok (by omega) h2 g3 g4 g5).mono ?_⟩
  rintro r W' ⟨A, c, n2, rfl, hb2, hm2, ho2, hn2⟩
  have nb : ∀ j, (j = ob ∨ j = mb) → ¬ FB hb (.slice A1 o.length c1) j := by
    rintro j hj (rfl | hv)
    · rcases hj with rfl | rfl
      · exact hc1.one.1 rfl
      · exact hc1.one.2 rfl
    · have := hc1.row.1 j hv
      rcases hj with rfl | rfl
      · exact this.2.1 rfl
      · exact this.2.2 rfl
  have hob2 := (hm2.block ob hc1.lt.2.1 (nb ob (.inl rfl))).trans hc1.obk
  have hmb2 := (hm2.block mb hc1.lt.2.2 (nb mb (.inr rfl))).trans hc1.mbk
  refine ⟨A, c, rfl, (blk_cell hob2 0).trans rfl, blk_frozen hob2 0, A, c, n2, ?_, ?_, ?_, by omega⟩
  · have eh : ∀ j, j ≠ ob → (W'.setCell ⟨ob, 0, none⟩ (.slice A (bx e o).length c)).heap[j]? = W'.heap[j]? := fun j hj => Below.heap_setCell W' ⟨ob, 0, none⟩ _ j hj
    have hne : ∀ j, (Value.slice A (bx e o).length c).ownBlock = some j → j ≠ ob ∧ j ≠ mb := by
      intro j hj
      rcases ho2 j hj with h | h
      · exact (hc1.row.1 j h).2
      · have := hc1.lt; omega
    refine ⟨hb2.hm.of_block (eh hb hc1.one.1), Rs_step hb2.row (fun j hj => eh j (hne j hj).1) (fun j hj => ⟨hb2.row.1 j hj, hne j hj⟩), blk_put hob2 0 _ rfl, (eh mb hc1.om.symm).trans hmb2, hb2.ge, hc1.om⟩
  · refine (hm1.trans hm2 (fun j hj he => ?_)).trans (Mod.of_set _ _ _) (fun j _ hj => .inr hj)
    rcases he with rfl | hv
    · exact .inl (.inl rfl)
    · rcases ho1 j hv with h | h
      · exact .inl (.inr h)
      · omega
  · intro j hj
    rcases ho2 j hj with h | h
    · exact ho1 j h
    · exact .inr (Nat.le_trans hm1.size h)
set_option maxHeartbeats 16000000 in
set_option maxRecDepth 100000 in
theorem bound_calls {w0 : World} : ∀ (n : Nat) (e : S33), cost e ≤ n → YC w0 e := by
  intro n
  induction n with
  | zero => intro e hc; rw [cost_eq] at hc; omega
  | succ n ih =>
    intro e hc W hb nh out A0 c0 h hB0 hok bh bo A3 A4 A5 c3 c4 c5 hC3 hC4 hC5
    have E : ∀ W : World, ∀ o : Obj, (W.alloc o).heap.size = W.heap.size + 1 := fun W o => Array.size_push _
    have hceq := cost_eq e
    rw [okE_eq] at hok
    simp only [Bool.and_eq_true, decide_eq_true_eq] at hok
    obtain ⟨⟨⟨hns0, hok3⟩, hok4⟩, hok5⟩ := hok
    have hl4 := hC4.2.1
    have hl5 := hC5.2.1
    have hok3 := Aside0.mk hok3
    have hok4 := Aside0.mk hok4
    have hok5 := Aside0.mk hok5
    have hC3 := Aside0.mk hC3
    have hC4 := Aside0.mk hC4
    have hC5 := Aside0.mk hC5
    have hbl : Below W.heap.size W (((W.alloc (.cells #[.slice A0 out.length c0] 22)).alloc (.cells #[.map (some hb)] 59)).alloc (.cells #[.int .i64 e.f0, .string e.f1, .int .i64 e.f2, .slice A3 e.f3.length c3, .slice A4 e.f4.length c4, .slice A5 e.f5.length c5] 33)) := below_alloc (below_alloc (below_alloc (Below.refl _ _) _) _) _
    have hcs : CS (((W.alloc (.cells #[.slice A0 out.length c0] 22)).alloc (.cells #[.map (some hb)] 59)).alloc (.cells #[.int .i64 e.f0, .string e.f1, .int .i64 e.f2, .slice A3 e.f3.length c3, .slice A4 e.f4.length c4, .slice A5 e.f5.length c5] 33)) w0.heap.size hb W.heap.size (W.heap.size + 1) (.slice A0 out.length c0) nh out := by
      have h1 := h.below hbl
      refine ⟨h1.hm, Rs_ok h1.row (fun j hj => ⟨h.row.1 j hj, by have := h.lt (.inr hj); omega, by have := h.lt (.inr hj); omega⟩), ?_, ?_, h.ge, by omega⟩
      · have h2 := blk_new W (.cells #[.slice A0 out.length c0] 22 (0, 0))
        exact (Below.heap_alloc _ _ _ (by rw [E, E]; omega)).trans ((Below.heap_alloc _ _ _ (by rw [E]; omega)).trans h2)
      · have h2 := blk_new (W.alloc (.cells #[.slice A0 out.length c0] 22)) (.cells #[.map (some hb)] 59 (0, 0))
        rw [E] at h2
        exact (Below.heap_alloc _ _ _ (by rw [E, E]; omega)).trans h2
    have hxb : (((W.alloc (.cells #[.slice A0 out.length c0] 22)).alloc (.cells #[.map (some hb)] 59)).alloc (.cells #[.int .i64 e.f0, .string e.f1, .int .i64 e.f2, .slice A3 e.f3.length c3, .slice A4 e.f4.length c4, .slice A5 e.f5.length c5] 33)).heap[W.heap.size + 1 + 1]? = some (.cells #[.int .i64 e.f0, .string e.f1, .int .i64 e.f2, .slice A3 e.f3.length c3, .slice A4 e.f4.length c4, .slice A5 e.f5.length c5] 33 (0, 0)) := by
      have h2 := blk_new ((W.alloc (.cells #[.slice A0 out.length c0] 22)).alloc (.cells #[.map (some hb)] 59)) (.cells #[.int .i64 e.f0, .string e.f1, .int .i64 e.f2, .slice A3 e.f3.length c3, .slice A4 e.f4.length c4, .slice A5 e.f5.length c5] 33 (0, 0))
      rwa [E, E] at h2
    have hnx : ¬ (FB hb (.slice A0 out.length c0) (W.heap.size + 1 + 1) ∨ W.heap.size + 1 + 1 = W.heap.size) := by
      rintro (hh | hh)
      · have := h.lt hh; omega
      · omega
    have hbl9 := Aside0.mk hbl
    have hcs9 := Aside0.mk hcs
    have hxb9 := Aside0.mk hxb
    have hnx9 := Aside0.mk hnx
    have hB9 := Aside0.mk (hB0.trans (hbl.mono hB0.size))
    have hob9 := Aside0.mk hB0.size
    have hsz9 := Aside0.mk (Nat.le_trans hB0.size hbl.size)
    have hcost := Aside0.mk hceq
    have hbnd := Aside0.mk (And.intro hc (And.intro bh bo))
    have hy3 := (blk_cell hxb 3).trans rfl
    have CP := step_p hcs hB0.size hB9.out hsz9.out ⟨A0, c0, nh, hcs, Mod.refl _ _, fun j hj => .inl hj, Nat.le_refl _⟩ e.f3 hC3.out hok3.out (by omega) (by omega) c3
    have hone : Aside0 (bx e out = bxA e.f5 (bxL e.f4 (putL e.f3 out))) := ⟨bx_eq e out⟩
    have hpl := Aside0.mk (putL_len e.f3 out)
    clear h hB0 hns0 hceq hc bh bo hbl hcs hxb hnx
    go_enter Tryd.func40, Tryd.ntmps40
    generalize hW9 : (((W.alloc (.cells #[.slice A0 out.length c0] 22)).alloc (.cells #[.map (some hb)] 59)).alloc (.cells #[.int .i64 e.f0, .string e.f1, .int .i64 e.f2, .slice A3 e.f3.length c3, .slice A4 e.f4.length c4, .slice A5 e.f5.length c5] 33)) = W9 at *
    have hW9' := Aside0.mk hW9
    go_wp2_with (first | (go_at_call 56; go_loud (with_reducible refine CP.mono ?_); rintro r w2 ⟨rfl, hst2⟩; have HS2 := Aside0.mk hst2; have hx4 := (blk_cell (SB.blk hst2 hxb9.out hnx9.out) 4).trans rfl; clear hst2 CP hy3))
    clear hx4
    go_loopg [20] (e.f4.length + 1) (fun kq v20 w' => ∃ (i : Nat) (o : List ByteArray) (ch : Nat), v20 = .int .i64 (i : Int) ∧ i + kq = e.f4.length + 1 ∧ 1 ≤ kq ∧ Aside0 (bxL (e.f4.drop i) o = bxL e.f4 (putL e.f3 out)) ∧ Aside0 (okL (e.f4.drop i) = true) ∧ Aside0 (SB W9 w' w0.heap.size hb W.heap.size (W.heap.size + 1) (.slice A0 out.length c0) o ch) ∧ Aside0 (ch + costL (e.f4.drop i) ≤ nh + e.f3.length + costL e.f4 ∧ o.length + costL (e.f4.drop i) ≤ out.length + e.f3.length + costL e.f4))
    case atStart => exact ⟨0, putL e.f3 out, nh + e.f3.length, rfl, by omega, by omega, ⟨rfl⟩, hok4, HS2, ⟨by simp, by have := hpl.out; simp only [List.drop_zero]; omega⟩⟩
    case round =>
      obtain ⟨i, o, ch, rfl, hi, hk, hs, hol, hst, hbd⟩ := hrel
      have hBw := hB9.out.trans (SB.below hst.out hcs9.out hob9.out hsz9.out)
      by_cases hlt : i < e.f4.length
      · obtain ⟨ad, X3, d3, X4, d4, X5, d5, rfl, hv0, hv1, hv2, hv3, hv4, hv5, g3, g4, g5⟩ := at_e hBw hC4.out i hlt
        have p0 : (0 : Int) ≤ (i : Int) := by omega
        have q0 : (i : Int) < (e.f4.length : Int) := by omega
        have q1 : decide ((i : Int) < (e.f4.length : Int)) = true := decide_eq_true q0
        have hdr := costL_drop hlt
        have hcl := costL_le hlt
        have hod := okL_drop hlt hol.out
        have hsd : Aside0 (bxL (e.f4.drop (i + 1)) (bx e.f4[i] o) = bxL e.f4 (putL e.f3 out)) := ⟨by rw [← hs.out, List.drop_eq_getElem_cons hlt]; simp only [bxL]⟩
        have hfl := bx_len e.f4[i] o
        have hb2 := hbd.out
        have hceq := hcost.out
        obtain ⟨hn1, bh, bo⟩ := hbnd.out
        generalize e.f4[i] = x at *
        have hal := below_alloc (Below.refl wr.heap.size wr) (.cells #[.int .i64 x.f0, .string x.f1, .int .i64 x.f2, .slice X3 x.f3.length d3, .slice X4 x.f4.length d4, .slice X5 x.f5.length d5] 33)
        obtain ⟨A1, c1, hoc, hmc, CX⟩ := step_y (ih x (by omega)) hcs9.out hob9.out hB9.out hsz9.out (hst.out.alloc hal) hod.1 (by omega) (by omega) g3 g4 g5 d3 d4 d5
        have hbb := Aside0.mk (And.intro hdr (And.intro hfl hb2))
        have hod2 := Aside0.mk hod.2
        clear hBw g3 g4 g5 hdr hcl hod hfl hb2 hal hceq hn1 bh bo
        go_wp2_with (first | (go_at_call 40; go_loud (with_reducible refine CX.mono ?_); rintro r w3 ⟨A', c', rfl, hcc, hfz, hst3⟩; have HS3 := Aside0.mk hst3; clear hst3 CX hoc hmc))
        go_roundg (gk - 1)
        case measure => omega
        case rel => exact ⟨i + 1, bx x o, ch + cost x, by go_num, by omega, by omega, hsd, hod2, HS3, ⟨by have := hbb.out; omega, by have := hbb.out; omega⟩⟩
      · have q1 : decide ((i : Int) < (e.f4.length : Int)) = false := decide_eq_false (by omega)
        have hd0 : e.f4.drop i = [] := List.drop_eq_nil_of_le (by omega)
        have hso : o = bxL e.f4 (putL e.f3 out) := by rw [← hs.out, hd0]; simp only [bxL]
        have hb3 := hbd.out
        rw [hd0] at hb3
        simp only [costL, Nat.add_zero] at hb3
        have hb3 := Aside0.mk hb3
        have hx5 := (blk_cell (SB.blk hst.out hxb9.out hnx9.out) 5).trans rfl
        have HS4 := hst
        clear hbd hd0 hBw hs hol hst
        go_wp2
        clear hx5
        go_loopg [32] (e.f5.length + 1) (fun kq v32 w' => ∃ (i : Nat) (o2 : List ByteArray) (ch3 : Nat), v32 = .int .i64 (i : Int) ∧ i + kq = e.f5.length + 1 ∧ 1 ≤ kq ∧ Aside0 (bxA (e.f5.drop i) o2 = bxA e.f5 o) ∧ Aside0 (okA (e.f5.drop i) = true) ∧ Aside0 (SB W9 w' w0.heap.size hb W.heap.size (W.heap.size + 1) (.slice A0 out.length c0) o2 ch3) ∧ Aside0 (ch3 + costA (e.f5.drop i) ≤ ch + costA e.f5 ∧ o2.length + costA (e.f5.drop i) ≤ o.length + costA e.f5))
        case atStart => exact ⟨0, o, ch, rfl, by omega, by omega, ⟨rfl⟩, hok5, HS4, ⟨by simp, by simp⟩⟩
        case round =>
          obtain ⟨i3, o2, ch3, rfl, hi3, hk3, hs3, hol3, hst3, hbd3⟩ := hrel
          have hBw := hB9.out.trans (SB.below hst3.out hcs9.out hob9.out hsz9.out)
          by_cases hlt3 : i3 < e.f5.length
          · obtain ⟨ad, Y3, d3, X3, e3, X4, e4, X5, e5, rfl, hv0, hv1, hv2, hv3, hv4, hv5, hv6, hv7, hv8, hv9, g3, g4, g5, g6⟩ := at_a hBw hC5.out i3 hlt3
            have p0 : (0 : Int) ≤ (i3 : Int) := by omega
            have q0 : (i3 : Int) < (e.f5.length : Int) := by omega
            have q1 : decide ((i3 : Int) < (e.f5.length : Int)) = true := decide_eq_true q0
            have hdr := costA_drop hlt3
            have hcl := costA_le hlt3
            have hod := okA_drop hlt3 hol3.out
            have hsd : Aside0 (bxA (e.f5.drop (i3 + 1)) (bx e.f5[i3].f4 (putL e.f5[i3].f3 o2)) = bxA e.f5 o) := ⟨by rw [← hs3.out, List.drop_eq_getElem_cons hlt3, bxA_cons]⟩
            have hfl := bx_len e.f5[i3].f4 (putL e.f5[i3].f3 o2)
            have hpl2 := putL_len e.f5[i3].f3 o2
            have hb2 := hbd3.out
            have hceq := hcost.out
            have hb30 := hb3.out
            obtain ⟨hn1, bh, bo⟩ := hbnd.out
            generalize e.f5[i3] = a at *
            obtain ⟨A5', c5', n5, hF5, hM5, hO5, h5h⟩ := hst3.out
            have hal := below_alloc (Below.refl wr.heap.size wr) (.cells #[.int .i64 a.f0, .string a.f1, .int .i64 a.f2, .slice Y3 a.f3.length d3, .int .i64 a.f4.f0, .string a.f4.f1, .int .i64 a.f4.f2, .slice X3 a.f4.f3.length e3, .slice X4 a.f4.f4.length e4, .slice X5 a.f4.f5.length e5] 40)
            have hBs : w0.heap.size ≤ wr.heap.size := hBw.size
            have hMa := hM5.trans (Mod.of_below hal (fun j => FB hb (.slice A0 out.length c0) j ∨ j = W.heap.size)) (fun _ _ hj => hj)
            have hFa := hF5.below hal
            have hBa := hBw.trans (hal.mono hBs)
            have hbk : (wr.alloc (.cells #[.int .i64 a.f0, .string a.f1, .int .i64 a.f2, .slice Y3 a.f3.length d3, .int .i64 a.f4.f0, .string a.f4.f1, .int .i64 a.f4.f2, .slice X3 a.f4.f3.length e3, .slice X4 a.f4.f4.length e4, .slice X5 a.f4.f5.length e5] 40)).heap[wr.heap.size]? = some (.cells #[.int .i64 a.f0, .string a.f1, .int .i64 a.f2, .slice Y3 a.f3.length d3, .int .i64 a.f4.f0, .string a.f4.f1, .int .i64 a.f4.f2, .slice X3 a.f4.f3.length e3, .slice X4 a.f4.f4.length e4, .slice X5 a.f4.f5.length e5] 40 (0, 0)) := blk_new wr _
            have hnk : ¬ (FB hb (.slice A5' o2.length c5') wr.heap.size ∨ wr.heap.size = W.heap.size) := by
              rintro (hh | hh)
              · have := hF5.bs.lt hh; omega
              · have := hF5.lt; omega
            have hsa : w0.heap.size ≤ (wr.alloc (.cells #[.int .i64 a.f0, .string a.f1, .int .i64 a.f2, .slice Y3 a.f3.length d3, .int .i64 a.f4.f0, .string a.f4.f1, .int .i64 a.f4.f2, .slice X3 a.f4.f3.length e3, .slice X4 a.f4.f4.length e4, .slice X5 a.f4.f5.length e5] 40)).heap.size := Nat.le_trans hBs hal.size
            have C1 := step_p hFa hob9.out hBa hsa ⟨A5', c5', n5, hFa, Mod.refl _ _, fun j hj => .inl hj, Nat.le_refl _⟩ a.f3 g3 hod.1.1 (by omega) (by omega) d3
            have hMa := Aside0.mk hMa
            have hFa := Aside0.mk hFa
            have hBa := Aside0.mk hBa
            have hO5 := Aside0.mk hO5
            have hbk := Aside0.mk hbk
            have hnk := Aside0.mk hnk
            have hsa := Aside0.mk hsa
            have hg := Aside0.mk (And.intro g3 (And.intro g4 (And.intro g5 g6)))
            have hod := Aside0.mk hod
            have hbb := Aside0.mk (And.intro hcl (And.intro hdr (And.intro hfl (And.intro hpl2 (And.intro hb2 (And.intro hb3.out (And.intro h5h (And.intro hcost.out hbnd.out))))))))
            clear hBw g3 g4 g5 g6 hdr hcl hfl hpl2 hb2 hF5 hM5 hal hBs h5h hn1 bh bo hceq hb30
            go_wp2_with (first | (go_at_call 56; go_loud (with_reducible refine C1.mono ?_); rintro r w5 ⟨rfl, hst5⟩; have HT5 := Aside0.mk hst5; have hw5 := SB.blk hst5 hbk.out hnk.out; have hy4 := (blk_cell hw5 4).trans rfl; have hy5 := (blk_cell hw5 5).trans rfl; have hy6 := (blk_cell hw5 6).trans rfl; have hy7 := (blk_cell hw5 7).trans rfl; have hy8 := (blk_cell hw5 8).trans rfl; have hy9 := (blk_cell hw5 9).trans rfl; clear hst5 C1 hw5 hv0 hv1 hv2 hv3 hv4 hv5 hv6 hv7 hv8 hv9; obtain ⟨A1, c1, hoc, hmc, C2⟩ := step_y (ih a.f4 (by have := hbb.out; omega)) hFa.out hob9.out hBa.out hsa.out HT5.out hod.out.1.2 (by have := hbb.out; omega) (by have := hbb.out; omega) hg.out.2.1 hg.out.2.2.1 hg.out.2.2.2 e3 e4 e5) | (go_at_call 40; go_loud (with_reducible refine C2.mono ?_); rintro r w6 ⟨A', c', rfl, hcc, hfz, hst6⟩; have HT6 := Aside0.mk (SB.comp hMa.out hO5.out hst6); clear hst6 C2 hoc hmc hy4 hy5 hy6 hy7 hy8 hy9))
            go_roundg (gk - 1)
            case measure => omega
            case rel => exact ⟨i3 + 1, bx a.f4 (putL a.f3 o2), n5 + a.f3.length + cost a.f4, by go_num, by omega, by omega, hsd, ⟨hod.out.2⟩, HT6, ⟨by have := hbb.out; omega, by have := hbb.out; omega⟩⟩
          · have q1 : decide ((i3 : Int) < (e.f5.length : Int)) = false := decide_eq_false (by omega)
            have hd0 : e.f5.drop i3 = [] := List.drop_eq_nil_of_le (by omega)
            have hso3 : o2 = bxA e.f5 o := by rw [← hs3.out, hd0]; simp only [bxA]
            have hb4 := hbd3.out
            rw [hd0] at hb4
            simp only [costA, Nat.add_zero] at hb4
            have hse : bx e out = o2 := by rw [hone.out, ← hso, ← hso3]
            obtain ⟨A6, c6, n6, hF6, hM6, hO6, h6h⟩ := hst3.out
            have hoc := (blk_cell hF6.obk 0).trans rfl
            have hfin : Aside0 (BS wr w0.heap.size hb (.slice A6 o2.length c6) n6 o2 ∧ Mod W wr (FB hb (.slice A0 out.length c0)) ∧ (∀ j, (Value.slice A6 o2.length c6).ownBlock = some j → (Value.slice A0 out.length c0).ownBlock = some j ∨ W.heap.size ≤ j) ∧ n6 ≤ nh + cost e) := ⟨hF6.bs, (Mod.of_below hbl9.out (FB hb (.slice A0 out.length c0))).trans hM6 (fun j hj he => he.elim id (fun h => by omega)), (fun j hj => (hO6 j hj).imp id (fun h => Nat.le_trans hbl9.out.size h)), by have := hb3.out; have := hcost.out; omega⟩
            clear hBw hF6 hM6 hO6 h6h hb4 hd0 hso hso3 hs3
            go_wp2
            go_ret
            rw [hse]
            exact ⟨A6, c6, n6, rfl, hfin.out⟩
set_option maxHeartbeats 8000000 in
set_option maxRecDepth 100000 in
theorem bound0_calls (e : S33) (w : World) (hok : okE e = true) (hc : cost e ≤ 100000000000) {A3 A4 A5 : Option Addr} {c3 c4 c5 : Nat} (hC3 : Kd.C Kd.string w A3 e.f3.length e.f3) (hC4 : Kd.C k33 w A4 e.f4.length e.f4) (hC5 : Kd.C k40 w A5 e.f5.length e.f5) :
    Calls Tryd.prog 21 #[.agg #[.int .i64 e.f0, .string e.f1, .int .i64 e.f2, .slice A3 e.f3.length c3, .slice A4 e.f4.length c4, .slice A5 e.f5.length c5]] w fun r w' => ∃ v0_ : Value, r = .returned v0_ ∧ Kd.R Kd.string 9 w' w.heap.size (fun _ => True) v0_ (bx e []) ∧ Below w.heap.size w w' := by
  have hmm := @run_makeMap Tryd.prog
  have E : ∀ W : World, ∀ o : Obj, (W.alloc o).heap.size = W.heap.size + 1 := fun W o => Array.size_push _
  have hb4 : Below w.heap.size w ((w.alloc (.cells #[.int .i64 e.f0, .string e.f1, .int .i64 e.f2, .slice A3 e.f3.length c3, .slice A4 e.f4.length c4, .slice A5 e.f5.length c5] 33)).alloc (.map #[] 0)) := below_alloc (below_alloc (Below.refl _ _) _) _
  have hF : BS ((w.alloc (.cells #[.int .i64 e.f0, .string e.f1, .int .i64 e.f2, .slice A3 e.f3.length c3, .slice A4 e.f4.length c4, .slice A5 e.f5.length c5] 33)).alloc (.map #[] 0)) w.heap.size (w.heap.size + 1) (.slice none ([] : List ByteArray).length 0) 0 [] := by
    have h := MapS.made (w.alloc (.cells #[.int .i64 e.f0, .string e.f1, .int .i64 e.f2, .slice A3 e.f3.length c3, .slice A4 e.f4.length c4, .slice A5 e.f5.length c5] 33))
    rw [E] at h
    exact ⟨h, Kd.R_nil _ _ _ _ _, by omega⟩
  have CX := bound_calls (cost e) e (Nat.le_refl _) hF hb4 hok (by omega) (by simp; omega) hC3 hC4 hC5 (c3 := c3) (c4 := c4) (c5 := c5)
  simp only [List.length_nil] at CX hF
  have hF := Aside0.mk hF
  have hb4 := Aside0.mk hb4
  clear hok hc hC3 hC4 hC5
  go_enter Tryd.func21, Tryd.ntmps21
  go_wp2_with (first | (go_at_call 40; go_loud (with_reducible refine CX.mono ?_); rintro r w5 ⟨A, c, nh5, rfl, hb5, hm5, _, _⟩; have HB := Aside0.mk (hb4.out.trans (hm5.below hb4.out.size (fun j _ hj => hF.out.fge hj))); have HR := Aside0.mk hb5.row; clear hb5 hm5 CX))
  go_ret
  exact ⟨_, rfl, Kd.R_mono HR.out (fun _ _ => trivial), HB.out⟩
end Go.Proofs.YtmoeekidmkhkoaaDoor.FreeA

