/- FreeLets: its walk. Conditions: the library's table of powers of ten reads as it is laid; what came in is of a size that memory has room for. -/
import Derived.Test.YtmoeekidmkhkoaaDoorFreeO
import Derived.Test.YtmoeekidmkhkoaaDoorFreeP
import Derived.Test.YtmoeekidmkhkoaaDoorFreeQ
import Derived.Test.YtmoeekidmkhkoaaDoorExt
namespace Go.Proofs.YtmoeekidmkhkoaaDoor.FreeA
open Go.RowKit Go.Proofs.YtmoeekidmkhkoaaDoorW.PrintWords Go.Proofs.YtmoeekidmkhkoaaDoorW.PrintLast Go.Proofs.YtmoeekidmkhkoaaDoorW.PrintMore Go.Proofs.YtmoeekidmkhkoaaDoor.PFreeA
set_option linter.unusedVariables false
set_option linter.unusedSimpArgs false
theorem names_g (e : S33) (hok : okE e = true) (hc : cost e ≤ 100000000000) {f0 f2 : Int} {f1 : ByteArray} {n3 n4 n5 m : Nat} {r : List ByteArray} (h0 : e.f0 = f0) (h1 : e.f1 = f1) (h2 : e.f2 = f2) (hn3 : e.f3.length = n3) (hn4 : e.f4.length = n4) (hn5 : e.f5.length = n5) (hr : fx e [] [] = r) (hm : r.length = m) (w : World) {A3 A4 A5 : Option Addr} {c3 c4 c5 : Nat} (h3 : Kd.C Kd.string w A3 n3 e.f3) (h4 : Kd.C k33 w A4 n4 e.f4) (h5 : Kd.C k40 w A5 n5 e.f5) :
    Calls Tryd.prog 15 #[.agg #[.int .i64 f0, .string f1, .int .i64 f2, .slice A3 n3 c3, .slice A4 n4 c4, .slice A5 n5 c5]] w fun x w' => ∃ A c, x = .returned (.slice A m c) ∧ m ≤ c ∧ Kd.C Kd.string w' A m r ∧ Below w.heap.size w w' := by
  subst h0 h1 h2 hn3 hn4 hn5 hr hm
  refine (names_calls e w hok hc h3 h4 h5).mono ?_
  rintro x w' ⟨v, rfl, hR, hb⟩
  obtain ⟨A, c, rfl⟩ := Kd.R_slice hR
  exact ⟨A, c, rfl, (Kd.R_reads' hR).2.1, (Kd.R_reads' hR).2.2, hb⟩
theorem once_g (l : List ByteArray) (hl : l.length ≤ 1000000000) {n m : Nat} {r : List ByteArray} (hn : l.length = n) (hr : putL l [] = r) (hm : r.length = m) (w : World) {A : Option Addr} {c : Nat} (hC : Kd.C Kd.string w A n l) (hc : n ≤ c) :
    Calls Tryd.prog 16 #[.slice A n c] w fun x w' => ∃ A1 c1, x = .returned (.slice A1 m c1) ∧ m ≤ c1 ∧ Kd.C Kd.string w' A1 m r ∧ Below w.heap.size w w' := by
  subst hn hr hm
  refine (gristmillref_Once.calls _ A c l _ w hC hc (once_eq l hl)).mono ?_
  rintro x w' ⟨v, rfl, hR, hb⟩
  obtain ⟨A1, c1, rfl⟩ := Kd.R_slice hR
  exact ⟨A1, c1, rfl, (Kd.R_reads' hR).2.1, (Kd.R_reads' hR).2.2, hb⟩
theorem has_g (l : List ByteArray) (hl : l.length ≤ 1000000000) {n : Nat} (hn : l.length = n) (s : ByteArray) {b : Bool} (hb : isIn l s = b) (w : World) {A : Option Addr} {c : Nat} (hC : Kd.C Kd.string w A n l) (hc : n ≤ c) :
    Calls Tryd.prog 12 #[.slice A n c, .string s] w fun x w' => x = .returned (.bool b) ∧ Below w.heap.size w w' := by
  subst hn hb
  exact (gristmillref_Has.calls (l.length + 1) A c l s _ w hC hc (has_eq l s (by omega) _ (Nat.lt_succ_self _))).mono fun x w' h => ⟨h.1, h.2.below⟩
theorem same_l0 (l : List ByteArray) (hl : l.length ≤ 1000000000) : ∀ (k i : Nat), i ≤ l.length → l.length < k + i → PFreeS.gristmillref_SameTexts.l0 k l l (i : Int) = some true
  | 0, i, hi, hk => by omega
  | k + 1, i, hi, hk => by
    rw [PFreeS.gristmillref_SameTexts.l0]
    by_cases hlt : i < l.length
    · rw [if_pos (by omega), if_pos (by omega), if_pos (by omega), if_pos rfl, wr1 i (by omega)]
      exact same_l0 l hl k (i + 1) (by omega) (by omega)
    · rw [if_neg (by omega)]
theorem same_g (l : List ByteArray) (hl : l.length ≤ 1000000000) {n : Nat} (hn : l.length = n) (w : World) {A B : Option Addr} {c d : Nat} (hA : Kd.C Kd.string w A n l) (hc : n ≤ c) (hB : Kd.C Kd.string w B n l) (hd : n ≤ d) :
    Calls Tryd.prog 17 #[.slice A n c, .slice B n d] w fun x w' => x = .returned (.bool true) ∧ Below w.heap.size w w' := by
  subst hn
  refine (PFreeS.gristmillref_SameTexts.calls (l.length + 1) A c l B d l true w hA hc hB hd ?_).mono fun x w' h => ⟨h.1, h.2.below⟩
  unfold PFreeS.gristmillref_SameTexts.f
  rw [if_pos rfl]
  exact same_l0 l hl _ 0 (by omega) (by omega)
theorem p_calls (s : ByteArray) (A : Option Addr) (n c : Nat) (w : World) : Calls Tryd.prog 18 #[.string s, .slice A n c] w fun e w' => e = .returned (.agg #[.int .i64 9, .string s, .int .i64 0, .slice none 0 0, .slice A n c, .slice none 0 0]) ∧ Below w.heap.size w w' := by
  go_enter Tryd.func18, Tryd.ntmps18
  go_wp2
  refine bodyPost_ret (v := .agg #[.int .i64 9, .string s, .int .i64 0, .slice none 0 0, .slice A n c, .slice none 0 0]) (by simp [results, Tryd.results18, go_sem]) rfl ⟨rfl, below_alloc (Below.refl _ _) _⟩
theorem inf9' : (Tryd.prog.info? 9).map (fun i => (i.zero, i.size, i.bytes)) = some (some (.string ⟨#[]⟩), 1, 16) := by kernel_rfl
structure In (w : World) (e : S33) (A3 A4 A5 : Option Addr) (c3 c4 c5 : Nat) : Prop where
  h3 : Kd.C Kd.string w A3 e.f3.length e.f3
  m3 : e.f3.length ≤ c3
  h4 : Kd.C k33 w A4 e.f4.length e.f4
  m4 : e.f4.length ≤ c4
  h5 : Kd.C k40 w A5 e.f5.length e.f5
  m5 : e.f5.length ≤ c5
theorem In.below {w w1 : World} {e : S33} {A3 A4 A5 : Option Addr} {c3 c4 c5 : Nat} (h : In w e A3 A4 A5 c3 c4 c5) (hb : Below w.heap.size w w1) : In w1 e A3 A4 A5 c3 c4 c5 := ⟨Kd.C_below h.h3 hb, h.m3, Kd.C_below h.h4 hb, h.m4, Kd.C_below h.h5 hb, h.m5⟩
theorem In.K {w : World} {e : S33} {A3 A4 A5 : Option Addr} {c3 c4 c5 : Nat} (h : In w e A3 A4 A5 c3 c4 c5) : k33.K w e [.int .i64 e.f0, .string e.f1, .int .i64 e.f2, .slice A3 e.f3.length c3, .slice A4 e.f4.length c4, .slice A5 e.f5.length c5] := k33_mk w e h.m3 h.h3 h.m4 h.h4 h.m5 h.h5
theorem expr_g (e : S33) (hw : RW e) : ∃ b, (b = true → cn e ≤ 100) ∧ ∀ (w : World) {A3 A4 A5 : Option Addr} {c3 c4 c5 : Nat}, In w e A3 A4 A5 c3 c4 c5 → Calls Tryd.prog 13 #[.agg #[.int .i64 e.f0, .string e.f1, .int .i64 e.f2, .slice A3 e.f3.length c3, .slice A4 e.f4.length c4, .slice A5 e.f5.length c5], .int .i64 100] w fun x w' => x = .returned (.bool b) ∧ Below w.heap.size w w' := by
  obtain ⟨b, hb, hc⟩ := small_tot e hw 100 (by decide) (by decide)
  exact ⟨b, fun h => by have := hc h; omega, fun w A3 A4 A5 c3 c4 c5 h => gristmillmake_Expr.calls _ _ _ _ A3 c3 e.f3 A4 c4 e.f4 A5 c5 e.f5 100 b w h.h3 h.m3 h.h4 h.m4 h.h5 h.m5 hb⟩
theorem isX (s : ByteArray) : (s.toList == ([120] : List UInt8)) = decide (s = sX) := by
  have hx : sX.toList = [120] := by first | rfl | decide | (rw [ByteArray.toList_eq]; rfl)
  apply bool_iff
  rw [beq_iff_eq, decide_eq_true_iff, ← hx, toList_eq]
set_option maxHeartbeats 16000000 in
set_option maxRecDepth 100000 in
theorem lets_walk (a b : S33) (ra : RW a) (rb : RW b) (w : World) (hg : GG w) {A3 A4 A5 : Option Addr} {c3 c4 c5 : Nat} {B3 B4 B5 : Option Addr} {d3 d4 d5 : Nat} (ia : In w a A3 A4 A5 c3 c4 c5) (ib : In w b B3 B4 B5 d3 d4 d5) :
    Calls Tryd.prog 4 #[.agg #[.int .i64 a.f0, .string a.f1, .int .i64 a.f2, .slice A3 a.f3.length c3, .slice A4 a.f4.length c4, .slice A5 a.f5.length c5], .agg #[.int .i64 b.f0, .string b.f1, .int .i64 b.f2, .slice B3 b.f3.length d3, .slice B4 b.f4.length d4, .slice B5 b.f5.length d5]] w fun e w' => e = .returned (.bool true) ∧ Below w.heap.size w w' := by
  have E : ∀ W : World, ∀ o : Obj, (W.alloc o).heap.size = W.heap.size + 1 := fun W o => Array.size_push _
  obtain ⟨ba, hba, CA⟩ := expr_g a ra
  obtain ⟨bb, hbb, CB⟩ := expr_g b rb
  have hca : Aside0 (ba = true → WF a ∧ cn a ≤ 100) := ⟨fun h => ⟨wf_of _ a (Nat.le_refl _) ra (by have := hba h; omega), hba h⟩⟩
  have hcb : Aside0 (bb = true → WF b ∧ cn b ≤ 100) := ⟨fun h => ⟨wf_of _ b (Nat.le_refl _) rb (by have := hbb h; omega), hbb h⟩⟩
  have hoa := Aside0.mk (okE_of a ra)
  have hob := Aside0.mk (okE_of b rb)
  obtain ⟨W0, hW0⟩ : ∃ W0, (w.alloc (.cells #[.int .i64 a.f0, .string a.f1, .int .i64 a.f2, .slice A3 a.f3.length c3, .slice A4 a.f4.length c4, .slice A5 a.f5.length c5] 33)).alloc (.cells #[.int .i64 b.f0, .string b.f1, .int .i64 b.f2, .slice B3 b.f3.length d3, .slice B4 b.f4.length d4, .slice B5 b.f5.length d5] 33) = W0 := ⟨_, rfl⟩
  have HB0 : Aside0 (Below w.heap.size w W0) := ⟨by rw [← hW0]; exact below_alloc (below_alloc (Below.refl _ _) _) _⟩
  have hxa : Aside0 (W0.heap[w.heap.size]? = some (.cells #[.int .i64 a.f0, .string a.f1, .int .i64 a.f2, .slice A3 a.f3.length c3, .slice A4 a.f4.length c4, .slice A5 a.f5.length c5] 33 (0, 0))) := ⟨by rw [← hW0]; exact (Below.heap_alloc _ _ _ (by rw [E]; omega)).trans (blk_new w _)⟩
  have hxb : Aside0 (W0.heap[w.heap.size + 1]? = some (.cells #[.int .i64 b.f0, .string b.f1, .int .i64 b.f2, .slice B3 b.f3.length d3, .slice B4 b.f4.length d4, .slice B5 b.f5.length d5] 33 (0, 0))) := ⟨by rw [← hW0, ← E w]; exact blk_new _ _⟩
  have ia := Aside0.mk (ia.below HB0.out)
  have ib := Aside0.mk (ib.below HB0.out)
  have hg0 := Aside0.mk (GG.below hg HB0.out)
  have CA := Aside0.mk (@CA)
  have CB := Aside0.mk (@CB)
  clear hba hbb ra rb hg
  go_enter Tryd.func4, Tryd.ntmps4
  go_upto_region 4 with (first | (go_at_call 7; (try rw [hW0]); go_loud (with_reducible refine (Ext.first_calls W0).mono ?_); rintro e w1 ⟨rfl, hb1⟩; have HB1 := Aside0.mk hb1; clear hb1))
  go_cut [33] (fun v33 wc => ∃ z : Bool, v33 = .bool z ∧ Aside0 (z = false → ba = true ∧ bb = true) ∧ Aside0 (Below W0.heap.size W0 wc))
  case first => as_aux_lemma =>
    (have ka0 := (blk_cell (blk_below hxa.out HB1.out) 0).trans rfl)
    (have ka1 := (blk_cell (blk_below hxa.out HB1.out) 1).trans rfl)
    (have ka2 := (blk_cell (blk_below hxa.out HB1.out) 2).trans rfl)
    (have ka3 := (blk_cell (blk_below hxa.out HB1.out) 3).trans rfl)
    (have ka4 := (blk_cell (blk_below hxa.out HB1.out) 4).trans rfl)
    (have ka5 := (blk_cell (blk_below hxa.out HB1.out) 5).trans rfl)
    (have kb0 := (blk_cell (blk_below hxb.out HB1.out) 0).trans rfl)
    (have kb1 := (blk_cell (blk_below hxb.out HB1.out) 1).trans rfl)
    (have kb2 := (blk_cell (blk_below hxb.out HB1.out) 2).trans rfl)
    (have kb3 := (blk_cell (blk_below hxb.out HB1.out) 3).trans rfl)
    (have kb4 := (blk_cell (blk_below hxb.out HB1.out) 4).trans rfl)
    (have kb5 := (blk_cell (blk_below hxb.out HB1.out) 5).trans rfl)
    cases ba
    · have CA1 := CA.out w1 (ia.out.below HB1.out)
      go_wp2_with (first | (go_at_call 13; go_loud (with_reducible refine CA1.mono ?_); rintro e w2 ⟨rfl, hb2⟩; have HB2 := Aside0.mk (below_step HB1.out hb2); clear hb2 CA1))
      go_meet
      case rel => exact ⟨true, rfl, ⟨fun h => by cases h⟩, HB2⟩
    · have hwa := (hca.out rfl).1
      cases bb
      · have CA1 := CA.out w1 (ia.out.below HB1.out)
        go_wp2_with (first | (go_at_call 13; go_loud (with_reducible refine CA1.mono ?_); rintro e w2 ⟨rfl, hb2⟩; have HB2 := Aside0.mk (below_step HB1.out hb2); have CB2 := CB.out w2 (ib.out.below HB2.out); clear ka0 ka1 ka2 ka3 ka4 ka5 kb0 kb1 kb2 kb3 kb4 kb5; (have ka0 := (blk_cell (blk_below hxa.out HB2.out) 0).trans rfl); (have ka1 := (blk_cell (blk_below hxa.out HB2.out) 1).trans rfl); (have ka2 := (blk_cell (blk_below hxa.out HB2.out) 2).trans rfl); (have ka3 := (blk_cell (blk_below hxa.out HB2.out) 3).trans rfl); (have ka4 := (blk_cell (blk_below hxa.out HB2.out) 4).trans rfl); (have ka5 := (blk_cell (blk_below hxa.out HB2.out) 5).trans rfl); (have kb0 := (blk_cell (blk_below hxb.out HB2.out) 0).trans rfl); (have kb1 := (blk_cell (blk_below hxb.out HB2.out) 1).trans rfl); (have kb2 := (blk_cell (blk_below hxb.out HB2.out) 2).trans rfl); (have kb3 := (blk_cell (blk_below hxb.out HB2.out) 3).trans rfl); (have kb4 := (blk_cell (blk_below hxb.out HB2.out) 4).trans rfl); (have kb5 := (blk_cell (blk_below hxb.out HB2.out) 5).trans rfl); clear hb2 CA1) | (go_at_call 13; go_loud (with_reducible refine CB2.mono ?_); rintro e w3 ⟨rfl, hb3⟩; have HB3 := Aside0.mk (below_step HB2.out hb3); clear hb3 CB2))
        go_meet
        case rel => exact ⟨true, rfl, ⟨fun h => by cases h⟩, HB3⟩
      · have hwb := (hcb.out rfl).1
        have CA1 := CA.out w1 (ia.out.below HB1.out)
        have hwa := Aside0.mk hwa
        have hwb := Aside0.mk hwb
        go_wp2_with (first | (go_at_call 13; go_loud (with_reducible refine CA1.mono ?_); rintro e w2 ⟨rfl, hb2⟩; have HB2 := Aside0.mk (below_step HB1.out hb2); have CB2 := CB.out w2 (ib.out.below HB2.out); clear ka0 ka1 ka2 ka3 ka4 ka5 kb0 kb1 kb2 kb3 kb4 kb5; (have ka0 := (blk_cell (blk_below hxa.out HB2.out) 0).trans rfl); (have ka1 := (blk_cell (blk_below hxa.out HB2.out) 1).trans rfl); (have ka2 := (blk_cell (blk_below hxa.out HB2.out) 2).trans rfl); (have ka3 := (blk_cell (blk_below hxa.out HB2.out) 3).trans rfl); (have ka4 := (blk_cell (blk_below hxa.out HB2.out) 4).trans rfl); (have ka5 := (blk_cell (blk_below hxa.out HB2.out) 5).trans rfl); (have kb0 := (blk_cell (blk_below hxb.out HB2.out) 0).trans rfl); (have kb1 := (blk_cell (blk_below hxb.out HB2.out) 1).trans rfl); (have kb2 := (blk_cell (blk_below hxb.out HB2.out) 2).trans rfl); (have kb3 := (blk_cell (blk_below hxb.out HB2.out) 3).trans rfl); (have kb4 := (blk_cell (blk_below hxb.out HB2.out) 4).trans rfl); (have kb5 := (blk_cell (blk_below hxb.out HB2.out) 5).trans rfl); clear hb2 CA1) | (go_at_call 13; go_loud (with_reducible refine CB2.mono ?_); rintro e w3 ⟨rfl, hb3⟩; have HB3 := Aside0.mk (below_step HB2.out hb3); have iw := ia.out.below HB3.out; have CV3 := valid_c a hwa.out w3 (GG.below hg0.out HB3.out) iw.h3 iw.m3 iw.h4 iw.m4 iw.h5 iw.m5; clear ka0 ka1 ka2 ka3 ka4 ka5 kb0 kb1 kb2 kb3 kb4 kb5; (have ka0 := (blk_cell (blk_below hxa.out HB3.out) 0).trans rfl); (have ka1 := (blk_cell (blk_below hxa.out HB3.out) 1).trans rfl); (have ka2 := (blk_cell (blk_below hxa.out HB3.out) 2).trans rfl); (have ka3 := (blk_cell (blk_below hxa.out HB3.out) 3).trans rfl); (have ka4 := (blk_cell (blk_below hxa.out HB3.out) 4).trans rfl); (have ka5 := (blk_cell (blk_below hxa.out HB3.out) 5).trans rfl); (have kb0 := (blk_cell (blk_below hxb.out HB3.out) 0).trans rfl); (have kb1 := (blk_cell (blk_below hxb.out HB3.out) 1).trans rfl); (have kb2 := (blk_cell (blk_below hxb.out HB3.out) 2).trans rfl); (have kb3 := (blk_cell (blk_below hxb.out HB3.out) 3).trans rfl); (have kb4 := (blk_cell (blk_below hxb.out HB3.out) 4).trans rfl); (have kb5 := (blk_cell (blk_below hxb.out HB3.out) 5).trans rfl); clear hb3 CB2 iw) | (go_at_call 14; go_loud (with_reducible refine CV3.mono ?_); rintro e w4 ⟨va, rfl, hb4⟩; have HB4 := Aside0.mk (below_step HB3.out hb4); have iw := ib.out.below HB4.out; have CV4 := valid_c b hwb.out w4 (GG.below hg0.out HB4.out) iw.h3 iw.m3 iw.h4 iw.m4 iw.h5 iw.m5; clear ka0 ka1 ka2 ka3 ka4 ka5 kb0 kb1 kb2 kb3 kb4 kb5; (have ka0 := (blk_cell (blk_below hxa.out HB4.out) 0).trans rfl); (have ka1 := (blk_cell (blk_below hxa.out HB4.out) 1).trans rfl); (have ka2 := (blk_cell (blk_below hxa.out HB4.out) 2).trans rfl); (have ka3 := (blk_cell (blk_below hxa.out HB4.out) 3).trans rfl); (have ka4 := (blk_cell (blk_below hxa.out HB4.out) 4).trans rfl); (have ka5 := (blk_cell (blk_below hxa.out HB4.out) 5).trans rfl); (have kb0 := (blk_cell (blk_below hxb.out HB4.out) 0).trans rfl); (have kb1 := (blk_cell (blk_below hxb.out HB4.out) 1).trans rfl); (have kb2 := (blk_cell (blk_below hxb.out HB4.out) 2).trans rfl); (have kb3 := (blk_cell (blk_below hxb.out HB4.out) 3).trans rfl); (have kb4 := (blk_cell (blk_below hxb.out HB4.out) 4).trans rfl); (have kb5 := (blk_cell (blk_below hxb.out HB4.out) 5).trans rfl); clear hb4 CV3 iw) | (go_at_call 14; go_loud (with_reducible refine CV4.mono ?_); rintro e w5 ⟨vb, rfl, hb5⟩; have HB5 := Aside0.mk (below_step HB4.out hb5); clear hb5 CV4))
        all_goals go_meet
        all_goals (case rel => exact ⟨_, rfl, ⟨fun _ => by first | exact ⟨rfl, rfl⟩ | exact ⟨trivial, trivial⟩ | trivial⟩, by first | exact HB5 | exact HB4⟩)
  case rest =>
    obtain ⟨z, rfl, hz, HBc⟩ := hcut
    clear HB1
    rename World => wc
    have HBc := HBc
    cases z
    · have hab := hz.out (by first | rfl | trivial)
      have ha100 := (hca.out hab.1).2
      have hb100 := (hcb.out hab.2).2
      clear hz hca hcb CA CB hab hg0
      obtain ⟨na, hna⟩ : ∃ l, fx a [] [] = l := ⟨_, rfl⟩
      obtain ⟨nb, hnb⟩ : ∃ l, fx b [] [] = l := ⟨_, rfl⟩
      obtain ⟨bo, hbo⟩ : ∃ l, both a b = l := ⟨_, rfl⟩
      obtain ⟨nl, hnl⟩ : ∃ l, fx (exLet a b) [] [] = l := ⟨_, rfl⟩
      obtain ⟨nt, hnt⟩ : ∃ l, fx (exAlt a b) [] [] = l := ⟨_, rfl⟩
      obtain ⟨y, hy⟩ : ∃ y, isIn na sX = y := ⟨_, rfl⟩
      have hnp : fx (exP a b) [] [] = bo := (names_P a b).trans hbo
      have hbo' : putL (na ++ nb) [] = bo := by rw [← hna, ← hnb]; exact hbo
      have L1 : ∀ s ∈ bo, isIn nl s = !decide (s = sX) := fun s hs => by rw [← hnl]; exact has_let a b s (by rw [hbo]; exact hs)
      have L2 : ∀ s ∈ bo, isIn nt s = (!decide (s = sX) || y) := fun s hs => by rw [← hnt, ← hy, ← hna]; exact has_alt a b s (by rw [hbo]; exact hs)
      have L3 : isIn nl sX = false := by rw [← hnl]; exact has_letx a b
      have ka : cost a ≤ 200 := by have := cost_cn a; omega
      have kb : cost b ≤ 200 := by have := cost_cn b; omega
      have kP : cost (exP a b) ≤ 1000 := by simp only [exP, cost, costL, costA, List.length_nil]; omega
      have kL : cost (exLet a b) ≤ 1000 := by simp only [exLet, cost, costL, costA, List.length_cons, List.length_nil]; omega
      have kT : cost (exAlt a b) ≤ 1000 := by simp only [exAlt, cost, costL, costA, List.length_cons, List.length_nil]; omega
      have sxo : nsz [sX] = true := by decide
      have oP : okE (exP a b) = true := by simp [exP, okE, okL, okA, hoa.out, hob.out, nsz]; decide
      have oL : okE (exLet a b) = true := by simp [exLet, okE, okL, okA, hoa.out, hob.out, sxo]; decide
      have oT : okE (exAlt a b) = true := by simp [exAlt, okE, okL, okA, hoa.out, hob.out, sxo, nsz]; decide
      have la : Aside0 (na.length ≤ 1000) := ⟨by have h1 := fx_len a [] []; rw [hna] at h1; simp only [List.length_nil] at h1; omega⟩
      have lb : Aside0 (nb.length ≤ 1000) := ⟨by have h1 := fx_len b [] []; rw [hnb] at h1; simp only [List.length_nil] at h1; omega⟩
      have lo : Aside0 (bo.length ≤ 1000) := ⟨by have h1 := fx_len (exP a b) [] []; rw [hnp] at h1; simp only [List.length_nil] at h1; omega⟩
      have ll : Aside0 (nl.length ≤ 1000) := ⟨by have h1 := fx_len (exLet a b) [] []; rw [hnl] at h1; simp only [List.length_nil] at h1; omega⟩
      have lt : Aside0 (nt.length ≤ 1000) := ⟨by have h1 := fx_len (exAlt a b) [] []; rw [hnt] at h1; simp only [List.length_nil] at h1; omega⟩
      have hbo' := Aside0.mk hbo'
      have L1 := Aside0.mk L1
      have L2 := Aside0.mk L2
      have L3 := Aside0.mk L3
      have ic := Aside0.mk (ia.out.below HBc.out)
      have id := Aside0.mk (ib.out.below HBc.out)
      (have ka0 := (blk_cell (blk_below hxa.out HBc.out) 0).trans rfl)
      (have ka1 := (blk_cell (blk_below hxa.out HBc.out) 1).trans rfl)
      (have ka2 := (blk_cell (blk_below hxa.out HBc.out) 2).trans rfl)
      (have ka3 := (blk_cell (blk_below hxa.out HBc.out) 3).trans rfl)
      (have ka4 := (blk_cell (blk_below hxa.out HBc.out) 4).trans rfl)
      (have ka5 := (blk_cell (blk_below hxa.out HBc.out) 5).trans rfl)
      (have kb0 := (blk_cell (blk_below hxb.out HBc.out) 0).trans rfl)
      (have kb1 := (blk_cell (blk_below hxb.out HBc.out) 1).trans rfl)
      (have kb2 := (blk_cell (blk_below hxb.out HBc.out) 2).trans rfl)
      (have kb3 := (blk_cell (blk_below hxb.out HBc.out) 3).trans rfl)
      (have kb4 := (blk_cell (blk_below hxb.out HBc.out) 4).trans rfl)
      (have kb5 := (blk_cell (blk_below hxb.out HBc.out) 5).trans rfl)
      have CN1 := names_g a hoa.out (by omega) rfl rfl rfl rfl rfl rfl hna rfl wc (c3 := c3) (c4 := c4) (c5 := c5) ic.out.h3 ic.out.h4 ic.out.h5
      have CN2 : ∀ w1, Below W0.heap.size W0 w1 → _ := fun w1 hb => names_g b hob.out (by omega) rfl rfl rfl rfl rfl rfl hnb rfl w1 (c3 := d3) (c4 := d4) (c5 := d5) (ib.out.below hb).h3 (ib.out.below hb).h4 (ib.out.below hb).h5
      have CN3 : ∀ (w6 : World) (P : Addr) (c : Nat), k33.C w6 (some P) 2 [a, b] → _ := fun w6 P c hC => names_g (exP a b) oP (by omega) (f0 := 9) (f1 := ⟨#[43]⟩) (f2 := 0) (n3 := 0) (n4 := 2) (n5 := 0) rfl rfl rfl rfl rfl rfl hnp rfl w6 (A3 := none) (c3 := 0) (c4 := c) (A5 := none) (c5 := 0) (Kd.C_nil _ _) hC (Kd.C_nil _ _)
      have CN4 : ∀ (w6 : World) (X P : Addr), Kd.C Kd.string w6 (some X) 1 [sX] → k33.C w6 (some P) 2 [a, b] → _ := fun w6 X P hX hC => names_g (exLet a b) oL (by omega) (f0 := 7) (f1 := ⟨#[]⟩) (f2 := 0) (n3 := 1) (n4 := 2) (n5 := 0) rfl rfl rfl rfl rfl rfl hnl rfl w6 (c3 := 1) (c4 := 2) (A5 := none) (c5 := 0) hX hC (Kd.C_nil _ _)
      have CN5 : ∀ (w6 : World) (P Q : Addr), k33.C w6 (some P) 1 [a] → k40.C w6 (some Q) 1 [⟨1, ⟨#[67]⟩, 0, [sX], b⟩] → _ := fun w6 P Q hC hD => names_g (exAlt a b) oT (by omega) (f0 := 8) (f1 := ⟨#[]⟩) (f2 := 0) (n3 := 0) (n4 := 1) (n5 := 1) rfl rfl rfl rfl rfl rfl hnt rfl w6 (A3 := none) (c3 := 0) (c4 := 1) (c5 := 1) (Kd.C_nil _ _) hC hD
      have CN2 := Aside0.mk @CN2
      have CN3 := Aside0.mk @CN3
      have CN4 := Aside0.mk @CN4
      have CN5 := Aside0.mk @CN5
      clear ka kb kP kL kT sxo oP oL oT hoa hob ha100 hb100 hna hnb hbo hnl hnt hnp hW0
      have T1 : True := trivial
      go_wp2_with (first | (clear T1; go_at_call 15; go_loud (with_reducible refine (CN1).mono ?_); rintro e w1 ⟨A1, e1, rfl, he1, hC1, hb1⟩; have HB1 := Aside0.mk (below_step HBc.out hb1); have HC1 := Aside0.mk hC1; have CN2' := CN2.out w1 HB1.out; clear ka0 ka1 ka2 ka3 ka4 ka5 kb0 kb1 kb2 kb3 kb4 kb5; (have ka0 := (blk_cell (blk_below hxa.out HB1.out) 0).trans rfl); (have ka1 := (blk_cell (blk_below hxa.out HB1.out) 1).trans rfl); (have ka2 := (blk_cell (blk_below hxa.out HB1.out) 2).trans rfl); (have ka3 := (blk_cell (blk_below hxa.out HB1.out) 3).trans rfl); (have ka4 := (blk_cell (blk_below hxa.out HB1.out) 4).trans rfl); (have ka5 := (blk_cell (blk_below hxa.out HB1.out) 5).trans rfl); (have kb0 := (blk_cell (blk_below hxb.out HB1.out) 0).trans rfl); (have kb1 := (blk_cell (blk_below hxb.out HB1.out) 1).trans rfl); (have kb2 := (blk_cell (blk_below hxb.out HB1.out) 2).trans rfl); (have kb3 := (blk_cell (blk_below hxb.out HB1.out) 3).trans rfl); (have kb4 := (blk_cell (blk_below hxb.out HB1.out) 4).trans rfl); (have kb5 := (blk_cell (blk_below hxb.out HB1.out) 5).trans rfl); clear hC1 CN1; have T2 : True := trivial) | (clear T2; go_at_call 15; go_loud (with_reducible refine (CN2').mono ?_); rintro e w2 ⟨A2, e2, rfl, he2, hC2, hb2⟩; have HB2 := Aside0.mk (below_step HB1.out hb2); have HC2 := Aside0.mk hC2; have HC1b := Aside0.mk (Kd.C_below HC1.out hb2); have CT := Ext.texts_calls na w2 (by have := la.out; omega) (c := e1) HC1b.out; clear hC2 CN2'; have T3 : True := trivial) | (clear T3; go_at_call 11; go_loud (with_reducible refine (CT).mono ?_); rintro e w3 ⟨v3, rfl, hR3, hb3⟩; have HB3 := Aside0.mk (below_step HB2.out hb3); have HR3 := Aside0.mk hR3; have hb3 := Aside0.mk hb3; clear hR3 CT; have T4 : True := trivial) | (clear T4; (with_reducible refine gate_builtin (b := .append) (xs := #[.tmp 40, .tmp 41]) rfl ?_); at_builtin; go_loud (refine Kd.R_append_rows Kd.string (Rr := Kd.string.K w3) (w0 := w3) w2.heap.size rfl (.tmp 40) (.tmp 41) 22 9 (.string ⟨#[]⟩) 16 rfl Tryd.underlying22 inf9' rfl (by decide) (by decide) v3 na nb A2 nb.length e2 (fun _ => True) (fun _ => False) rfl rfl ?aR ?aC (fun _ _ h => h) (fun _ h => h.elim) (fun _ _ => trivial) ?aB ?aS ?aL ?_); (case aR => exact HR3.out); (case aC => exact Kd.C_below HC2.out hb3.out); (case aB => exact Below.refl _ _); (case aS => exact hb3.out.size); (case aL => have h1 := la.out; have h2 := lb.out; omega); intro v4 w4 hr4 hb4 hg4 hat4; have HX4 := Aside0.mk (hb3.out.trans hb4); have HB4 := Aside0.mk (HB3.out.trans (hb4.mono (by have h1 := HB2.out.size; exact h1))); obtain ⟨A4', e4, hv4⟩ := Kd.R_slice hr4; rw [List.length_append] at hv4; subst hv4; have hRr := Kd.R_reads' hr4; have CO := once_g (na ++ nb) (by rw [List.length_append]; have h1 := la.out; have h2 := lb.out; omega) List.length_append hbo'.out rfl w4 (A := A4') (c := e4) (by have := hRr.2.2; rwa [List.length_append] at this) hRr.2.1; have HC1d := Aside0.mk (Kd.C_below HC1b.out HX4.out); clear hr4 hb4 hg4 hat4 HR3 hb3 hRr HX4 HC1 HC2 HC1b HB3; have T5 : True := trivial) | (clear T5; go_at_call 16; go_loud (with_reducible refine (CO).mono ?_); rintro e w5 ⟨A6, e6, rfl, he6, hC6, hb5⟩; have HB5 := Aside0.mk (below_step HB4.out hb5); have HC6 := Aside0.mk hC6; have HC1e := Aside0.mk (Kd.C_below HC1d.out hb5); clear ka0 ka1 ka2 ka3 ka4 ka5 kb0 kb1 kb2 kb3 kb4 kb5; (have ka0 := (blk_cell (blk_below hxa.out HB5.out) 0).trans rfl); (have ka1 := (blk_cell (blk_below hxa.out HB5.out) 1).trans rfl); (have ka2 := (blk_cell (blk_below hxa.out HB5.out) 2).trans rfl); (have ka3 := (blk_cell (blk_below hxa.out HB5.out) 3).trans rfl); (have ka4 := (blk_cell (blk_below hxa.out HB5.out) 4).trans rfl); (have ka5 := (blk_cell (blk_below hxa.out HB5.out) 5).trans rfl); (have kb0 := (blk_cell (blk_below hxb.out HB5.out) 0).trans rfl); (have kb1 := (blk_cell (blk_below hxb.out HB5.out) 1).trans rfl); (have kb2 := (blk_cell (blk_below hxb.out HB5.out) 2).trans rfl); (have kb3 := (blk_cell (blk_below hxb.out HB5.out) 3).trans rfl); (have kb4 := (blk_cell (blk_below hxb.out HB5.out) 4).trans rfl); (have kb5 := (blk_cell (blk_below hxb.out HB5.out) 5).trans rfl); clear hC6 hb5 CO HC1d HB4; have T6 : True := trivial) | (clear T6; go_at_call 18; go_loud (with_reducible refine (p_calls _ _ _ _ _).mono ?_); rintro e w6 ⟨rfl, hb6⟩; have HB6 := Aside0.mk (below_step (below_alloc HB5.out _) hb6); have hP : k33.C w6 (some ⟨w5.heap.size, 0, none⟩) 2 [a, b] := C_cells (blk_below (blk_new w5 (.cells #[.int .i64 a.f0, .string a.f1, .int .i64 a.f2, .slice A3 a.f3.length c3, .slice A4 a.f4.length c4, .slice A5 a.f5.length c5, .int .i64 b.f0, .string b.f1, .int .i64 b.f2, .slice B3 b.f3.length d3, .slice B4 b.f4.length d4, .slice B5 b.f5.length d5] 33 (0, 0))) hb6) (Reps.c6 (ia.out.below HB6.out).K (Reps.c6 (ib.out.below HB6.out).K (Reps.none _ _))) (by simp); have hx6 := below_step (below_alloc (Below.refl w5.heap.size w5) (.cells #[.int .i64 a.f0, .string a.f1, .int .i64 a.f2, .slice A3 a.f3.length c3, .slice A4 a.f4.length c4, .slice A5 a.f5.length c5, .int .i64 b.f0, .string b.f1, .int .i64 b.f2, .slice B3 b.f3.length d3, .slice B4 b.f4.length d4, .slice B5 b.f5.length d5] 33)) hb6; have HC6f := Aside0.mk (Kd.C_below HC6.out hx6); have HC1f := Aside0.mk (Kd.C_below HC1e.out hx6); have CP := CN3.out w6 ⟨w5.heap.size, 0, none⟩ 2 hP; clear hb6 hP hx6 HC6 HC1e; have T7 : True := trivial) | (clear T7; go_at_call 15; go_loud (with_reducible refine (CP).mono ?_); rintro e w7 ⟨A7, e7, rfl, he7, hC7, hb7⟩; have HB7 := Aside0.mk (below_step HB6.out hb7); have HC6g := Aside0.mk (Kd.C_below HC6f.out hb7); have HC1g := Aside0.mk (Kd.C_below HC1f.out hb7); have CS := same_g bo (by have := lo.out; omega) rfl w7 hC7 he7 HC6g.out he6; clear hb7 hC7 CP HC6f HC1f HB6; have T8 : True := trivial) | (clear T8; go_at_call 17; go_loud (with_reducible refine (CS).mono ?_); rintro e w8 ⟨rfl, hb8⟩; have HB8 := Aside0.mk (below_step HB7.out hb8); have HC6h := Aside0.mk (Kd.C_below HC6g.out hb8); have HC1h := Aside0.mk (Kd.C_below HC1g.out hb8); have HBx := Aside0.mk (below_alloc HB8.out (.cells #[.string ⟨#[120]⟩] 9)); clear ka0 ka1 ka2 ka3 ka4 ka5 kb0 kb1 kb2 kb3 kb4 kb5; (have ka0 := (blk_cell (blk_below hxa.out HBx.out) 0).trans rfl); (have ka1 := (blk_cell (blk_below hxa.out HBx.out) 1).trans rfl); (have ka2 := (blk_cell (blk_below hxa.out HBx.out) 2).trans rfl); (have ka3 := (blk_cell (blk_below hxa.out HBx.out) 3).trans rfl); (have ka4 := (blk_cell (blk_below hxa.out HBx.out) 4).trans rfl); (have ka5 := (blk_cell (blk_below hxa.out HBx.out) 5).trans rfl); (have kb0 := (blk_cell (blk_below hxb.out HBx.out) 0).trans rfl); (have kb1 := (blk_cell (blk_below hxb.out HBx.out) 1).trans rfl); (have kb2 := (blk_cell (blk_below hxb.out HBx.out) 2).trans rfl); (have kb3 := (blk_cell (blk_below hxb.out HBx.out) 3).trans rfl); (have kb4 := (blk_cell (blk_below hxb.out HBx.out) 4).trans rfl); (have kb5 := (blk_cell (blk_below hxb.out HBx.out) 5).trans rfl); clear hb8 CS HC6g HC1g HB7; have T9 : True := trivial))
      have HBl := Aside0.mk (below_alloc HBx.out (.cells #[.int .i64 a.f0, .string a.f1, .int .i64 a.f2, .slice A3 a.f3.length c3, .slice A4 a.f4.length c4, .slice A5 a.f5.length c5, .int .i64 b.f0, .string b.f1, .int .i64 b.f2, .slice B3 b.f3.length d3, .slice B4 b.f4.length d4, .slice B5 b.f5.length d5] 33))
      have hXl : Kd.C Kd.string ((w8.alloc (.cells #[.string ⟨#[120]⟩] 9)).alloc (.cells #[.int .i64 a.f0, .string a.f1, .int .i64 a.f2, .slice A3 a.f3.length c3, .slice A4 a.f4.length c4, .slice A5 a.f5.length c5, .int .i64 b.f0, .string b.f1, .int .i64 b.f2, .slice B3 b.f3.length d3, .slice B4 b.f4.length d4, .slice B5 b.f5.length d5] 33)) (some ⟨w8.heap.size, 0, none⟩) 1 [sX] := Kd.C_alloc (Ext.c_str w8 ⟨#[120]⟩) _
      have hPl : k33.C ((w8.alloc (.cells #[.string ⟨#[120]⟩] 9)).alloc (.cells #[.int .i64 a.f0, .string a.f1, .int .i64 a.f2, .slice A3 a.f3.length c3, .slice A4 a.f4.length c4, .slice A5 a.f5.length c5, .int .i64 b.f0, .string b.f1, .int .i64 b.f2, .slice B3 b.f3.length d3, .slice B4 b.f4.length d4, .slice B5 b.f5.length d5] 33)) (some ⟨w8.heap.size + 1, 0, none⟩) 2 [a, b] := (by have h := C_cells (d := k33) (xs := [a, b]) (blk_new (w8.alloc (.cells #[.string ⟨#[120]⟩] 9)) (.cells #[.int .i64 a.f0, .string a.f1, .int .i64 a.f2, .slice A3 a.f3.length c3, .slice A4 a.f4.length c4, .slice A5 a.f5.length c5, .int .i64 b.f0, .string b.f1, .int .i64 b.f2, .slice B3 b.f3.length d3, .slice B4 b.f4.length d4, .slice B5 b.f5.length d5] 33 (0, 0))) (Reps.c6 (ia.out.below HBl.out).K (Reps.c6 (ib.out.below HBl.out).K (Reps.none _ _))) (by simp); rw [E] at h; exact h)
      have CL := CN4.out _ ⟨w8.heap.size, 0, none⟩ ⟨w8.heap.size + 1, 0, none⟩ hXl hPl
      have hx8 := Aside0.mk (below_alloc (below_alloc (Below.refl w8.heap.size w8) (.cells #[.string ⟨#[120]⟩] 9)) (.cells #[.int .i64 a.f0, .string a.f1, .int .i64 a.f2, .slice A3 a.f3.length c3, .slice A4 a.f4.length c4, .slice A5 a.f5.length c5, .int .i64 b.f0, .string b.f1, .int .i64 b.f2, .slice B3 b.f3.length d3, .slice B4 b.f4.length d4, .slice B5 b.f5.length d5] 33))
      clear hXl hPl
      refine CL.mono ?_
      rintro e w9 ⟨A9, e9, rfl, he9, hC9, hb9⟩
      have HB9 := Aside0.mk (below_step HBl.out hb9)
      have hx9 := below_step hx8.out hb9
      have HC6i := Aside0.mk (Kd.C_below HC6h.out hx9)
      have HC1i := Aside0.mk (Kd.C_below HC1h.out hx9)
      have HC9 := Aside0.mk hC9
      have HBm := Aside0.mk (below_alloc (below_alloc HB9.out (.cells #[.int .i64 a.f0, .string a.f1, .int .i64 a.f2, .slice A3 a.f3.length c3, .slice A4 a.f4.length c4, .slice A5 a.f5.length c5] 33)) (.cells #[.string ⟨#[120]⟩] 9))
      have HBn := Aside0.mk (below_alloc HBm.out (.cells #[.int .i64 1, .string ⟨#[67]⟩, .int .i64 0, .slice (some ⟨w9.heap.size + 1, 0, none⟩) 1 1, .int .i64 b.f0, .string b.f1, .int .i64 b.f2, .slice B3 b.f3.length d3, .slice B4 b.f4.length d4, .slice B5 b.f5.length d5] 40))
      clear ka0 ka1 ka2 ka3 ka4 ka5 kb0 kb1 kb2 kb3 kb4 kb5
      (have ka0 := (blk_cell (blk_below hxa.out HB9.out) 0).trans rfl)
      (have ka1 := (blk_cell (blk_below hxa.out HB9.out) 1).trans rfl)
      (have ka2 := (blk_cell (blk_below hxa.out HB9.out) 2).trans rfl)
      (have ka3 := (blk_cell (blk_below hxa.out HB9.out) 3).trans rfl)
      (have ka4 := (blk_cell (blk_below hxa.out HB9.out) 4).trans rfl)
      (have ka5 := (blk_cell (blk_below hxa.out HB9.out) 5).trans rfl)
      (have kb0 := (blk_cell (blk_below hxb.out HBm.out) 0).trans rfl)
      (have kb1 := (blk_cell (blk_below hxb.out HBm.out) 1).trans rfl)
      (have kb2 := (blk_cell (blk_below hxb.out HBm.out) 2).trans rfl)
      (have kb3 := (blk_cell (blk_below hxb.out HBm.out) 3).trans rfl)
      (have kb4 := (blk_cell (blk_below hxb.out HBm.out) 4).trans rfl)
      (have kb5 := (blk_cell (blk_below hxb.out HBm.out) 5).trans rfl)
      have hPm : k33.C (((w9.alloc (.cells #[.int .i64 a.f0, .string a.f1, .int .i64 a.f2, .slice A3 a.f3.length c3, .slice A4 a.f4.length c4, .slice A5 a.f5.length c5] 33)).alloc (.cells #[.string ⟨#[120]⟩] 9)).alloc (.cells #[.int .i64 1, .string ⟨#[67]⟩, .int .i64 0, .slice (some ⟨w9.heap.size + 1, 0, none⟩) 1 1, .int .i64 b.f0, .string b.f1, .int .i64 b.f2, .slice B3 b.f3.length d3, .slice B4 b.f4.length d4, .slice B5 b.f5.length d5] 40)) (some ⟨w9.heap.size, 0, none⟩) 1 [a] := Kd.C_below (C_cells (d := k33) (xs := [a]) (blk_new w9 (.cells #[.int .i64 a.f0, .string a.f1, .int .i64 a.f2, .slice A3 a.f3.length c3, .slice A4 a.f4.length c4, .slice A5 a.f5.length c5] 33 (0, 0))) (Reps.c6 (ia.out.below (below_alloc HB9.out (.cells #[.int .i64 a.f0, .string a.f1, .int .i64 a.f2, .slice A3 a.f3.length c3, .slice A4 a.f4.length c4, .slice A5 a.f5.length c5] 33))).K (Reps.none _ _)) (by simp)) (below_alloc (below_alloc (Below.refl _ _) _) _)
      have hXm : Kd.C Kd.string (((w9.alloc (.cells #[.int .i64 a.f0, .string a.f1, .int .i64 a.f2, .slice A3 a.f3.length c3, .slice A4 a.f4.length c4, .slice A5 a.f5.length c5] 33)).alloc (.cells #[.string ⟨#[120]⟩] 9)).alloc (.cells #[.int .i64 1, .string ⟨#[67]⟩, .int .i64 0, .slice (some ⟨w9.heap.size + 1, 0, none⟩) 1 1, .int .i64 b.f0, .string b.f1, .int .i64 b.f2, .slice B3 b.f3.length d3, .slice B4 b.f4.length d4, .slice B5 b.f5.length d5] 40)) (some ⟨w9.heap.size + 1, 0, none⟩) 1 [sX] := (by have h := Kd.C_alloc (Ext.c_str (w9.alloc (.cells #[.int .i64 a.f0, .string a.f1, .int .i64 a.f2, .slice A3 a.f3.length c3, .slice A4 a.f4.length c4, .slice A5 a.f5.length c5] 33)) ⟨#[120]⟩) (.cells #[.int .i64 1, .string ⟨#[67]⟩, .int .i64 0, .slice (some ⟨w9.heap.size + 1, 0, none⟩) 1 1, .int .i64 b.f0, .string b.f1, .int .i64 b.f2, .slice B3 b.f3.length d3, .slice B4 b.f4.length d4, .slice B5 b.f5.length d5] 40); rw [E] at h; exact h)
      have hQm : k40.C (((w9.alloc (.cells #[.int .i64 a.f0, .string a.f1, .int .i64 a.f2, .slice A3 a.f3.length c3, .slice A4 a.f4.length c4, .slice A5 a.f5.length c5] 33)).alloc (.cells #[.string ⟨#[120]⟩] 9)).alloc (.cells #[.int .i64 1, .string ⟨#[67]⟩, .int .i64 0, .slice (some ⟨w9.heap.size + 1, 0, none⟩) 1 1, .int .i64 b.f0, .string b.f1, .int .i64 b.f2, .slice B3 b.f3.length d3, .slice B4 b.f4.length d4, .slice B5 b.f5.length d5] 40)) (some ⟨w9.heap.size + 1 + 1, 0, none⟩) 1 [⟨1, ⟨#[67]⟩, 0, [sX], b⟩] := (by have ibn := ib.out.below HBn.out; have h := C_cells (d := k40) (xs := [⟨1, ⟨#[67]⟩, 0, [sX], b⟩]) (blk_new ((w9.alloc (.cells #[.int .i64 a.f0, .string a.f1, .int .i64 a.f2, .slice A3 a.f3.length c3, .slice A4 a.f4.length c4, .slice A5 a.f5.length c5] 33)).alloc (.cells #[.string ⟨#[120]⟩] 9)) (.cells #[.int .i64 1, .string ⟨#[67]⟩, .int .i64 0, .slice (some ⟨w9.heap.size + 1, 0, none⟩) 1 1, .int .i64 b.f0, .string b.f1, .int .i64 b.f2, .slice B3 b.f3.length d3, .slice B4 b.f4.length d4, .slice B5 b.f5.length d5] 40 (0, 0))) (Reps.c10 (k40_mk _ ⟨1, ⟨#[67]⟩, 0, [sX], b⟩ (c3 := 1) (Nat.le_refl _) hXm ibn.m3 ibn.h3 ibn.m4 ibn.h4 ibn.m5 ibn.h5) (Reps.none _ _)) (by simp); rw [E, E] at h; exact h)
      have CT5 := CN5.out _ ⟨w9.heap.size, 0, none⟩ ⟨w9.heap.size + 1 + 1, 0, none⟩ hPm hQm
      have hx10 := Aside0.mk (below_alloc (below_alloc (below_alloc (Below.refl w9.heap.size w9) (.cells #[.int .i64 a.f0, .string a.f1, .int .i64 a.f2, .slice A3 a.f3.length c3, .slice A4 a.f4.length c4, .slice A5 a.f5.length c5] 33)) (.cells #[.string ⟨#[120]⟩] 9)) (.cells #[.int .i64 1, .string ⟨#[67]⟩, .int .i64 0, .slice (some ⟨w9.heap.size + 1, 0, none⟩) 1 1, .int .i64 b.f0, .string b.f1, .int .i64 b.f2, .slice B3 b.f3.length d3, .slice B4 b.f4.length d4, .slice B5 b.f5.length d5] 40))
      clear hPm hXm hQm CL hC9 hb9 hx9 HC6h HC1h HBl
      have T10 : True := trivial
      go_wp2_with (first | (clear T10; go_at_call 15; go_loud (with_reducible refine (CT5).mono ?_); rintro e w10 ⟨A10, e10, rfl, he10, hC10, hb10⟩; have HB10 := Aside0.mk (below_step HBn.out hb10); have hx11 := below_step hx10.out hb10; have HC6j := Aside0.mk (Kd.C_below HC6i.out hx11); have HC1j := Aside0.mk (Kd.C_below HC1i.out hx11); have HC9j := Aside0.mk (Kd.C_below HC9.out hx11); have HC10 := Aside0.mk hC10; clear CT5 hC10 hb10 hx11 HC6i HC1i HC9 HBn HBm; clear ka0 ka1 ka2 ka3 ka4 ka5 kb0 kb1 kb2 kb3 kb4 kb5; have T11 : True := trivial))
      have hB10 := Aside0.mk (Below.refl w10.heap.size w10)
      clear T11
      go_loopg [11] (bo.length + 1) (fun kq v11 w' => ∃ i : Nat, v11 = .int .i64 (i : Int) ∧ i + kq = bo.length + 1 ∧ 1 ≤ kq ∧ Aside0 (Below w10.heap.size w10 w'))
      case atStart => exact ⟨0, rfl, by omega, by omega, hB10⟩
      case round =>
        clear hB10
        obtain ⟨i, rfl, hi, hk, hBr⟩ := hrel
        have K6 := Aside0.mk (Kd.C_below HC6j.out hBr.out)
        have K1 := Aside0.mk (Kd.C_below HC1j.out hBr.out)
        have K9 := Aside0.mk (Kd.C_below HC9j.out hBr.out)
        have KA := Aside0.mk (Kd.C_below HC10.out hBr.out)
        have T1 : True := trivial
        by_cases hlt : i < bo.length
        · obtain ⟨ad, rfl, hv⟩ := at_str K6.out i hlt hlt
          have hl1 := L1.out _ (List.getElem_mem hlt)
          have hl2 := L2.out _ (List.getElem_mem hlt)
          generalize bo[i] = s at hv hl1 hl2
          obtain ⟨z, hzz⟩ : ∃ z, decide (s = sX) = z := ⟨_, rfl⟩
          rw [hzz] at hl1 hl2
          have hq : (s.toList == ([120] : List UInt8)) = z := by rw [← hzz]; exact isX s
          have p0 : (0 : Int) ≤ (i : Int) := by omega
          have p1 : (i : Int) < (bo.length : Int) := by omega
          have q1 : decide ((i : Int) < (bo.length : Int)) = true := decide_eq_true p1
          have hjn : Value.int .i64 (wrap64 ((i : Int) + 1)) = .int .i64 ((i + 1 : Nat) : Int) := by rw [wr1 i (by have := lo.out; omega)]
          have hi7 : i + 1 + (gk - 1) = bo.length + 1 ∧ 1 ≤ gk - 1 ∧ gk - 1 < gk := by omega
          have hy' := Aside0.mk hy
          cases z
          · have CL1 := has_g nl (by have := ll.out; omega) rfl s (b := true) hl1 wr K9.out he9
            have CL2 : ∀ w2, Below wr.heap.size wr w2 → _ := fun w2 hb => has_g nt (by have := lt.out; omega) rfl s (b := true) hl2 w2 (Kd.C_below KA.out hb) he10
            clear hl1 hl2 hzz hy
            go_wp2_with (first | (clear T1; go_at_call 12; go_loud (with_reducible refine (CL1).mono ?_); rintro e w2 ⟨rfl, hb2⟩; have hv2 := (hb2.cell (World.block_lt_of_cell? _ _ hv)).trans hv; have hb2 := Aside0.mk hb2; have CL2' := CL2 w2 hb2.out; clear CL1 CL2; have T2 : True := trivial) | (clear T2; go_at_call 12; go_loud (with_reducible refine (CL2').mono ?_); rintro e w3 ⟨rfl, hb3⟩; have HBz := Aside0.mk (below_step (below_step hBr.out hb2.out) hb3); clear hb3 CL2'; have T3 : True := trivial))
            go_roundg (gk - 1)
            case measure => exact hi7.2.2
            case rel => exact ⟨i + 1, by first | exact hjn | rfl, hi7.1, hi7.2.1, HBz⟩
          · have CL1 := has_g nl (by have := ll.out; omega) rfl s (b := false) hl1 wr K9.out he9
            have CL2 : ∀ w2, Below wr.heap.size wr w2 → _ := fun w2 hb => has_g nt (by have := lt.out; omega) rfl s (b := y) hl2 w2 (Kd.C_below KA.out hb) he10
            have CL3 : ∀ w2, Below wr.heap.size wr w2 → _ := fun w2 hb => has_g na (by have := la.out; omega) rfl (⟨#[120]⟩ : ByteArray) (b := y) hy'.out w2 (Kd.C_below K1.out hb) he1
            clear hl1 hl2 hzz hy
            cases y
            · skip
              go_wp2_with (first | (clear T1; go_at_call 12; go_loud (with_reducible refine (CL1).mono ?_); rintro e w2 ⟨rfl, hb2⟩; have hv2 := (hb2.cell (World.block_lt_of_cell? _ _ hv)).trans hv; have hb2 := Aside0.mk hb2; have CL2' := CL2 w2 hb2.out; clear CL1 CL2; have T2 : True := trivial) | (clear T2; go_at_call 12; go_loud (with_reducible refine (CL2').mono ?_); rintro e w3 ⟨rfl, hb3⟩; have hb3 := Aside0.mk (below_step hb2.out hb3); have CL3' := CL3 w3 hb3.out; clear CL2' CL3; have T3 : True := trivial) | (clear T3; go_at_call 12; go_loud (with_reducible refine (CL3').mono ?_); rintro e w4 ⟨rfl, hb4⟩; have HBz := Aside0.mk (below_step (below_step hBr.out hb3.out) hb4); clear hb4 CL3'; have T4 : True := trivial))
              go_roundg (gk - 1)
              case measure => exact hi7.2.2
              case rel => exact ⟨i + 1, by first | exact hjn | rfl, hi7.1, hi7.2.1, HBz⟩
            · skip
              go_wp2_with (first | (clear T1; go_at_call 12; go_loud (with_reducible refine (CL1).mono ?_); rintro e w2 ⟨rfl, hb2⟩; have hv2 := (hb2.cell (World.block_lt_of_cell? _ _ hv)).trans hv; have hb2 := Aside0.mk hb2; have CL2' := CL2 w2 hb2.out; clear CL1 CL2; have T2 : True := trivial) | (clear T2; go_at_call 12; go_loud (with_reducible refine (CL2').mono ?_); rintro e w3 ⟨rfl, hb3⟩; have hb3 := Aside0.mk (below_step hb2.out hb3); have CL3' := CL3 w3 hb3.out; clear CL2' CL3; have T3 : True := trivial) | (clear T3; go_at_call 12; go_loud (with_reducible refine (CL3').mono ?_); rintro e w4 ⟨rfl, hb4⟩; have HBz := Aside0.mk (below_step (below_step hBr.out hb3.out) hb4); clear hb4 CL3'; have T4 : True := trivial))
              go_roundg (gk - 1)
              case measure => exact hi7.2.2
              case rel => exact ⟨i + 1, by first | exact hjn | rfl, hi7.1, hi7.2.1, HBz⟩
        · have q1 : decide ((i : Int) < (bo.length : Int)) = false := decide_eq_false (by omega)
          have CL1 := has_g nl (by have := ll.out; omega) rfl (⟨#[120]⟩ : ByteArray) (b := false) L3.out wr K9.out he9
          go_wp2_with (first | (clear T1; go_at_call 12; go_loud (with_reducible refine (CL1).mono ?_); rintro e w2 ⟨rfl, hb2⟩; have HBz := Aside0.mk (below_step hBr.out hb2); clear hb2 CL1; have T2 : True := trivial))
          go_ret
          exact ⟨rfl, HB0.out.trans ((HB10.out.trans (HBz.out.mono HB10.out.size)).mono HB0.out.size)⟩
    · go_wp2
      go_ret
      exact ⟨rfl, HB0.out.trans (HBc.out.mono HB0.out.size)⟩
theorem lets_row (a b : S33) (w : World) (hg : GG w) (ra : RW a) {A3 A4 A5 : Option Addr} {c3 c4 c5 : Nat} (ia : In w a A3 A4 A5 c3 c4 c5) (rb : RW b) {B3 B4 B5 : Option Addr} {d3 d4 d5 : Nat} (ib : In w b B3 B4 B5 d3 d4 d5) :
    Calls Tryd.prog 4 #[.agg #[.int .i64 a.f0, .string a.f1, .int .i64 a.f2, .slice A3 a.f3.length c3, .slice A4 a.f4.length c4, .slice A5 a.f5.length c5], .agg #[.int .i64 b.f0, .string b.f1, .int .i64 b.f2, .slice B3 b.f3.length d3, .slice B4 b.f4.length d4, .slice B5 b.f5.length d5]] w fun e w' => e = .returned (.bool true) ∧ Below w.heap.size w w' := lets_walk a b ra rb w hg ia ib
end Go.Proofs.YtmoeekidmkhkoaaDoor.FreeA

