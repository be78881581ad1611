/- FreeBinds: its walk. Conditions: the library's table of powers of ten reads as it is laid; what came in is of a size that memory has room for. -/
import Derived.Test.YtmoeekidmkhkoaaDoorCFreeSX
import Derived.Test.YtmoeekidmkhkoaaDoorCFreeLR
namespace Go.Proofs.YtmoeekidmkhkoaaDoor.FreeA
open Go.RowKit Go.Proofs.YtmoeekidmkhkoaaDoorW.PrintWords Go.Proofs.YtmoeekidmkhkoaaDoorW.PrintLast Go.Proofs.YtmoeekidmkhkoaaDoorW.PrintMore Go.Proofs.YtmoeekidmkhkoaaDoor.PFreeA
set_option linter.unusedVariables false
set_option linter.unusedSimpArgs false
theorem six {W : World} {b t : Nat} {v0 v1 v2 v3 v4 v5 : Value} (h : W.heap[b]? = some (.cells #[v0, v1, v2, v3, v4, v5] t (0, 0))) : W.cell? ⟨b, 0, none⟩ = some v0 ∧ W.cell? ⟨b, 1, none⟩ = some v1 ∧ W.cell? ⟨b, 2, none⟩ = some v2 ∧ W.cell? ⟨b, 3, none⟩ = some v3 ∧ W.cell? ⟨b, 4, none⟩ = some v4 ∧ W.cell? ⟨b, 5, none⟩ = some v5 := ⟨(blk_cell h 0).trans rfl, (blk_cell h 1).trans rfl, (blk_cell h 2).trans rfl, (blk_cell h 3).trans rfl, (blk_cell h 4).trans rfl, (blk_cell h 5).trans rfl⟩
theorem cat6 {W : World} {b t : Nat} {v0 v1 v2 v3 v4 v5 : Value} {R : Prop} (h : W.heap[b]? = some (.cells #[v0, v1, v2, v3, v4, v5] t (0, 0))) (r : R) : W.cell? ⟨b, 0, none⟩ = some v0 ∧ W.cell? ⟨b, 1, none⟩ = some v1 ∧ W.cell? ⟨b, 2, none⟩ = some v2 ∧ W.cell? ⟨b, 3, none⟩ = some v3 ∧ W.cell? ⟨b, 4, none⟩ = some v4 ∧ W.cell? ⟨b, 5, none⟩ = some v5 ∧ R := ⟨(blk_cell h 0).trans rfl, (blk_cell h 1).trans rfl, (blk_cell h 2).trans rfl, (blk_cell h 3).trans rfl, (blk_cell h 4).trans rfl, (blk_cell h 5).trans rfl, r⟩
theorem substF_calls (s : ByteArray) (y e : S33) (hc : CLN s y (exF s e)) (w : World) {X3 X4 Y3 Y4 Y5 : Option Addr} {z3 z4 z5 : Nat} (i1 : In w (exF s e) X3 X4 none 1 1 0) (i2 : In w y Y3 Y4 Y5 z3 z4 z5) :
  Calls Tryd.prog 23 #[.agg #[.int .i64 6, .string ⟨#[]⟩, .int .i64 0, .slice X3 1 1, .slice X4 1 1, .slice none 0 0], .string s, .agg #[.int .i64 y.f0, .string y.f1, .int .i64 y.f2, .slice Y3 y.f3.length z3, .slice Y4 y.f4.length z4, .slice Y5 y.f5.length z5]] w fun r w' => ∃ B3 B4 B5 d3 d4 d5, r = .returned (.agg #[.int .i64 6, .string ⟨#[]⟩, .int .i64 0, .slice B3 1 d3, .slice B4 1 d4, .slice B5 0 d5]) ∧ FIn w' w.heap.size (exF s e) B3 B4 B5 d3 d4 d5 ∧ Below w.heap.size w w' :=
 subst_calls hc (cl_F s y e) w i1 i2
theorem sameF_calls (s : ByteArray) (e : S33) (hs : SE (exF s e)) (w : World) {X3 X4 Y3 Y4 Y5 : Option Addr} {z3 z4 z5 : Nat} (i1 : In w (exF s e) Y3 Y4 Y5 z3 z4 z5) (i2 : In w (exF s e) X3 X4 none 1 1 0) :
  Calls Tryd.prog 22 #[.agg #[.int .i64 6, .string ⟨#[]⟩, .int .i64 0, .slice Y3 1 z3, .slice Y4 1 z4, .slice Y5 0 z5], .agg #[.int .i64 6, .string ⟨#[]⟩, .int .i64 0, .slice X3 1 1, .slice X4 1 1, .slice none 0 0]] w fun x w' => x = .returned (.bool true) ∧ Below w.heap.size w w' :=
 hs.at w i1 i2
set_option maxHeartbeats 32000000 in
set_option maxRecDepth 100000 in
theorem binds_walk (a b : S33) (s : ByteArray) (ra : RW a) (rb : RW b) (hss : s.size ≤ 140737488351232) (w : World) (hg : GG w) {A3 A4 A5 : Option Addr} {c3 c4 c5 : Nat} {B3 B4 B5 : Option Addr} {d3 d4 d5 : Nat} (ia : In w a A3 A4 A5 c3 c4 c5) (ib : In w b B3 B4 B5 d3 d4 d5) :
  Calls Tryd.prog 5 #[.agg #[.int .i64 a.f0, .string a.f1, .int .i64 a.f2, .slice A3 a.f3.length c3, .slice A4 a.f4.length c4, .slice A5 a.f5.length c5], .agg #[.int .i64 b.f0, .string b.f1, .int .i64 b.f2, .slice B3 b.f3.length d3, .slice B4 b.f4.length d4, .slice B5 b.f5.length d5], .string s] w fun e w' => e = .returned (.bool true) ∧ Below w.heap.size w w' := by
 have E : ∀ W : World, ∀ o : Obj, (W.alloc o).heap.size = W.heap.size + 1 := fun W o => Array.size_push _
 obtain ⟨ba, hba, CA⟩ := expr_m a ra 150 (by decide) (by decide)
 obtain ⟨bb, hbb, CB⟩ := expr_m b rb 40 (by decide) (by decide)
 obtain ⟨bn, CM⟩ := name_c s hss
 have hca : Aside0 (ba = true → WF a ∧ cn a ≤ 150) := ⟨fun h => ⟨wf_of _ a (Nat.le_refl _) ra (by have := hba h; omega), by have := hba h; omega⟩⟩
 have hcb : Aside0 (bb = true → WF b ∧ cn b ≤ 40) := ⟨fun h => ⟨wf_of _ b (Nat.le_refl _) rb (by have := hbb h; omega), by have := hbb h; omega⟩⟩
 have hoa := Aside0.mk (okE_of a ra)
 have hob := Aside0.mk (okE_of b rb)
 have hss := Aside0.mk hss
 obtain ⟨W0, hW0⟩ : ∃ W0, (w.alloc (.cells #[.int .i64 a.f0, .string a.f1, .int .i64 a.f2, .slice A3 a.f3.length c3, .slice A4 a.f4.length c4, .slice A5 a.f5.length c5] 33)).alloc (.cells #[.int .i64 b.f0, .string b.f1, .int .i64 b.f2, .slice B3 b.f3.length d3, .slice B4 b.f4.length d4, .slice B5 b.f5.length d5] 33) = W0 := ⟨_, rfl⟩
 have HB0 : Aside0 (Below w.heap.size w W0) := ⟨by rw [← hW0]; exact below_alloc (below_alloc (Below.refl _ _) _) _⟩
 have hxa : Aside0 (W0.heap[w.heap.size]? = some (.cells #[.int .i64 a.f0, .string a.f1, .int .i64 a.f2, .slice A3 a.f3.length c3, .slice A4 a.f4.length c4, .slice A5 a.f5.length c5] 33 (0, 0))) := ⟨by rw [← hW0]; exact (Below.heap_alloc _ _ _ (by rw [E]; omega)).trans (blk_new w _)⟩
 have hxb : Aside0 (W0.heap[w.heap.size + 1]? = some (.cells #[.int .i64 b.f0, .string b.f1, .int .i64 b.f2, .slice B3 b.f3.length d3, .slice B4 b.f4.length d4, .slice B5 b.f5.length d5] 33 (0, 0))) := ⟨by rw [← hW0, ← E w]; exact blk_new _ _⟩
 have ia := Aside0.mk (ia.below HB0.out)
 have ib := Aside0.mk (ib.below HB0.out)
 have hg0 := Aside0.mk (GG.below hg HB0.out)
 have CA := Aside0.mk (@CA)
 have CB := Aside0.mk (@CB)
 have CM := Aside0.mk CM
 clear hba hbb ra rb hg
 go_enter Tryd.func5, Tryd.ntmps5
 go_upto_region 4 with (first | (go_at_call 7; (try rw [hW0]); go_loud (with_reducible refine (Ext.first_calls W0).mono ?_); rintro e w1 ⟨rfl, hb1⟩; have HB1 := Aside0.mk hb1; clear hb1))
 go_cut [39] (fun v39 wc => ∃ z : Bool, v39 = .bool z ∧ Aside0 (z = false → ba = true ∧ bb = true ∧ Shp a) ∧ Aside0 (Below W0.heap.size W0 wc))
 case first => as_aux_lemma =>
  clear hW0
  (have ka0 := (blk_cell (blk_below hxa.out HB1.out) 0).trans rfl)
  (have ka1 := (blk_cell (blk_below hxa.out HB1.out) 1).trans rfl)
  (have ka2 := (blk_cell (blk_below hxa.out HB1.out) 2).trans rfl)
  (have ka3 := (blk_cell (blk_below hxa.out HB1.out) 3).trans rfl)
  (have ka4 := (blk_cell (blk_below hxa.out HB1.out) 4).trans rfl)
  (have ka5 := (blk_cell (blk_below hxa.out HB1.out) 5).trans rfl)
  (have kb0 := (blk_cell (blk_below hxb.out HB1.out) 0).trans rfl)
  (have kb1 := (blk_cell (blk_below hxb.out HB1.out) 1).trans rfl)
  (have kb2 := (blk_cell (blk_below hxb.out HB1.out) 2).trans rfl)
  (have kb3 := (blk_cell (blk_below hxb.out HB1.out) 3).trans rfl)
  (have kb4 := (blk_cell (blk_below hxb.out HB1.out) 4).trans rfl)
  (have kb5 := (blk_cell (blk_below hxb.out HB1.out) 5).trans rfl)
  have CA1 := CA.out w1 (ia.out.below HB1.out)
  cases ba
  ·go_wp2_with (first | (go_at_call 13; go_loud (with_reducible refine CA1.mono ?_); rintro e w2 ⟨rfl, hb2⟩; have HB2 := Aside0.mk (below_step HB1.out hb2); clear hb2 CA1))
   go_meet
   case rel => exact ⟨true, rfl, ⟨fun h => by cases h⟩, HB2⟩
  ·have hwa := Aside0.mk (hca.out rfl).1
   cases bb
   ·go_wp2_with (first | (go_at_call 13; go_loud (with_reducible refine CA1.mono ?_); rintro e w2 ⟨rfl, hb2⟩; have HB2 := Aside0.mk (below_step HB1.out hb2); have CB2 := CB.out w2 (ib.out.below HB2.out); clear ka0 kb0 ka1 kb1 ka2 kb2 ka3 kb3 ka4 kb4 ka5 kb5; (have ka0 := (blk_cell (blk_below hxa.out HB2.out) 0).trans rfl); (have ka1 := (blk_cell (blk_below hxa.out HB2.out) 1).trans rfl); (have ka2 := (blk_cell (blk_below hxa.out HB2.out) 2).trans rfl); (have ka3 := (blk_cell (blk_below hxa.out HB2.out) 3).trans rfl); (have ka4 := (blk_cell (blk_below hxa.out HB2.out) 4).trans rfl); (have ka5 := (blk_cell (blk_below hxa.out HB2.out) 5).trans rfl); (have kb0 := (blk_cell (blk_below hxb.out HB2.out) 0).trans rfl); (have kb1 := (blk_cell (blk_below hxb.out HB2.out) 1).trans rfl); (have kb2 := (blk_cell (blk_below hxb.out HB2.out) 2).trans rfl); (have kb3 := (blk_cell (blk_below hxb.out HB2.out) 3).trans rfl); (have kb4 := (blk_cell (blk_below hxb.out HB2.out) 4).trans rfl); (have kb5 := (blk_cell (blk_below hxb.out HB2.out) 5).trans rfl); clear hb2 CA1) | (go_at_call 13; go_loud (with_reducible refine CB2.mono ?_); rintro e w3 ⟨rfl, hb3⟩; have HB3 := Aside0.mk (below_step HB2.out hb3); clear hb3 CB2))
    go_meet
    case rel => exact ⟨true, rfl, ⟨fun h => by cases h⟩, HB3⟩
   ·have hwb := Aside0.mk (hcb.out rfl).1
    cases bn
    ·go_wp2_with (first | (go_at_call 13; go_loud (with_reducible refine CA1.mono ?_); rintro e w2 ⟨rfl, hb2⟩; have HB2 := Aside0.mk (below_step HB1.out hb2); have CB2 := CB.out w2 (ib.out.below HB2.out); clear ka0 kb0 ka1 kb1 ka2 kb2 ka3 kb3 ka4 kb4 ka5 kb5; (have ka0 := (blk_cell (blk_below hxa.out HB2.out) 0).trans rfl); (have ka1 := (blk_cell (blk_below hxa.out HB2.out) 1).trans rfl); (have ka2 := (blk_cell (blk_below hxa.out HB2.out) 2).trans rfl); (have ka3 := (blk_cell (blk_below hxa.out HB2.out) 3).trans rfl); (have ka4 := (blk_cell (blk_below hxa.out HB2.out) 4).trans rfl); (have ka5 := (blk_cell (blk_below hxa.out HB2.out) 5).trans rfl); (have kb0 := (blk_cell (blk_below hxb.out HB2.out) 0).trans rfl); (have kb1 := (blk_cell (blk_below hxb.out HB2.out) 1).trans rfl); (have kb2 := (blk_cell (blk_below hxb.out HB2.out) 2).trans rfl); (have kb3 := (blk_cell (blk_below hxb.out HB2.out) 3).trans rfl); (have kb4 := (blk_cell (blk_below hxb.out HB2.out) 4).trans rfl); (have kb5 := (blk_cell (blk_below hxb.out HB2.out) 5).trans rfl); clear hb2 CA1) | (go_at_call 13; go_loud (with_reducible refine CB2.mono ?_); rintro e w3 ⟨rfl, hb3⟩; have HB3 := Aside0.mk (below_step HB2.out hb3); have CM3 := CM.out w3; clear hb3 CB2) | (go_at_call 19; go_loud (with_reducible refine CM3.mono ?_); rintro e w4 ⟨rfl, hb4⟩; have HB4 := Aside0.mk (below_step HB3.out hb4); clear hb4 CM3))
     go_meet
     case rel => exact ⟨true, rfl, ⟨fun h => by cases h⟩, HB4⟩
    ·go_wp2_with (first | (go_at_call 13; go_loud (with_reducible refine CA1.mono ?_); rintro e w2 ⟨rfl, hb2⟩; have HB2 := Aside0.mk (below_step HB1.out hb2); have CB2 := CB.out w2 (ib.out.below HB2.out); clear ka0 kb0 ka1 kb1 ka2 kb2 ka3 kb3 ka4 kb4 ka5 kb5; (have ka0 := (blk_cell (blk_below hxa.out HB2.out) 0).trans rfl); (have ka1 := (blk_cell (blk_below hxa.out HB2.out) 1).trans rfl); (have ka2 := (blk_cell (blk_below hxa.out HB2.out) 2).trans rfl); (have ka3 := (blk_cell (blk_below hxa.out HB2.out) 3).trans rfl); (have ka4 := (blk_cell (blk_below hxa.out HB2.out) 4).trans rfl); (have ka5 := (blk_cell (blk_below hxa.out HB2.out) 5).trans rfl); (have kb0 := (blk_cell (blk_below hxb.out HB2.out) 0).trans rfl); (have kb1 := (blk_cell (blk_below hxb.out HB2.out) 1).trans rfl); (have kb2 := (blk_cell (blk_below hxb.out HB2.out) 2).trans rfl); (have kb3 := (blk_cell (blk_below hxb.out HB2.out) 3).trans rfl); (have kb4 := (blk_cell (blk_below hxb.out HB2.out) 4).trans rfl); (have kb5 := (blk_cell (blk_below hxb.out HB2.out) 5).trans rfl); clear hb2 CA1) | (go_at_call 13; go_loud (with_reducible refine CB2.mono ?_); rintro e w3 ⟨rfl, hb3⟩; have HB3 := Aside0.mk (below_step HB2.out hb3); have CM3 := CM.out w3; clear hb3 CB2) | (go_at_call 19; go_loud (with_reducible refine CM3.mono ?_); rintro e w4 ⟨rfl, hb4⟩; have HB4 := Aside0.mk (below_step HB3.out hb4); have CV4 := valid_s a hwa.out w4 (GG.below hg0.out HB4.out) (ia.out.below HB4.out); clear ka0 kb0 ka1 kb1 ka2 kb2 ka3 kb3 ka4 kb4 ka5 kb5; (have ka0 := (blk_cell (blk_below hxa.out HB4.out) 0).trans rfl); (have ka1 := (blk_cell (blk_below hxa.out HB4.out) 1).trans rfl); (have ka2 := (blk_cell (blk_below hxa.out HB4.out) 2).trans rfl); (have ka3 := (blk_cell (blk_below hxa.out HB4.out) 3).trans rfl); (have ka4 := (blk_cell (blk_below hxa.out HB4.out) 4).trans rfl); (have ka5 := (blk_cell (blk_below hxa.out HB4.out) 5).trans rfl); (have kb0 := (blk_cell (blk_below hxb.out HB4.out) 0).trans rfl); (have kb1 := (blk_cell (blk_below hxb.out HB4.out) 1).trans rfl); (have kb2 := (blk_cell (blk_below hxb.out HB4.out) 2).trans rfl); (have kb3 := (blk_cell (blk_below hxb.out HB4.out) 3).trans rfl); (have kb4 := (blk_cell (blk_below hxb.out HB4.out) 4).trans rfl); (have kb5 := (blk_cell (blk_below hxb.out HB4.out) 5).trans rfl); clear hb4 CM3) | (go_at_call 14; go_loud (with_reducible refine CV4.mono ?_); rintro e w5 ⟨va, rfl, hva, hb5⟩; have HB5 := Aside0.mk (below_step HB4.out hb5); have hva := Aside0.mk hva; have CV5 := valid_s b hwb.out w5 (GG.below hg0.out HB5.out) (ib.out.below HB5.out); clear ka0 kb0 ka1 kb1 ka2 kb2 ka3 kb3 ka4 kb4 ka5 kb5; (have ka0 := (blk_cell (blk_below hxa.out HB5.out) 0).trans rfl); (have ka1 := (blk_cell (blk_below hxa.out HB5.out) 1).trans rfl); (have ka2 := (blk_cell (blk_below hxa.out HB5.out) 2).trans rfl); (have ka3 := (blk_cell (blk_below hxa.out HB5.out) 3).trans rfl); (have ka4 := (blk_cell (blk_below hxa.out HB5.out) 4).trans rfl); (have ka5 := (blk_cell (blk_below hxa.out HB5.out) 5).trans rfl); (have kb0 := (blk_cell (blk_below hxb.out HB5.out) 0).trans rfl); (have kb1 := (blk_cell (blk_below hxb.out HB5.out) 1).trans rfl); (have kb2 := (blk_cell (blk_below hxb.out HB5.out) 2).trans rfl); (have kb3 := (blk_cell (blk_below hxb.out HB5.out) 3).trans rfl); (have kb4 := (blk_cell (blk_below hxb.out HB5.out) 4).trans rfl); (have kb5 := (blk_cell (blk_below hxb.out HB5.out) 5).trans rfl); clear hb5 CV4) | (go_at_call 14; go_loud (with_reducible refine CV5.mono ?_); rintro e w6 ⟨vb, rfl, _, hb6⟩; have HB6 := Aside0.mk (below_step HB5.out hb6); clear hb6 CV5))
     all_goals go_meet
     all_goals (case rel => exact ⟨_, rfl, ⟨fun h => by first | exact ⟨rfl, rfl, hva.out (by first | rfl | assumption | trivial)⟩ | exact ⟨trivial, trivial, hva.out (by first | rfl | assumption | trivial)⟩ | cases h | trivial⟩, by first | exact HB6 | exact HB5⟩)
 case rest =>
  obtain ⟨z, rfl, hz, HBc⟩ := hcut
  clear HB1
  rename World => wc
  have HBc := HBc
  cases z
  ·have hab := hz.out (by first | rfl | trivial)
   have ha1 := (hca.out hab.1).2
   have hb1 := (hcb.out hab.2.1).2
   have hsp := Aside0.mk hab.2.2
   clear hz hca hcb CA CB hab hg0 CM
   obtain ⟨na, hna⟩ : ∃ l, fx a [] [] = l := ⟨_, rfl⟩
   obtain ⟨nb, hnb⟩ : ∃ l, fx b [] [] = l := ⟨_, rfl⟩
   obtain ⟨nm, hnm⟩ : ∃ l, fx (exF s a) [] [] = l := ⟨_, rfl⟩
   obtain ⟨bo, hbo⟩ : ∃ l, bx (exF s a) [] = l := ⟨_, rfl⟩
   obtain ⟨sv, hsv⟩ : ∃ z, cl s b a = z := ⟨_, rfl⟩
   obtain ⟨nv, hnv⟩ : ∃ l, fx sv [] [] = l := ⟨_, rfl⟩
   obtain ⟨y, hy⟩ : ∃ y, isIn na s = y := ⟨_, rfl⟩
   have ka : cost a ≤ 300 := by have := cost_cn a; omega
   have kb : cost b ≤ 80 := by have := cost_cn b; omega
   have kF : cost (exF s a) ≤ 400 := by simp only [exF, cost, costL, costA, List.length_cons, List.length_nil]; omega
   have kS : cost sv ≤ 24000 := by have h1 := cost_cl s b a; rw [hsv] at h1; exact Nat.le_trans h1 (Nat.le_trans (Nat.mul_le_mul ka kb) (by decide))
   have cF : cn (exF s a) ≤ 400 := by simp only [exF, cn, cnL, cnA, List.length_cons, List.length_nil]; omega
   have nsz1 : nsz [s] = true := by unfold nsz; rw [List.all_eq_true]; intro t ht; obtain rfl := List.mem_singleton.1 ht; exact decide_eq_true hss.out
   have oF : okE (exF s a) = true := by simp [exF, okE, okL, okA, hoa.out, nsz1]; decide
   have oS : okE sv = true := by rw [← hsv]; exact okE_cl s b hob.out a hoa.out
   have L1 : Aside0 (∀ t ∈ na, isIn nm t = !decide (t = s)) := ⟨fun t ht => by rw [← hnm]; exact has_F s a t (by rw [hna]; exact ht)⟩
   have L2 : Aside0 (nm.length + (if y = true then 1 else 0) = na.length) := ⟨by rw [← hnm, ← hy, ← hna]; exact len_F s a⟩
   have L3 : Aside0 (isIn bo s = true) := ⟨by rw [← hbo]; exact bound_F s a⟩
   have L4 : Aside0 (y = false → sv = a) := ⟨fun h => by rw [← hsv]; refine cl_none s b a [] rfl (fun hm => ?_); have h1 : s ∈ na := (by rw [← hna]; exact (mem_fx a s).2 hm); rw [(isIn_iff2 _ _).2 h1] at hy; rw [← hy] at h; cases h⟩
   have L5 : Aside0 (nb.length = 0 → isIn nv s = false) := ⟨fun h => by cases hh : isIn nv s with | false => rfl | true => (have h1 := (isIn_iff2 _ _).1 hh; rw [← hnv, mem_fx, ← hsv] at h1; refine absurd h1 (vs_cl s b ?_ a []); have h2 : nb = [] := List.eq_nil_of_length_eq_zero h; exact List.eq_nil_iff_forall_not_mem.2 (fun t ht => by have h3 := (mem_fx b t).2 ht; rw [hnb, h2] at h3; cases h3))⟩
   have L6 : cl s (exV s) a = a := cl_ren s a hsp.out
   have la : Aside0 (na.length ≤ 1000) := ⟨by have h1 := fx_len a [] []; rw [hna] at h1; simp only [List.length_nil] at h1; omega⟩
   have lb : Aside0 (nb.length ≤ 1000) := ⟨by have h1 := fx_len b [] []; rw [hnb] at h1; simp only [List.length_nil] at h1; omega⟩
   have lm : Aside0 (nm.length ≤ 1000) := ⟨by have h1 := fx_len (exF s a) [] []; rw [hnm] at h1; simp only [List.length_nil] at h1; omega⟩
   have lo : Aside0 (bo.length ≤ 1000) := ⟨by have h1 := bx_len (exF s a) []; rw [hbo] at h1; simp only [List.length_nil] at h1; omega⟩
   have lv : Aside0 (nv.length ≤ 1000000) := ⟨by have h1 := fx_len sv [] []; rw [hnv] at h1; simp only [List.length_nil] at h1; omega⟩
   have SA := Aside0.mk (same_all (cost a) a (Nat.le_refl _) (by omega))
   have SF := Aside0.mk (same_all (cost (exF s a)) (exF s a) (Nat.le_refl _) (by omega))
   have OB := own_all (cost b) b (Nat.le_refl _) (by omega)
   have OV : OWN (exV s) := own_all (cost (exV s)) (exV s) (Nat.le_refl _) (by simp [exV, cn, cnL, cnA])
   have CSF := Aside0.mk (clone_all s b OB (cost (exF s a)) (exF s a) (Nat.le_refl _) (by omega))
   have CSA := Aside0.mk (clone_all s b OB (cost a) a (Nat.le_refl _) (by omega))
   have CRA := Aside0.mk (clone_all s (exV s) OV (cost a) a (Nat.le_refl _) (by omega))
   have hsv := Aside0.mk hsv
   have L6 := Aside0.mk L6
   have ic := Aside0.mk (ia.out.below HBc.out)
   have id := Aside0.mk (ib.out.below HBc.out)
   (have ka0 := (blk_cell (blk_below hxa.out HBc.out) 0).trans rfl)
   (have ka1 := (blk_cell (blk_below hxa.out HBc.out) 1).trans rfl)
   (have ka2 := (blk_cell (blk_below hxa.out HBc.out) 2).trans rfl)
   (have ka3 := (blk_cell (blk_below hxa.out HBc.out) 3).trans rfl)
   (have ka4 := (blk_cell (blk_below hxa.out HBc.out) 4).trans rfl)
   (have ka5 := (blk_cell (blk_below hxa.out HBc.out) 5).trans rfl)
   (have kb0 := (blk_cell (blk_below hxb.out HBc.out) 0).trans rfl)
   (have kb1 := (blk_cell (blk_below hxb.out HBc.out) 1).trans rfl)
   (have kb2 := (blk_cell (blk_below hxb.out HBc.out) 2).trans rfl)
   (have kb3 := (blk_cell (blk_below hxb.out HBc.out) 3).trans rfl)
   (have kb4 := (blk_cell (blk_below hxb.out HBc.out) 4).trans rfl)
   (have kb5 := (blk_cell (blk_below hxb.out HBc.out) 5).trans rfl)
   have CN1 := names_g a hoa.out (by omega) rfl rfl rfl rfl rfl rfl hna rfl wc (c3 := c3) (c4 := c4) (c5 := c5) ic.out.h3 ic.out.h4 ic.out.h5
   have CF2 : ∀ w1, Below wc.heap.size wc w1 → _ := fun w1 hb => f_of s a w1 (ic.out.below hb)
   have CN3 : ∀ (w6 : World) {X Y : Option Addr}, In w6 (exF s a) X Y none 1 1 0 → _ := fun w6 X Y hC => names_g (exF s a) oF (by omega) (f0 := 6) (f1 := ⟨#[]⟩) (f2 := 0) (n3 := 1) (n4 := 1) (n5 := 0) rfl rfl rfl rfl rfl rfl hnm rfl w6 (A3 := X) (c3 := 1) (A4 := Y) (c4 := 1) (A5 := none) (c5 := 0) hC.h3 hC.h4 hC.h5
   have CB4 : ∀ (w6 : World) {X Y : Option Addr}, In w6 (exF s a) X Y none 1 1 0 → _ := fun w6 X Y hC => bound_g (exF s a) oF (by omega) (f0 := 6) (f1 := ⟨#[]⟩) (f2 := 0) (n3 := 1) (n4 := 1) (n5 := 0) rfl rfl rfl rfl rfl rfl hbo rfl w6 (A3 := X) (c3 := 1) (A4 := Y) (c4 := 1) (A5 := none) (c5 := 0) hC.h3 hC.h4 hC.h5
   have CN5 : ∀ (w6 : World) {X Y Z : Option Addr} {x y z : Nat}, In w6 b X Y Z x y z → _ := fun w6 X Y Z x y z hC => names_g b hob.out (by omega) rfl rfl rfl rfl rfl rfl hnb rfl w6 (c3 := x) (c4 := y) (c5 := z) hC.h3 hC.h4 hC.h5
   have CN6 : ∀ (w6 : World) {X Y Z : Option Addr} {x y z : Nat}, In w6 sv X Y Z x y z → _ := fun w6 X Y Z x y z hC => names_g sv oS (by omega) rfl rfl rfl rfl rfl rfl hnv rfl w6 (c3 := x) (c4 := y) (c5 := z) hC.h3 hC.h4 hC.h5
   have CF2 := Aside0.mk @CF2
   have CN3 := Aside0.mk @CN3
   have CB4 := Aside0.mk @CB4
   have CN5 := Aside0.mk @CN5
   have CN6 := Aside0.mk @CN6
   have hy := Aside0.mk hy
   clear ka kb kF kS cF nsz1 oF oS OB OV ha1 hb1 hna hnb hnm hbo hnv hW0 hss hoa hob hsp
   have T1 : True := trivial
   go_wp2_with (first | (clear T1; go_at_call 15; go_loud (with_reducible refine (CN1).mono ?_); rintro e w1 ⟨A1, e1, rfl, he1, hC1, hb1⟩; have HB1 := Aside0.mk (below_step HBc.out hb1); have HC1 := Aside0.mk hC1; have CF := CF2.out w1 hb1; clear ka0 kb0 ka1 kb1 ka2 kb2 ka3 kb3 ka4 kb4 ka5 kb5; (have ka0 := (blk_cell (blk_below hxa.out HB1.out) 0).trans rfl); (have ka1 := (blk_cell (blk_below hxa.out HB1.out) 1).trans rfl); (have ka2 := (blk_cell (blk_below hxa.out HB1.out) 2).trans rfl); (have ka3 := (blk_cell (blk_below hxa.out HB1.out) 3).trans rfl); (have ka4 := (blk_cell (blk_below hxa.out HB1.out) 4).trans rfl); (have ka5 := (blk_cell (blk_below hxa.out HB1.out) 5).trans rfl); (have kb0 := (blk_cell (blk_below hxb.out HB1.out) 0).trans rfl); (have kb1 := (blk_cell (blk_below hxb.out HB1.out) 1).trans rfl); (have kb2 := (blk_cell (blk_below hxb.out HB1.out) 2).trans rfl); (have kb3 := (blk_cell (blk_below hxb.out HB1.out) 3).trans rfl); (have kb4 := (blk_cell (blk_below hxb.out HB1.out) 4).trans rfl); (have kb5 := (blk_cell (blk_below hxb.out HB1.out) 5).trans rfl); clear hC1 CN1; have T2 : True := trivial) | (clear T2; go_at_call 20; go_loud (with_reducible refine (CF).mono ?_); rintro e w2 ⟨X3, X4, rfl, iF, hb2⟩; have HB2 := Aside0.mk (below_step HB1.out hb2); have HB3 := Aside0.mk (below_alloc HB2.out (.cells #[.int .i64 6, .string ⟨#[]⟩, .int .i64 0, .slice X3 1 1, .slice X4 1 1, .slice none 0 0] 33)); have HC1b := Aside0.mk (Kd.C_below (Kd.C_below HC1.out hb2) (below_alloc (Below.refl _ _) (.cells #[.int .i64 6, .string ⟨#[]⟩, .int .i64 0, .slice X3 1 1, .slice X4 1 1, .slice none 0 0] 33))); have iF3 := Aside0.mk (iF.below (below_alloc (Below.refl _ _) (.cells #[.int .i64 6, .string ⟨#[]⟩, .int .i64 0, .slice X3 1 1, .slice X4 1 1, .slice none 0 0] 33))); have hxf := Aside0.mk (blk_new w2 (.cells #[.int .i64 6, .string ⟨#[]⟩, .int .i64 0, .slice X3 1 1, .slice X4 1 1, .slice none 0 0] 33 (0, 0))); have CN3' := CN3.out (w2.alloc (.cells #[.int .i64 6, .string ⟨#[]⟩, .int .i64 0, .slice X3 1 1, .slice X4 1 1, .slice none 0 0] 33)) iF3.out; clear hb2 iF CF HC1; clear ka0 kb0 ka1 kb1 ka2 kb2 ka3 kb3 ka4 kb4 ka5 kb5; have T3 : True := trivial) | (clear T3; go_at_call 15; go_loud (with_reducible refine (CN3').mono ?_); rintro e W4 ⟨M3, e3, rfl, he3, hC3, hb4⟩; have HB4 := Aside0.mk (below_step HB3.out hb4); have HC1 := Aside0.mk (Kd.C_below HC1b.out hb4); have HC3 := Aside0.mk hC3; have iF4 := Aside0.mk (iF3.out.below hb4); have hxf4 := Aside0.mk (blk_below hxf.out hb4); have hxa4 := Aside0.mk (blk_below hxa.out HB4.out); have hxb4 := Aside0.mk (blk_below hxb.out HB4.out); have ia4 := Aside0.mk (ia.out.below HB4.out); have ib4 := Aside0.mk (ib.out.below HB4.out); have HW4 : Aside0 (Below w.heap.size w W4) := ⟨HB0.out.trans (HB4.out.mono HB0.out.size)⟩; have hB44 := Aside0.mk (Below.refl W4.heap.size W4); clear hb4 hC3 CN3' HC1b iF3 hxf HB1 HB2 HB3 HB4 HBc ia ib hxa hxb ic id CF2 CN3; have T4 : True := trivial))
   clear T4 HB0
   go_loopg [11] (na.length + 1) (fun kq v11 w' => ∃ i : Nat, v11 = .int .i64 (i : Int) ∧ i + kq = na.length + 1 ∧ 1 ≤ kq ∧ Aside0 (Below W4.heap.size W4 w'))
   case atStart => exact ⟨0, rfl, by omega, by omega, hB44⟩
   case round =>
    clear hB44
    obtain ⟨i, rfl, hi, hk, hBr⟩ := hrel
    have K1 := Aside0.mk (Kd.C_below HC1.out hBr.out)
    have K3 := Aside0.mk (Kd.C_below HC3.out hBr.out)
    by_cases hlt : i < na.length
    ·obtain ⟨ad, rfl, hv⟩ := at_str K1.out i hlt hlt
     have hl1 := L1.out _ (List.getElem_mem hlt)
     generalize na[i] = t at hv hl1
     obtain ⟨z, hzz⟩ : ∃ z, decide (t = s) = z := ⟨_, rfl⟩
     rw [hzz] at hl1
     have hq : (t.toList == s.toList) = z := by rw [← hzz]; apply bool_iff; rw [beq_iff_eq, decide_eq_true_iff, toList_eq]
     have p0 : (0 : Int) ≤ (i : Int) := by omega
     have p1 : (i : Int) < (na.length : Int) := by omega
     have q1 : decide ((i : Int) < (na.length : Int)) = true := decide_eq_true p1
     have hjn : Value.int .i64 (wrap64 ((i : Int) + 1)) = .int .i64 ((i + 1 : Nat) : Int) := by rw [wr1 i (by have := la.out; omega)]
     have hi7 : i + 1 + (gk - 1) = na.length + 1 ∧ 1 ≤ gk - 1 ∧ gk - 1 < gk := by omega
     have CH := Aside0.mk (fun (W : World) (hb : Below wr.heap.size wr W) => has_g nm (by have := lm.out; omega) rfl t (b := !z) hl1 W (Kd.C_below K3.out hb) he3)
     have hv := Aside0.mk hv
     clear hl1 hzz
     cases z
     all_goals
      simp only [Bool.not_false, Bool.not_true] at CH
      go_wp2
      have HB_ : Below wr.heap.size wr wr.drew := below_drew1 (Below.refl _ _)
      refine start_ (n := 13) (S := fun w' => w'.cell? (ad.add i) = some (.string t)) (ds := []) #[false, false, false, false, false, false, false, false, false, false, false, false, false] (by kernel_rfl) rfl rfl ((HB_.cell (World.block_lt_of_cell? _ _ hv.out)).trans hv.out) (fun hHeld => ?_)
      generalize wr.drew = W9 at *
      refine pure_ (i := 0) (N := some 54) (v := ?_) (a' := ?_) #[true, false, false, false, false, false, false, false, false, false, false, false, false] rfl rfl (by kernel_rfl) (fun _ _ _ h => h) (Or.inl ⟨by rfl, ?_⟩) ?_ ?_
      rotate_left
      ·intro w'
       go_simp
       with_reducible rfl
      rotate_left
      ·simp only [Act.put, sA, sB, sC, i64_w, i32_w]
       rfl
      refine pure_ (i := 1) (N := some 55) (v := ?_) (a' := ?_) #[true, true, false, false, false, false, false, false, false, false, false, false, false] rfl rfl (by kernel_rfl) (fun _ _ _ h => h) (Or.inl ⟨by rfl, ?_⟩) ?_ ?_
      rotate_left
      ·intro w'
       go_simp
       with_reducible rfl
      rotate_left
      ·simp only [Act.put, sA, sB, sC, i64_w, i32_w]
       rfl
      refine pure_ (i := 2) (N := some 56) (v := ?_) (a' := ?_) #[true, true, true, false, false, false, false, false, false, false, false, false, false] rfl rfl (by kernel_rfl) (fun _ _ _ h => h) (Or.inl ⟨by rfl, ?_⟩) ?_ ?_
      rotate_left
      ·intro w'
       go_simp
       with_reducible rfl
      rotate_left
      ·simp only [Act.put, sA, sB, sC, i64_w, i32_w]
       rfl
      refine pure_ (i := 3) (N := some 57) (v := ?_) (a' := ?_) #[true, true, true, true, false, false, false, false, false, false, false, false, false] rfl rfl (by kernel_rfl) (fun _ _ _ h => h) (Or.inl ⟨by rfl, ?_⟩) ?_ ?_
      rotate_left
      ·intro w'
       go_simp
       with_reducible rfl
      rotate_left
      ·simp only [Act.put, sA, sB, sC, i64_w, i32_w]
       rfl
      refine pure_ (i := 6) (N := some 60) (v := ?_) (a' := ?_) #[true, true, true, true, false, false, true, false, false, false, false, false, false] rfl rfl (by kernel_rfl) (fun _ _ _ h => h) (Or.inl ⟨by rfl, ?_⟩) ?_ ?_
      rotate_left
      ·intro w'
       go_simp
       with_reducible rfl
      rotate_left
      ·simp only [Act.put, sA, sB, sC, i64_w, i32_w]
       rfl
      refine pure_ (i := 7) (N := some 61) (v := ?_) (a' := ?_) #[true, true, true, true, false, false, true, true, false, false, false, false, false] rfl rfl (by kernel_rfl) (fun _ _ _ h => h) (Or.inl ⟨by rfl, ?_⟩) ?_ ?_
      rotate_left
      ·intro w'
       go_simp
       with_reducible rfl
      rotate_left
      ·simp only [Act.put, sA, sB, sC, i64_w, i32_w]
       rfl
      refine pure_ (i := 8) (N := some 62) (v := ?_) (a' := ?_) #[true, true, true, true, false, false, true, true, true, false, false, false, false] rfl rfl (by kernel_rfl) (fun _ _ _ h => h) (Or.inl ⟨by rfl, ?_⟩) ?_ ?_
      rotate_left
      ·intro w'
       go_simp
       with_reducible rfl
      rotate_left
      ·simp only [Act.put, sA, sB, sC, i64_w, i32_w]
       rfl
      refine pure_ (i := 10) (N := some 64) (v := ?_) (a' := ?_) #[true, true, true, true, false, false, true, true, true, false, true, false, false] rfl rfl (by kernel_rfl) (fun _ _ _ h => h) (Or.inl ⟨by rfl, ?_⟩) ?_ ?_
      rotate_left
      ·intro w'
       go_simp
       with_reducible rfl
      rotate_left
      ·simp only [Act.put, sA, sB, sC, i64_w, i32_w]
       rfl
      refine take_ (i := 4) (N := some 58) (v := ?_) (a' := ?_) #[true, true, true, true, true, false, true, true, true, false, true, false, false] rfl rfl (by kernel_rfl) (fun _ _ _ h => h) (Or.inl ⟨by rfl, ?_⟩) hHeld ?_ ?_
      rotate_left
      ·intro w' s0
       go_simp
       with_reducible rfl
      rotate_left
      ·simp only [Act.put, sA, sB, sC, i64_w, i32_w]
       rfl
      refine take_ (i := 9) (N := some 63) (v := ?_) (a' := ?_) #[true, true, true, true, true, false, true, true, true, true, true, false, false] rfl rfl (by kernel_rfl) (fun _ _ _ h => h) (Or.inl ⟨by rfl, ?_⟩) hHeld ?_ ?_
      rotate_left
      ·intro w' s0
       go_simp
       with_reducible rfl
      rotate_left
      ·simp only [Act.put, sA, sB, sC, i64_w, i32_w]
       rfl
      refine pure_ (i := 11) (N := some 65) (v := ?_) (a' := ?_) #[true, true, true, true, true, false, true, true, true, true, true, true, false] rfl rfl (by kernel_rfl) (fun _ _ _ h => h) (Or.inl ⟨by rfl, ?_⟩) ?_ ?_
      rotate_left
      ·intro w'
       go_simp
       with_reducible rfl
      rotate_left
      ·simp only [Act.put, sA, sB, sC, i64_w, i32_w]
       rfl
      refine one_ (i := 5) (N := some 59) #[true, true, true, true, true, true, true, true, true, true, true, true, false] rfl rfl (by kernel_rfl) (by decide) (fun K hK => ?_)
      refine goes_ Tryd.func12 (by kernel_rfl) rfl #[.slice M3 nm.length e3, .string t] (by rfl) rfl rfl (by simp only [List.map_toArray, List.map_cons, List.map_nil]; rfl) ?_
      (with_reducible refine (CH.out W9 HB_).mono ?_)
      rintro e w5 ⟨rfl, hb5⟩
      refine ⟨_, rfl, ?_⟩
      have HB5 := below_step HB_ hb5
      have HBz := Aside0.mk (below_step hBr.out HB5)
      refine hK.out _ _ ((HB5.cell (World.block_lt_of_cell? _ _ hv.out)).trans hv.out) (fun hHeld => ?_)
      clear hK K
      refine norm_ (a' := ?_) ?_ ?_
      rotate_left
      ·show Act.put _ (some 59) _ = _
       simp only [Act.put, sA, sB, sC, i64_w, i32_w]
       rfl
      refine pure_ (i := 12) (N := some 66) (v := ?_) (a' := ?_) #[true, true, true, true, true, true, true, true, true, true, true, true, true] rfl rfl (by kernel_rfl) (fun _ _ _ h => h) (Or.inl ⟨by rfl, ?_⟩) ?_ ?_
      rotate_left
      ·intro w'
       go_simp
       with_reducible rfl
      rotate_left
      ·simp only [Act.put, sA, sB, sC, i64_w, i32_w]
       rfl
      refine done_ (by kernel_rfl) ?_
      clear hHeld
      go_wp2
      go_roundg (gk - 1)
      case measure => exact hi7.2.2
      case rel => exact ⟨i + 1, by first | exact hjn | rfl, hi7.1, hi7.2.1, HBz⟩
    ·have q1 : decide ((i : Int) < (na.length : Int)) = false := decide_eq_false (by omega)
     have CL := has_g na (by have := la.out; omega) rfl s (b := y) hy.out wr K1.out he1
     have T1 : True := trivial
     clear hi hk
     cases y
     ·have e1 : a = sv := (L4.out rfl).symm
      subst e1
      go_wp2_with (first | (clear T1; go_at_call 12; go_loud (with_reducible refine CL.mono ?_); rintro e w5 ⟨rfl, hb5⟩; have HB5 := Aside0.mk (below_step hBr.out hb5); clear hb5 CL K1 K3 q1; have T2 : True := trivial))
      have hlen : nm.length = na.length := by have := L2.out; simp only [Bool.false_eq_true, if_false] at this; omega
      have hw0 : wrap64 ((na.length : Int) - 0) = (nm.length : Int) := by rw [hlen]; have := la.out; unfold wrap64; omega
      have hw1 : wrap64 (na.length : Int) = (nm.length : Int) := by rw [hlen]; have := la.out; unfold wrap64; omega
      clear hlen
      have HB_ : Below w5.heap.size w5 w5.drew := below_drew1 (Below.refl _ _)
      refine start_ (n := 23) (S := fun w' => w'.cell? ⟨w2.heap.size, 0, none⟩ = some (.int .i64 6) ∧ w'.cell? ⟨w2.heap.size, 1, none⟩ = some (.string ⟨#[]⟩) ∧ w'.cell? ⟨w2.heap.size, 2, none⟩ = some (.int .i64 0) ∧ w'.cell? ⟨w2.heap.size, 3, none⟩ = some (.slice X3 1 1) ∧ w'.cell? ⟨w2.heap.size, 4, none⟩ = some (.slice X4 1 1) ∧ w'.cell? ⟨w2.heap.size, 5, none⟩ = some (.slice none 0 0) ∧ w'.cell? ⟨w.heap.size + 1, 0, none⟩ = some (.int .i64 b.f0) ∧ w'.cell? ⟨w.heap.size + 1, 1, none⟩ = some (.string b.f1) ∧ w'.cell? ⟨w.heap.size + 1, 2, none⟩ = some (.int .i64 b.f2) ∧ w'.cell? ⟨w.heap.size + 1, 3, none⟩ = some (.slice B3 b.f3.length d3) ∧ w'.cell? ⟨w.heap.size + 1, 4, none⟩ = some (.slice B4 b.f4.length d4) ∧ w'.cell? ⟨w.heap.size + 1, 5, none⟩ = some (.slice B5 b.f5.length d5)) (ds := []) #[false, false, false, false, false, false, false, false, false, false, false, false, false, false, false, false, false, false, false, false, false, false, false] (by kernel_rfl) rfl rfl (cat6 (blk_below (blk_below hxf4.out HB5.out) HB_) (six (blk_below (blk_below hxb4.out HB5.out) HB_))) (fun hHeld => ?_)
      generalize w5.drew = W9 at *
      refine pure_ (i := 0) (N := some 70) (v := ?_) (a' := ?_) #[true, false, false, false, false, false, false, false, false, false, false, false, false, false, false, false, false, false, false, false, false, false, false] rfl rfl (by kernel_rfl) (fun _ _ _ h => h) (Or.inl ⟨by rfl, ?_⟩) ?_ ?_
      rotate_left
      ·intro w'
       go_simp
       with_reducible rfl
      rotate_left
      ·simp only [Act.put, sA, sB, sC, i64_w, i32_w]
       rfl
      refine pure_ (i := 1) (N := some 71) (v := ?_) (a' := ?_) #[true, true, false, false, false, false, false, false, false, false, false, false, false, false, false, false, false, false, false, false, false, false, false] rfl rfl (by kernel_rfl) (fun _ _ _ h => h) (Or.inl ⟨by rfl, ?_⟩) ?_ ?_
      rotate_left
      ·intro w'
       go_simp
       with_reducible rfl
      rotate_left
      ·simp only [Act.put, sA, sB, sC, i64_w, i32_w]
       rfl
      refine pure_ (i := 2) (N := some 72) (v := ?_) (a' := ?_) #[true, true, true, false, false, false, false, false, false, false, false, false, false, false, false, false, false, false, false, false, false, false, false] rfl rfl (by kernel_rfl) (fun _ _ _ h => h) (Or.inl ⟨by rfl, ?_⟩) ?_ ?_
      rotate_left
      ·intro w'
       go_simp
       with_reducible rfl
      rotate_left
      ·simp only [Act.put, sA, sB, sC, i64_w, i32_w]
       rfl
      refine pure_ (i := 3) (N := some 73) (v := ?_) (a' := ?_) #[true, true, true, true, false, false, false, false, false, false, false, false, false, false, false, false, false, false, false, false, false, false, false] rfl rfl (by kernel_rfl) (fun _ _ _ h => h) (Or.inl ⟨by rfl, ?_⟩) ?_ ?_
      rotate_left
      ·intro w'
       go_simp
       with_reducible rfl
      rotate_left
      ·simp only [Act.put, sA, sB, sC, i64_w, i32_w]
       rfl
      refine pure_ (i := 4) (N := some 74) (v := ?_) (a' := ?_) #[true, true, true, true, true, false, false, false, false, false, false, false, false, false, false, false, false, false, false, false, false, false, false] rfl rfl (by kernel_rfl) (fun _ _ _ h => h) (Or.inl ⟨by rfl, ?_⟩) ?_ ?_
      rotate_left
      ·intro w'
       go_simp
       with_reducible rfl
      rotate_left
      ·simp only [Act.put, sA, sB, sC, i64_w, i32_w]
       rfl
      refine pure_ (i := 5) (N := some 75) (v := ?_) (a' := ?_) #[true, true, true, true, true, true, false, false, false, false, false, false, false, false, false, false, false, false, false, false, false, false, false] rfl rfl (by kernel_rfl) (fun _ _ _ h => h) (Or.inl ⟨by rfl, ?_⟩) ?_ ?_
      rotate_left
      ·intro w'
       go_simp
       with_reducible rfl
      rotate_left
      ·simp only [Act.put, sA, sB, sC, i64_w, i32_w]
       rfl
      refine pure_ (i := 6) (N := some 76) (v := ?_) (a' := ?_) #[true, true, true, true, true, true, true, false, false, false, false, false, false, false, false, false, false, false, false, false, false, false, false] rfl rfl (by kernel_rfl) (fun _ _ _ h => h) (Or.inl ⟨by rfl, ?_⟩) ?_ ?_
      rotate_left
      ·intro w'
       go_simp
       with_reducible rfl
      rotate_left
      ·simp only [Act.put, sA, sB, sC, i64_w, i32_w]
       rfl
      refine pure_ (i := 7) (N := some 77) (v := ?_) (a' := ?_) #[true, true, true, true, true, true, true, true, false, false, false, false, false, false, false, false, false, false, false, false, false, false, false] rfl rfl (by kernel_rfl) (fun _ _ _ h => h) (Or.inl ⟨by rfl, ?_⟩) ?_ ?_
      rotate_left
      ·intro w'
       go_simp
       with_reducible rfl
      rotate_left
      ·simp only [Act.put, sA, sB, sC, i64_w, i32_w]
       rfl
      refine pure_ (i := 10) (N := some 80) (v := ?_) (a' := ?_) #[true, true, true, true, true, true, true, true, false, false, true, false, false, false, false, false, false, false, false, false, false, false, false] rfl rfl (by kernel_rfl) (fun _ _ _ h => h) (Or.inl ⟨by rfl, ?_⟩) ?_ ?_
      rotate_left
      ·intro w'
       go_simp
       with_reducible rfl
      rotate_left
      ·simp only [Act.put, sA, sB, sC, i64_w, i32_w]
       rfl
      refine take_ (i := 8) (N := some 78) (v := ?_) (a' := ?_) #[true, true, true, true, true, true, true, true, true, false, true, false, false, false, false, false, false, false, false, false, false, false, false] rfl rfl (by kernel_rfl) (fun _ _ _ h => h) (Or.inl ⟨by rfl, ?_⟩) hHeld ?_ ?_
      rotate_left
      ·rintro w' ⟨s0, s1, s2, s3, s4, s5, s6, s7, s8, s9, s10, s11⟩
       go_simp
       with_reducible rfl
      rotate_left
      ·simp only [Act.put, sA, sB, sC, i64_w, i32_w]
       rfl
      refine one_ (i := 9) (N := some 79) #[true, true, true, true, true, true, true, true, true, true, true, false, false, false, false, false, false, false, false, false, false, false, false] rfl rfl (by kernel_rfl) (by decide) (fun K hK => ?_)
      refine goes_ Tryd.func21 (by kernel_rfl) rfl #[.agg #[.int .i64 6, .string ⟨#[]⟩, .int .i64 0, .slice X3 1 1, .slice X4 1 1, .slice none 0 0]] (by rfl) rfl rfl (by simp only [List.map_toArray, List.map_cons, List.map_nil]; rfl) ?_
      (with_reducible refine (CB4.out W9 (iF4.out.below (below_step HB5.out HB_))).mono ?_)
      rintro e w6 ⟨M6, e6, rfl, he6, hC6, hb6⟩
      refine ⟨_, rfl, ?_⟩
      have HB6 := below_step HB_ hb6
      refine hK.out _ _ (cat6 (blk_below (blk_below hxf4.out HB5.out) HB6) (six (blk_below (blk_below hxb4.out HB5.out) HB6))) (fun hHeld => ?_)
      clear hK K
      refine norm_ (a' := ?_) ?_ ?_
      rotate_left
      ·show Act.put _ (some 79) _ = _
       simp only [Act.put, sA, sB, sC, i64_w, i32_w]
       rfl
      refine one_ (i := 11) (N := some 81) #[true, true, true, true, true, true, true, true, true, true, true, true, false, false, false, false, false, false, false, false, false, false, false] rfl rfl (by kernel_rfl) (by decide) (fun K hK => ?_)
      refine goes_ Tryd.func12 (by kernel_rfl) rfl #[.slice M6 bo.length e6, .string s] (by rfl) rfl rfl (by simp only [List.map_toArray, List.map_cons, List.map_nil]; rfl) ?_
      (with_reducible refine (has_g bo (by have := lo.out; omega) rfl s L3.out w6 hC6 he6).mono ?_)
      rintro e w7 ⟨rfl, hb7⟩
      refine ⟨_, rfl, ?_⟩
      have HB7 := below_step HB6 hb7
      refine hK.out _ _ (cat6 (blk_below (blk_below hxf4.out HB5.out) HB7) (six (blk_below (blk_below hxb4.out HB5.out) HB7))) (fun hHeld => ?_)
      clear hK K
      refine norm_ (a' := ?_) ?_ ?_
      rotate_left
      ·show Act.put _ (some 81) _ = _
       simp only [Act.put, sA, sB, sC, i64_w, i32_w]
       rfl
      refine pure_ (i := 12) (N := some 82) (v := ?_) (a' := ?_) #[true, true, true, true, true, true, true, true, true, true, true, true, true, false, false, false, false, false, false, false, false, false, false] rfl rfl (by kernel_rfl) (fun _ _ _ h => h) (Or.inl ⟨by rfl, ?_⟩) ?_ ?_
      rotate_left
      ·intro w'
       go_simp
       with_reducible rfl
      rotate_left
      ·simp only [Act.put, sA, sB, sC, i64_w, i32_w]
       rfl
      refine pure_ (i := 13) (N := some 83) (v := ?_) (a' := ?_) #[true, true, true, true, true, true, true, true, true, true, true, true, true, true, false, false, false, false, false, false, false, false, false] rfl rfl (by kernel_rfl) (fun _ _ _ h => h) (Or.inl ⟨by rfl, ?_⟩) ?_ ?_
      rotate_left
      ·intro w'
       go_simp
       with_reducible rfl
      rotate_left
      ·simp only [Act.put, sA, sB, sC, i64_w, i32_w]
       rfl
      refine pure_ (i := 14) (N := some 84) (v := ?_) (a' := ?_) #[true, true, true, true, true, true, true, true, true, true, true, true, true, true, true, false, false, false, false, false, false, false, false] rfl rfl (by kernel_rfl) (fun _ _ _ h => h) (Or.inl ⟨by rfl, ?_⟩) ?_ ?_
      rotate_left
      ·intro w'
       go_simp
       with_reducible rfl
      rotate_left
      ·simp only [Act.put, sA, sB, sC, i64_w, i32_w]
       rfl
      refine pure_ (i := 16) (N := some 86) (v := ?_) (a' := ?_) #[true, true, true, true, true, true, true, true, true, true, true, true, true, true, true, false, true, false, false, false, false, false, false] rfl rfl (by kernel_rfl) (fun _ _ _ h => h) (Or.inl ⟨by rfl, ?_⟩) ?_ ?_
      rotate_left
      ·intro w'
       go_simp
       with_reducible rfl
      rotate_left
      ·simp only [Act.put, sA, sB, sC, i64_w, i32_w]
       rfl
      refine take_ (i := 15) (N := some 85) (v := ?_) (a' := ?_) #[true, true, true, true, true, true, true, true, true, true, true, true, true, true, true, true, true, false, false, false, false, false, false] rfl rfl (by kernel_rfl) (fun _ _ _ h => h) (Or.inl ⟨by rfl, ?_⟩) hHeld ?_ ?_
      rotate_left
      ·rintro w' ⟨s0, s1, s2, s3, s4, s5, s6, s7, s8, s9, s10, s11⟩
       go_simp
       with_reducible rfl
      rotate_left
      ·simp only [Act.put, sA, sB, sC, i64_w, i32_w]
       rfl
      refine take_ (i := 17) (N := some 87) (v := ?_) (a' := ?_) #[true, true, true, true, true, true, true, true, true, true, true, true, true, true, true, true, true, true, false, false, false, false, false] rfl rfl (by kernel_rfl) (fun _ _ _ h => h) (Or.inl ⟨by rfl, ?_⟩) hHeld ?_ ?_
      rotate_left
      ·rintro w' ⟨s0, s1, s2, s3, s4, s5, s6, s7, s8, s9, s10, s11⟩
       go_simp
       with_reducible rfl
      rotate_left
      ·simp only [Act.put, sA, sB, sC, i64_w, i32_w]
       rfl
      refine take_ (i := 19) (N := some 89) (v := ?_) (a' := ?_) #[true, true, true, true, true, true, true, true, true, true, true, true, true, true, true, true, true, true, false, true, false, false, false] rfl rfl (by kernel_rfl) (fun _ _ _ h => h) (Or.inl ⟨by rfl, ?_⟩) hHeld ?_ ?_
      rotate_left
      ·rintro w' ⟨s0, s1, s2, s3, s4, s5, s6, s7, s8, s9, s10, s11⟩
       go_simp
       with_reducible rfl
      rotate_left
      ·simp only [Act.put, sA, sB, sC, i64_w, i32_w]
       rfl
      refine one_ (i := 18) (N := some 88) #[true, true, true, true, true, true, true, true, true, true, true, true, true, true, true, true, true, true, true, true, false, false, false] rfl rfl (by kernel_rfl) (by decide) (fun K hK => ?_)
      refine goes_ Tryd.func23 (by kernel_rfl) rfl #[.agg #[.int .i64 6, .string ⟨#[]⟩, .int .i64 0, .slice X3 1 1, .slice X4 1 1, .slice none 0 0], .string s, .agg #[.int .i64 b.f0, .string b.f1, .int .i64 b.f2, .slice B3 b.f3.length d3, .slice B4 b.f4.length d4, .slice B5 b.f5.length d5]] (by rfl) rfl rfl (by simp only [List.map_toArray, List.map_cons, List.map_nil]; rfl) ?_
      (with_reducible refine (substF_calls s b a CSF.out w7 (iF4.out.below (below_step HB5.out HB7)) (ib4.out.below (below_step HB5.out HB7))).mono ?_)
      rintro e w8 ⟨G3, G4, G5, g3, g4, g5, rfl, hG, hb8⟩
      refine ⟨_, rfl, ?_⟩
      have HB8 := below_step HB7 hb8
      refine hK.out _ _ (cat6 (blk_below (blk_below hxf4.out HB5.out) HB8) (six (blk_below (blk_below hxb4.out HB5.out) HB8))) (fun hHeld => ?_)
      clear hK K
      refine norm_ (a' := ?_) ?_ ?_
      rotate_left
      ·show Act.put _ (some 88) _ = _
       simp only [Act.put, sA, sB, sC, i64_w, i32_w]
       rfl
      refine one_ (i := 20) (N := some 90) #[true, true, true, true, true, true, true, true, true, true, true, true, true, true, true, true, true, true, true, true, true, false, false] rfl rfl (by kernel_rfl) (by decide) (fun K hK => ?_)
      refine goes_ Tryd.func22 (by kernel_rfl) rfl #[.agg #[.int .i64 6, .string ⟨#[]⟩, .int .i64 0, .slice G3 1 g3, .slice G4 1 g4, .slice G5 0 g5], .agg #[.int .i64 6, .string ⟨#[]⟩, .int .i64 0, .slice X3 1 1, .slice X4 1 1, .slice none 0 0]] (by rfl) rfl rfl (by simp only [List.map_toArray, List.map_cons, List.map_nil]; rfl) ?_
      (with_reducible refine (sameF_calls s a SF.out w8 hG.in (iF4.out.below (below_step HB5.out HB8))).mono ?_)
      rintro e w9 ⟨rfl, hb9⟩
      refine ⟨_, rfl, ?_⟩
      have HB9 := below_step HB8 hb9
      have HBy := Aside0.mk (below_step HB5.out HB9)
      refine hK.out _ _ (cat6 (blk_below (blk_below hxf4.out HB5.out) HB9) (six (blk_below (blk_below hxb4.out HB5.out) HB9))) (fun hHeld => ?_)
      clear hK K
      refine norm_ (a' := ?_) ?_ ?_
      rotate_left
      ·show Act.put _ (some 90) _ = _
       simp only [Act.put, sA, sB, sC, i64_w, i32_w]
       rfl
      refine pure_ (i := 21) (N := some 91) (v := ?_) (a' := ?_) #[true, true, true, true, true, true, true, true, true, true, true, true, true, true, true, true, true, true, true, true, true, true, false] rfl rfl (by kernel_rfl) (fun _ _ _ h => h) (Or.inl ⟨by rfl, ?_⟩) ?_ ?_
      rotate_left
      ·intro w'
       go_simp
       with_reducible rfl
      rotate_left
      ·simp only [Act.put, sA, sB, sC, i64_w, i32_w]
       rfl
      refine pure_ (i := 22) (N := some 92) (v := ?_) (a' := ?_) #[true, true, true, true, true, true, true, true, true, true, true, true, true, true, true, true, true, true, true, true, true, true, true] rfl rfl (by kernel_rfl) (fun _ _ _ h => h) (Or.inl ⟨by rfl, ?_⟩) ?_ ?_
      rotate_left
      ·intro w'
       go_simp
       with_reducible rfl
      rotate_left
      ·simp only [Act.put, sA, sB, sC, i64_w, i32_w]
       rfl
      refine done_ (by kernel_rfl) ?_
      clear hHeld
      clear hb6 hC6 hb7 hG hb8 hb9 HB_ HB6 HB7 HB8 HB9 he6
      (have ka0 := (blk_cell (blk_below hxa4.out HBy.out) 0).trans rfl)
      (have ka1 := (blk_cell (blk_below hxa4.out HBy.out) 1).trans rfl)
      (have ka2 := (blk_cell (blk_below hxa4.out HBy.out) 2).trans rfl)
      (have ka3 := (blk_cell (blk_below hxa4.out HBy.out) 3).trans rfl)
      (have ka4 := (blk_cell (blk_below hxa4.out HBy.out) 4).trans rfl)
      (have ka5 := (blk_cell (blk_below hxa4.out HBy.out) 5).trans rfl)
      (have kb0 := (blk_cell (blk_below hxb4.out HBy.out) 0).trans rfl)
      (have kb1 := (blk_cell (blk_below hxb4.out HBy.out) 1).trans rfl)
      (have kb2 := (blk_cell (blk_below hxb4.out HBy.out) 2).trans rfl)
      (have kb3 := (blk_cell (blk_below hxb4.out HBy.out) 3).trans rfl)
      (have kb4 := (blk_cell (blk_below hxb4.out HBy.out) 4).trans rfl)
      (have kb5 := (blk_cell (blk_below hxb4.out HBy.out) 5).trans rfl)
      have CS := subst_calls CSA.out hsv.out w9 (ia4.out.below HBy.out) (ib4.out.below HBy.out)
      have T3 : True := trivial
      go_wp2_with (first | (clear T3; go_at_call 23; go_loud (with_reducible refine CS.mono ?_); rintro e w10 ⟨V3, V4, V5, v3, v4, v5, rfl, hV, hb10⟩; have HV := Aside0.mk hV; have HB10 := Aside0.mk (below_step HBy.out hb10); clear hV hb10 CS ka0 kb0 ka1 kb1 ka2 kb2 ka3 kb3 ka4 kb4 ka5 kb5; have T4 : True := trivial))
      obtain ⟨Ws, hWs⟩ : ∃ Ws, w10.alloc (.cells #[.int .i64 a.f0, .string a.f1, .int .i64 a.f2, .slice V3 a.f3.length v3, .slice V4 a.f4.length v4, .slice V5 a.f5.length v5] 33) = Ws := ⟨_, rfl⟩
      have HBs : Aside0 (Below W4.heap.size W4 Ws) := ⟨by rw [← hWs]; exact below_alloc HB10.out _⟩
      have iV : Aside0 (In Ws a V3 V4 V5 v3 v4 v5) := ⟨by rw [← hWs]; exact HV.out.in.below (below_alloc (Below.refl _ _) _)⟩
      have hxs : Aside0 (Ws.heap[w10.heap.size]? = some (.cells #[.int .i64 a.f0, .string a.f1, .int .i64 a.f2, .slice V3 a.f3.length v3, .slice V4 a.f4.length v4, .slice V5 a.f5.length v5] 33 (0, 0))) := ⟨by rw [← hWs]; exact blk_new w10 _⟩
      have hxas := Aside0.mk (blk_below hxa4.out HBs.out)
      have hxbs := Aside0.mk (blk_below hxb4.out HBs.out)
      rw [hWs]
      clear hWs HV HBy HB10
      have iaS := Aside0.mk (ia4.out.below HBs.out)
      have ibS := Aside0.mk (ib4.out.below HBs.out)
      by_cases hb0 : nb.length = 0
      ·have L5' := L5.out hb0
       have qn : decide ((0 : Int) < (nb.length : Int)) = false := decide_eq_false (by omega)
       have qm : ¬ (0 < nb.length) := by omega
       have HB_ : Below Ws.heap.size Ws Ws.drew := below_drew1 (Below.refl _ _)
       refine start_ (n := 32) (S := fun w' => w'.cell? ⟨w.heap.size, 0, none⟩ = some (.int .i64 a.f0) ∧ w'.cell? ⟨w.heap.size, 1, none⟩ = some (.string a.f1) ∧ w'.cell? ⟨w.heap.size, 2, none⟩ = some (.int .i64 a.f2) ∧ w'.cell? ⟨w.heap.size, 3, none⟩ = some (.slice A3 a.f3.length c3) ∧ w'.cell? ⟨w.heap.size, 4, none⟩ = some (.slice A4 a.f4.length c4) ∧ w'.cell? ⟨w.heap.size, 5, none⟩ = some (.slice A5 a.f5.length c5) ∧ w'.cell? ⟨w.heap.size + 1, 0, none⟩ = some (.int .i64 b.f0) ∧ w'.cell? ⟨w.heap.size + 1, 1, none⟩ = some (.string b.f1) ∧ w'.cell? ⟨w.heap.size + 1, 2, none⟩ = some (.int .i64 b.f2) ∧ w'.cell? ⟨w.heap.size + 1, 3, none⟩ = some (.slice B3 b.f3.length d3) ∧ w'.cell? ⟨w.heap.size + 1, 4, none⟩ = some (.slice B4 b.f4.length d4) ∧ w'.cell? ⟨w.heap.size + 1, 5, none⟩ = some (.slice B5 b.f5.length d5) ∧ w'.cell? ⟨w10.heap.size, 0, none⟩ = some (.int .i64 a.f0) ∧ w'.cell? ⟨w10.heap.size, 1, none⟩ = some (.string a.f1) ∧ w'.cell? ⟨w10.heap.size, 2, none⟩ = some (.int .i64 a.f2) ∧ w'.cell? ⟨w10.heap.size, 3, none⟩ = some (.slice V3 a.f3.length v3) ∧ w'.cell? ⟨w10.heap.size, 4, none⟩ = some (.slice V4 a.f4.length v4) ∧ w'.cell? ⟨w10.heap.size, 5, none⟩ = some (.slice V5 a.f5.length v5)) (ds := []) #[false, false, false, false, false, false, false, false, false, false, false, false, false, false, false, false, false, false, false, false, false, false, false, false, false, false, false, false, false, false, false, false] (by kernel_rfl) rfl rfl (cat6 (blk_below hxas.out HB_) (cat6 (blk_below hxbs.out HB_) (six (blk_below hxs.out HB_)))) (fun hHeld => ?_)
       generalize Ws.drew = W9 at *
       refine pure_ (i := 0) (N := some 97) (v := ?_) (a' := ?_) #[true, false, false, false, false, false, false, false, false, false, false, false, false, false, false, false, false, false, false, false, false, false, false, false, false, false, false, false, false, false, false, false] rfl rfl (by kernel_rfl) (fun _ _ _ h => h) (Or.inl ⟨by rfl, ?_⟩) ?_ ?_
       rotate_left
       ·intro w'
        go_simp
        with_reducible rfl
       rotate_left
       ·simp only [Act.put, sA, sB, sC, i64_w, i32_w]
        rfl
       refine pure_ (i := 1) (N := some 98) (v := ?_) (a' := ?_) #[true, true, false, false, false, false, false, false, false, false, false, false, false, false, false, false, false, false, false, false, false, false, false, false, false, false, false, false, false, false, false, false] rfl rfl (by kernel_rfl) (fun _ _ _ h => h) (Or.inl ⟨by rfl, ?_⟩) ?_ ?_
       rotate_left
       ·intro w'
        go_simp
        with_reducible rfl
       rotate_left
       ·simp only [Act.put, sA, sB, sC, i64_w, i32_w]
        rfl
       refine pure_ (i := 2) (N := some 99) (v := ?_) (a' := ?_) #[true, true, true, false, false, false, false, false, false, false, false, false, false, false, false, false, false, false, false, false, false, false, false, false, false, false, false, false, false, false, false, false] rfl rfl (by kernel_rfl) (fun _ _ _ h => h) (Or.inl ⟨by rfl, ?_⟩) ?_ ?_
       rotate_left
       ·intro w'
        go_simp
        with_reducible rfl
       rotate_left
       ·simp only [Act.put, sA, sB, sC, i64_w, i32_w]
        rfl
       refine pure_ (i := 3) (N := some 100) (v := ?_) (a' := ?_) #[true, true, true, true, false, false, false, false, false, false, false, false, false, false, false, false, false, false, false, false, false, false, false, false, false, false, false, false, false, false, false, false] rfl rfl (by kernel_rfl) (fun _ _ _ h => h) (Or.inl ⟨by rfl, ?_⟩) ?_ ?_
       rotate_left
       ·intro w'
        go_simp
        with_reducible rfl
       rotate_left
       ·simp only [Act.put, sA, sB, sC, i64_w, i32_w]
        rfl
       refine pure_ (i := 4) (N := some 101) (v := ?_) (a' := ?_) #[true, true, true, true, true, false, false, false, false, false, false, false, false, false, false, false, false, false, false, false, false, false, false, false, false, false, false, false, false, false, false, false] rfl rfl (by kernel_rfl) (fun _ _ _ h => h) (Or.inl ⟨by rfl, ?_⟩) ?_ ?_
       rotate_left
       ·intro w'
        go_simp
        with_reducible rfl
       rotate_left
       ·simp only [Act.put, sA, sB, sC, i64_w, i32_w]
        rfl
       refine take_ (i := 5) (N := some 102) (v := ?_) (a' := ?_) #[true, true, true, true, true, true, false, false, false, false, false, false, false, false, false, false, false, false, false, false, false, false, false, false, false, false, false, false, false, false, false, false] rfl rfl (by kernel_rfl) (fun _ _ _ h => h) (Or.inl ⟨by rfl, ?_⟩) hHeld ?_ ?_
       rotate_left
       ·rintro w' ⟨s0, s1, s2, s3, s4, s5, s6, s7, s8, s9, s10, s11, s12, s13, s14, s15, s16, s17⟩
        go_simp
        with_reducible rfl
       rotate_left
       ·simp only [Act.put, sA, sB, sC, i64_w, i32_w]
        rfl
       refine take_ (i := 6) (N := some 103) (v := ?_) (a' := ?_) #[true, true, true, true, true, true, true, false, false, false, false, false, false, false, false, false, false, false, false, false, false, false, false, false, false, false, false, false, false, false, false, false] rfl rfl (by kernel_rfl) (fun _ _ _ h => h) (Or.inl ⟨by rfl, ?_⟩) hHeld ?_ ?_
       rotate_left
       ·rintro w' ⟨s0, s1, s2, s3, s4, s5, s6, s7, s8, s9, s10, s11, s12, s13, s14, s15, s16, s17⟩
        go_simp
        with_reducible rfl
       rotate_left
       ·simp only [Act.put, sA, sB, sC, i64_w, i32_w]
        rfl
       refine one_ (i := 7) (N := some 104) #[true, true, true, true, true, true, true, true, false, false, false, false, false, false, false, false, false, false, false, false, false, false, false, false, false, false, false, false, false, false, false, false] rfl rfl (by kernel_rfl) (by decide) (fun K hK => ?_)
       refine goes_ Tryd.func22 (by kernel_rfl) rfl #[.agg #[.int .i64 a.f0, .string a.f1, .int .i64 a.f2, .slice V3 a.f3.length v3, .slice V4 a.f4.length v4, .slice V5 a.f5.length v5], .agg #[.int .i64 a.f0, .string a.f1, .int .i64 a.f2, .slice A3 a.f3.length c3, .slice A4 a.f4.length c4, .slice A5 a.f5.length c5]] (by rfl) rfl rfl (by simp only [List.map_toArray, List.map_cons, List.map_nil]; rfl) ?_
       (with_reducible refine (SA.out.at W9 (iV.out.below HB_) (iaS.out.below HB_)).mono ?_)
       rintro e w11 ⟨rfl, hb11⟩
       refine ⟨_, rfl, ?_⟩
       have HB11 := below_step HB_ hb11
       refine hK.out _ _ (cat6 (blk_below hxas.out HB11) (cat6 (blk_below hxbs.out HB11) (six (blk_below hxs.out HB11)))) (fun hHeld => ?_)
       clear hK K
       refine norm_ (a' := ?_) ?_ ?_
       rotate_left
       ·show Act.put _ (some 104) _ = _
        simp only [Act.put, sA, sB, sC, i64_w, i32_w]
        rfl
       refine pure_ (i := 8) (N := some 105) (v := ?_) (a' := ?_) #[true, true, true, true, true, true, true, true, true, false, false, false, false, false, false, false, false, false, false, false, false, false, false, false, false, false, false, false, false, false, false, false] rfl rfl (by kernel_rfl) (fun _ _ _ h => h) (Or.inl ⟨by rfl, ?_⟩) ?_ ?_
       rotate_left
       ·intro w'
        go_simp
        with_reducible rfl
       rotate_left
       ·simp only [Act.put, sA, sB, sC, i64_w, i32_w]
        rfl
       refine pure_ (i := 9) (N := some 106) (v := ?_) (a' := ?_) #[true, true, true, true, true, true, true, true, true, true, false, false, false, false, false, false, false, false, false, false, false, false, false, false, false, false, false, false, false, false, false, false] rfl rfl (by kernel_rfl) (fun _ _ _ h => h) (Or.inl ⟨by rfl, ?_⟩) ?_ ?_
       rotate_left
       ·intro w'
        go_simp
        with_reducible rfl
       rotate_left
       ·simp only [Act.put, sA, sB, sC, i64_w, i32_w]
        rfl
       refine pure_ (i := 10) (N := some 107) (v := ?_) (a' := ?_) #[true, true, true, true, true, true, true, true, true, true, true, false, false, false, false, false, false, false, false, false, false, false, false, false, false, false, false, false, false, false, false, false] rfl rfl (by kernel_rfl) (fun _ _ _ h => h) (Or.inl ⟨by rfl, ?_⟩) ?_ ?_
       rotate_left
       ·intro w'
        go_simp
        with_reducible rfl
       rotate_left
       ·simp only [Act.put, sA, sB, sC, i64_w, i32_w]
        rfl
       refine take_ (i := 11) (N := some 108) (v := ?_) (a' := ?_) #[true, true, true, true, true, true, true, true, true, true, true, true, false, false, false, false, false, false, false, false, false, false, false, false, false, false, false, false, false, false, false, false] rfl rfl (by kernel_rfl) (fun _ _ _ h => h) (Or.inl ⟨by rfl, ?_⟩) hHeld ?_ ?_
       rotate_left
       ·rintro w' ⟨s0, s1, s2, s3, s4, s5, s6, s7, s8, s9, s10, s11, s12, s13, s14, s15, s16, s17⟩
        go_simp
        with_reducible rfl
       rotate_left
       ·simp only [Act.put, sA, sB, sC, i64_w, i32_w]
        rfl
       refine one_ (i := 12) (N := some 109) #[true, true, true, true, true, true, true, true, true, true, true, true, true, false, false, false, false, false, false, false, false, false, false, false, false, false, false, false, false, false, false, false] rfl rfl (by kernel_rfl) (by decide) (fun K hK => ?_)
       refine goes_ Tryd.func15 (by kernel_rfl) rfl #[.agg #[.int .i64 b.f0, .string b.f1, .int .i64 b.f2, .slice B3 b.f3.length d3, .slice B4 b.f4.length d4, .slice B5 b.f5.length d5]] (by rfl) rfl rfl (by simp only [List.map_toArray, List.map_cons, List.map_nil]; rfl) ?_
       (with_reducible refine (CN5.out w11 (ibS.out.below HB11)).mono ?_)
       rintro e w12 ⟨N5, n5, rfl, hn5, hC5, hb12⟩
       refine ⟨_, rfl, ?_⟩
       have HB12 := below_step HB11 hb12
       refine hK.out _ _ (cat6 (blk_below hxas.out HB12) (cat6 (blk_below hxbs.out HB12) (six (blk_below hxs.out HB12)))) (fun hHeld => ?_)
       clear hK K
       refine norm_ (a' := ?_) ?_ ?_
       rotate_left
       ·show Act.put _ (some 109) _ = _
        simp only [Act.put, sA, sB, sC, i64_w, i32_w]
        rfl
       refine pure_ (i := 13) (N := some 110) (v := ?_) (a' := ?_) #[true, true, true, true, true, true, true, true, true, true, true, true, true, true, false, false, false, false, false, false, false, false, false, false, false, false, false, false, false, false, false, false] rfl rfl (by kernel_rfl) (fun _ _ _ h => h) (Or.inl ⟨by rfl, ?_⟩) ?_ ?_
       rotate_left
       ·intro w'
        go_simp
        with_reducible rfl
       rotate_left
       ·simp only [Act.put, sA, sB, sC, i64_w, i32_w]
        rfl
       refine pure_ (i := 14) (N := some 111) (v := ?_) (a' := ?_) #[true, true, true, true, true, true, true, true, true, true, true, true, true, true, true, false, false, false, false, false, false, false, false, false, false, false, false, false, false, false, false, false] rfl rfl (by kernel_rfl) (fun _ _ _ h => h) (Or.inl ⟨by rfl, ?_⟩) ?_ ?_
       rotate_left
       ·intro w'
        go_simp
        with_reducible rfl
       rotate_left
       ·simp only [Act.put, sA, sB, sC, i64_w, i32_w]
        rfl
       refine pure_ (i := 15) (N := some 112) (v := ?_) (a' := ?_) #[true, true, true, true, true, true, true, true, true, true, true, true, true, true, true, true, false, false, false, false, false, false, false, false, false, false, false, false, false, false, false, false] rfl rfl (by kernel_rfl) (fun _ _ _ h => h) (Or.inl ⟨by rfl, ?_⟩) ?_ ?_
       rotate_left
       ·intro w'
        go_simp
        with_reducible rfl
       rotate_left
       ·simp only [Act.put, sA, sB, sC, i64_w, i32_w]
        rfl
       refine pure_ (i := 18) (N := some 115) (v := ?_) (a' := ?_) #[true, true, true, true, true, true, true, true, true, true, true, true, true, true, true, true, false, false, true, false, false, false, false, false, false, false, false, false, false, false, false, false] rfl rfl (by kernel_rfl) (fun _ _ _ h => h) (Or.inl ⟨by rfl, ?_⟩) ?_ ?_
       rotate_left
       ·intro w'
        go_simp
        with_reducible rfl
       rotate_left
       ·simp only [Act.put, sA, sB, sC, i64_w, i32_w]
        rfl
       refine take_ (i := 16) (N := some 113) (v := ?_) (a' := ?_) #[true, true, true, true, true, true, true, true, true, true, true, true, true, true, true, true, true, false, true, false, false, false, false, false, false, false, false, false, false, false, false, false] rfl rfl (by kernel_rfl) (fun _ _ _ h => h) (Or.inl ⟨by rfl, ?_⟩) hHeld ?_ ?_
       rotate_left
       ·rintro w' ⟨s0, s1, s2, s3, s4, s5, s6, s7, s8, s9, s10, s11, s12, s13, s14, s15, s16, s17⟩
        go_simp
        with_reducible rfl
       rotate_left
       ·simp only [Act.put, sA, sB, sC, i64_w, i32_w]
        rfl
       refine one_ (i := 17) (N := some 114) #[true, true, true, true, true, true, true, true, true, true, true, true, true, true, true, true, true, true, true, false, false, false, false, false, false, false, false, false, false, false, false, false] rfl rfl (by kernel_rfl) (by decide) (fun K hK => ?_)
       refine goes_ Tryd.func15 (by kernel_rfl) rfl #[.agg #[.int .i64 a.f0, .string a.f1, .int .i64 a.f2, .slice V3 a.f3.length v3, .slice V4 a.f4.length v4, .slice V5 a.f5.length v5]] (by rfl) rfl rfl (by simp only [List.map_toArray, List.map_cons, List.map_nil]; rfl) ?_
       (with_reducible refine (CN6.out w12 (iV.out.below HB12)).mono ?_)
       rintro e w13 ⟨N6, n6, rfl, hn6, hC6, hb13⟩
       refine ⟨_, rfl, ?_⟩
       have HB13 := below_step HB12 hb13
       refine hK.out _ _ (cat6 (blk_below hxas.out HB13) (cat6 (blk_below hxbs.out HB13) (six (blk_below hxs.out HB13)))) (fun hHeld => ?_)
       clear hK K
       refine norm_ (a' := ?_) ?_ ?_
       rotate_left
       ·show Act.put _ (some 114) _ = _
        simp only [Act.put, sA, sB, sC, i64_w, i32_w]
        rfl
       refine one_ (i := 19) (N := some 116) #[true, true, true, true, true, true, true, true, true, true, true, true, true, true, true, true, true, true, true, true, false, false, false, false, false, false, false, false, false, false, false, false] rfl rfl (by kernel_rfl) (by decide) (fun K hK => ?_)
       refine goes_ Tryd.func12 (by kernel_rfl) rfl #[.slice N6 nv.length n6, .string s] (by rfl) rfl rfl (by simp only [List.map_toArray, List.map_cons, List.map_nil]; rfl) ?_
       (with_reducible refine (has_g nv (by have := lv.out; omega) rfl s L5' w13 hC6 hn6).mono ?_)
       rintro e w14 ⟨rfl, hb14⟩
       refine ⟨_, rfl, ?_⟩
       have HB14 := below_step HB13 hb14
       refine hK.out _ _ (cat6 (blk_below hxas.out HB14) (cat6 (blk_below hxbs.out HB14) (six (blk_below hxs.out HB14)))) (fun hHeld => ?_)
       clear hK K
       refine norm_ (a' := ?_) ?_ ?_
       rotate_left
       ·show Act.put _ (some 116) _ = _
        simp only [Act.put, sA, sB, sC, i64_w, i32_w]
        rfl
       refine pure_ (i := 20) (N := some 117) (v := ?_) (a' := ?_) #[true, true, true, true, true, true, true, true, true, true, true, true, true, true, true, true, true, true, true, true, true, false, false, false, false, false, false, false, false, false, false, false] rfl rfl (by kernel_rfl) (fun _ _ _ h => h) (Or.inl ⟨by rfl, ?_⟩) ?_ ?_
       rotate_left
       ·intro w'
        go_simp
        with_reducible rfl
       rotate_left
       ·simp only [Act.put, sA, sB, sC, i64_w, i32_w]
        rfl
       refine pure_ (i := 21) (N := some 118) (v := ?_) (a' := ?_) #[true, true, true, true, true, true, true, true, true, true, true, true, true, true, true, true, true, true, true, true, true, true, false, false, false, false, false, false, false, false, false, false] rfl rfl (by kernel_rfl) (fun _ _ _ h => h) (Or.inl ⟨by rfl, ?_⟩) ?_ ?_
       rotate_left
       ·intro w'
        go_simp
        with_reducible rfl
       rotate_left
       ·simp only [Act.put, sA, sB, sC, i64_w, i32_w]
        rfl
       refine pure_ (i := 22) (N := some 119) (v := ?_) (a' := ?_) #[true, true, true, true, true, true, true, true, true, true, true, true, true, true, true, true, true, true, true, true, true, true, true, false, false, false, false, false, false, false, false, false] rfl rfl (by kernel_rfl) (fun _ _ _ h => h) (Or.inl ⟨by rfl, ?_⟩) ?_ ?_
       rotate_left
       ·intro w'
        go_simp
        with_reducible rfl
       rotate_left
       ·simp only [Act.put, sA, sB, sC, i64_w, i32_w]
        rfl
       refine pure_ (i := 23) (N := some 120) (v := ?_) (a' := ?_) #[true, true, true, true, true, true, true, true, true, true, true, true, true, true, true, true, true, true, true, true, true, true, true, true, false, false, false, false, false, false, false, false] rfl rfl (by kernel_rfl) (fun _ _ _ h => h) (Or.inl ⟨by rfl, ?_⟩) ?_ ?_
       rotate_left
       ·intro w'
        go_simp
        with_reducible rfl
       rotate_left
       ·simp only [Act.put, sA, sB, sC, i64_w, i32_w]
        rfl
       refine pure_ (i := 25) (N := some 122) (v := ?_) (a' := ?_) #[true, true, true, true, true, true, true, true, true, true, true, true, true, true, true, true, true, true, true, true, true, true, true, true, false, true, false, false, false, false, false, false] rfl rfl (by kernel_rfl) (fun _ _ _ h => h) (Or.inl ⟨by rfl, ?_⟩) ?_ ?_
       rotate_left
       ·intro w'
        go_simp
        with_reducible rfl
       rotate_left
       ·simp only [Act.put, sA, sB, sC, i64_w, i32_w]
        rfl
       refine pure_ (i := 26) (N := some 123) (v := ?_) (a' := ?_) #[true, true, true, true, true, true, true, true, true, true, true, true, true, true, true, true, true, true, true, true, true, true, true, true, false, true, true, false, false, false, false, false] rfl rfl (by kernel_rfl) (fun _ _ _ h => h) (Or.inl ⟨by rfl, ?_⟩) ?_ ?_
       rotate_left
       ·intro w'
        go_simp
        with_reducible rfl
       rotate_left
       ·simp only [Act.put, sA, sB, sC, i64_w, i32_w]
        rfl
       refine take_ (i := 24) (N := some 121) (v := ?_) (a' := ?_) #[true, true, true, true, true, true, true, true, true, true, true, true, true, true, true, true, true, true, true, true, true, true, true, true, true, true, true, false, false, false, false, false] rfl rfl (by kernel_rfl) (fun _ _ _ h => h) (Or.inl ⟨by rfl, ?_⟩) hHeld ?_ ?_
       rotate_left
       ·rintro w' ⟨s0, s1, s2, s3, s4, s5, s6, s7, s8, s9, s10, s11, s12, s13, s14, s15, s16, s17⟩
        go_simp
        with_reducible rfl
       rotate_left
       ·simp only [Act.put, sA, sB, sC, i64_w, i32_w]
        rfl
       refine take_ (i := 28) (N := some 125) (v := ?_) (a' := ?_) #[true, true, true, true, true, true, true, true, true, true, true, true, true, true, true, true, true, true, true, true, true, true, true, true, true, true, true, false, true, false, false, false] rfl rfl (by kernel_rfl) (fun _ _ _ h => h) (Or.inl ⟨by rfl, ?_⟩) hHeld ?_ ?_
       rotate_left
       ·rintro w' ⟨s0, s1, s2, s3, s4, s5, s6, s7, s8, s9, s10, s11, s12, s13, s14, s15, s16, s17⟩
        go_simp
        with_reducible rfl
       rotate_left
       ·simp only [Act.put, sA, sB, sC, i64_w, i32_w]
        rfl
       refine one_ (i := 27) (N := some 124) #[true, true, true, true, true, true, true, true, true, true, true, true, true, true, true, true, true, true, true, true, true, true, true, true, true, true, true, true, true, false, false, false] rfl rfl (by kernel_rfl) (by decide) (fun K hK => ?_)
       refine goes_ Tryd.func24 (by kernel_rfl) rfl #[.agg #[.int .i64 a.f0, .string a.f1, .int .i64 a.f2, .slice A3 a.f3.length c3, .slice A4 a.f4.length c4, .slice A5 a.f5.length c5], .string s, .string s] (by rfl) rfl rfl (by simp only [List.map_toArray, List.map_cons, List.map_nil]; rfl) ?_
       (with_reducible refine (rename_calls CRA.out L6.out w14 (iaS.out.below HB14)).mono ?_)
       rintro e w15 ⟨R3, R4, R5, r3, r4, r5, rfl, hR, hb15⟩
       refine ⟨_, rfl, ?_⟩
       have HB15 := below_step HB14 hb15
       refine hK.out _ _ (cat6 (blk_below hxas.out HB15) (cat6 (blk_below hxbs.out HB15) (six (blk_below hxs.out HB15)))) (fun hHeld => ?_)
       clear hK K
       refine norm_ (a' := ?_) ?_ ?_
       rotate_left
       ·show Act.put _ (some 124) _ = _
        simp only [Act.put, sA, sB, sC, i64_w, i32_w]
        rfl
       refine one_ (i := 29) (N := some 126) #[true, true, true, true, true, true, true, true, true, true, true, true, true, true, true, true, true, true, true, true, true, true, true, true, true, true, true, true, true, true, false, false] rfl rfl (by kernel_rfl) (by decide) (fun K hK => ?_)
       refine goes_ Tryd.func22 (by kernel_rfl) rfl #[.agg #[.int .i64 a.f0, .string a.f1, .int .i64 a.f2, .slice R3 a.f3.length r3, .slice R4 a.f4.length r4, .slice R5 a.f5.length r5], .agg #[.int .i64 a.f0, .string a.f1, .int .i64 a.f2, .slice A3 a.f3.length c3, .slice A4 a.f4.length c4, .slice A5 a.f5.length c5]] (by rfl) rfl rfl (by simp only [List.map_toArray, List.map_cons, List.map_nil]; rfl) ?_
       (with_reducible refine (SA.out.at w15 hR.in (iaS.out.below HB15)).mono ?_)
       rintro e w16 ⟨rfl, hb16⟩
       refine ⟨_, rfl, ?_⟩
       have HB16 := below_step HB15 hb16
       have HBz := Aside0.mk (below_step HBs.out HB16)
       refine hK.out _ _ (cat6 (blk_below hxas.out HB16) (cat6 (blk_below hxbs.out HB16) (six (blk_below hxs.out HB16)))) (fun hHeld => ?_)
       clear hK K
       refine norm_ (a' := ?_) ?_ ?_
       rotate_left
       ·show Act.put _ (some 126) _ = _
        simp only [Act.put, sA, sB, sC, i64_w, i32_w]
        rfl
       refine pure_ (i := 30) (N := some 127) (v := ?_) (a' := ?_) #[true, true, true, true, true, true, true, true, true, true, true, true, true, true, true, true, true, true, true, true, true, true, true, true, true, true, true, true, true, true, true, false] rfl rfl (by kernel_rfl) (fun _ _ _ h => h) (Or.inl ⟨by rfl, ?_⟩) ?_ ?_
       rotate_left
       ·intro w'
        go_simp
        with_reducible rfl
       rotate_left
       ·simp only [Act.put, sA, sB, sC, i64_w, i32_w]
        rfl
       refine pure_ (i := 31) (N := some 6) (v := ?_) (a' := ?_) #[true, true, true, true, true, true, true, true, true, true, true, true, true, true, true, true, true, true, true, true, true, true, true, true, true, true, true, true, true, true, true, true] rfl rfl (by kernel_rfl) (fun _ _ _ h => h) (Or.inl ⟨by rfl, ?_⟩) ?_ ?_
       rotate_left
       ·intro w'
        go_simp
        with_reducible rfl
       rotate_left
       ·simp only [Act.put, sA, sB, sC, i64_w, i32_w]
        rfl
       refine done_ (by kernel_rfl) ?_
       clear hHeld
       go_wp2
       go_ret
       exact ⟨rfl, HW4.out.trans (HBz.out.mono HW4.out.size)⟩
      ·have qn : decide ((0 : Int) < (nb.length : Int)) = true := decide_eq_true (by omega)
       have qm : 0 < nb.length := by omega
       have HB_ : Below Ws.heap.size Ws Ws.drew := below_drew1 (Below.refl _ _)
       refine start_ (n := 32) (S := fun w' => w'.cell? ⟨w.heap.size, 0, none⟩ = some (.int .i64 a.f0) ∧ w'.cell? ⟨w.heap.size, 1, none⟩ = some (.string a.f1) ∧ w'.cell? ⟨w.heap.size, 2, none⟩ = some (.int .i64 a.f2) ∧ w'.cell? ⟨w.heap.size, 3, none⟩ = some (.slice A3 a.f3.length c3) ∧ w'.cell? ⟨w.heap.size, 4, none⟩ = some (.slice A4 a.f4.length c4) ∧ w'.cell? ⟨w.heap.size, 5, none⟩ = some (.slice A5 a.f5.length c5) ∧ w'.cell? ⟨w.heap.size + 1, 0, none⟩ = some (.int .i64 b.f0) ∧ w'.cell? ⟨w.heap.size + 1, 1, none⟩ = some (.string b.f1) ∧ w'.cell? ⟨w.heap.size + 1, 2, none⟩ = some (.int .i64 b.f2) ∧ w'.cell? ⟨w.heap.size + 1, 3, none⟩ = some (.slice B3 b.f3.length d3) ∧ w'.cell? ⟨w.heap.size + 1, 4, none⟩ = some (.slice B4 b.f4.length d4) ∧ w'.cell? ⟨w.heap.size + 1, 5, none⟩ = some (.slice B5 b.f5.length d5) ∧ w'.cell? ⟨w10.heap.size, 0, none⟩ = some (.int .i64 a.f0) ∧ w'.cell? ⟨w10.heap.size, 1, none⟩ = some (.string a.f1) ∧ w'.cell? ⟨w10.heap.size, 2, none⟩ = some (.int .i64 a.f2) ∧ w'.cell? ⟨w10.heap.size, 3, none⟩ = some (.slice V3 a.f3.length v3) ∧ w'.cell? ⟨w10.heap.size, 4, none⟩ = some (.slice V4 a.f4.length v4) ∧ w'.cell? ⟨w10.heap.size, 5, none⟩ = some (.slice V5 a.f5.length v5)) (ds := []) #[false, false, false, false, false, false, false, false, false, false, false, false, false, false, false, false, false, false, false, false, false, false, false, false, false, false, false, false, false, false, false, false] (by kernel_rfl) rfl rfl (cat6 (blk_below hxas.out HB_) (cat6 (blk_below hxbs.out HB_) (six (blk_below hxs.out HB_)))) (fun hHeld => ?_)
       generalize Ws.drew = W9 at *
       refine pure_ (i := 0) (N := some 97) (v := ?_) (a' := ?_) #[true, false, false, false, false, false, false, false, false, false, false, false, false, false, false, false, false, false, false, false, false, false, false, false, false, false, false, false, false, false, false, false] rfl rfl (by kernel_rfl) (fun _ _ _ h => h) (Or.inl ⟨by rfl, ?_⟩) ?_ ?_
       rotate_left
       ·intro w'
        go_simp
        with_reducible rfl
       rotate_left
       ·simp only [Act.put, sA, sB, sC, i64_w, i32_w]
        rfl
       refine pure_ (i := 1) (N := some 98) (v := ?_) (a' := ?_) #[true, true, false, false, false, false, false, false, false, false, false, false, false, false, false, false, false, false, false, false, false, false, false, false, false, false, false, false, false, false, false, false] rfl rfl (by kernel_rfl) (fun _ _ _ h => h) (Or.inl ⟨by rfl, ?_⟩) ?_ ?_
       rotate_left
       ·intro w'
        go_simp
        with_reducible rfl
       rotate_left
       ·simp only [Act.put, sA, sB, sC, i64_w, i32_w]
        rfl
       refine pure_ (i := 2) (N := some 99) (v := ?_) (a' := ?_) #[true, true, true, false, false, false, false, false, false, false, false, false, false, false, false, false, false, false, false, false, false, false, false, false, false, false, false, false, false, false, false, false] rfl rfl (by kernel_rfl) (fun _ _ _ h => h) (Or.inl ⟨by rfl, ?_⟩) ?_ ?_
       rotate_left
       ·intro w'
        go_simp
        with_reducible rfl
       rotate_left
       ·simp only [Act.put, sA, sB, sC, i64_w, i32_w]
        rfl
       refine pure_ (i := 3) (N := some 100) (v := ?_) (a' := ?_) #[true, true, true, true, false, false, false, false, false, false, false, false, false, false, false, false, false, false, false, false, false, false, false, false, false, false, false, false, false, false, false, false] rfl rfl (by kernel_rfl) (fun _ _ _ h => h) (Or.inl ⟨by rfl, ?_⟩) ?_ ?_
       rotate_left
       ·intro w'
        go_simp
        with_reducible rfl
       rotate_left
       ·simp only [Act.put, sA, sB, sC, i64_w, i32_w]
        rfl
       refine pure_ (i := 4) (N := some 101) (v := ?_) (a' := ?_) #[true, true, true, true, true, false, false, false, false, false, false, false, false, false, false, false, false, false, false, false, false, false, false, false, false, false, false, false, false, false, false, false] rfl rfl (by kernel_rfl) (fun _ _ _ h => h) (Or.inl ⟨by rfl, ?_⟩) ?_ ?_
       rotate_left
       ·intro w'
        go_simp
        with_reducible rfl
       rotate_left
       ·simp only [Act.put, sA, sB, sC, i64_w, i32_w]
        rfl
       refine take_ (i := 5) (N := some 102) (v := ?_) (a' := ?_) #[true, true, true, true, true, true, false, false, false, false, false, false, false, false, false, false, false, false, false, false, false, false, false, false, false, false, false, false, false, false, false, false] rfl rfl (by kernel_rfl) (fun _ _ _ h => h) (Or.inl ⟨by rfl, ?_⟩) hHeld ?_ ?_
       rotate_left
       ·rintro w' ⟨s0, s1, s2, s3, s4, s5, s6, s7, s8, s9, s10, s11, s12, s13, s14, s15, s16, s17⟩
        go_simp
        with_reducible rfl
       rotate_left
       ·simp only [Act.put, sA, sB, sC, i64_w, i32_w]
        rfl
       refine take_ (i := 6) (N := some 103) (v := ?_) (a' := ?_) #[true, true, true, true, true, true, true, false, false, false, false, false, false, false, false, false, false, false, false, false, false, false, false, false, false, false, false, false, false, false, false, false] rfl rfl (by kernel_rfl) (fun _ _ _ h => h) (Or.inl ⟨by rfl, ?_⟩) hHeld ?_ ?_
       rotate_left
       ·rintro w' ⟨s0, s1, s2, s3, s4, s5, s6, s7, s8, s9, s10, s11, s12, s13, s14, s15, s16, s17⟩
        go_simp
        with_reducible rfl
       rotate_left
       ·simp only [Act.put, sA, sB, sC, i64_w, i32_w]
        rfl
       refine one_ (i := 7) (N := some 104) #[true, true, true, true, true, true, true, true, false, false, false, false, false, false, false, false, false, false, false, false, false, false, false, false, false, false, false, false, false, false, false, false] rfl rfl (by kernel_rfl) (by decide) (fun K hK => ?_)
       refine goes_ Tryd.func22 (by kernel_rfl) rfl #[.agg #[.int .i64 a.f0, .string a.f1, .int .i64 a.f2, .slice V3 a.f3.length v3, .slice V4 a.f4.length v4, .slice V5 a.f5.length v5], .agg #[.int .i64 a.f0, .string a.f1, .int .i64 a.f2, .slice A3 a.f3.length c3, .slice A4 a.f4.length c4, .slice A5 a.f5.length c5]] (by rfl) rfl rfl (by simp only [List.map_toArray, List.map_cons, List.map_nil]; rfl) ?_
       (with_reducible refine (SA.out.at W9 (iV.out.below HB_) (iaS.out.below HB_)).mono ?_)
       rintro e w11 ⟨rfl, hb11⟩
       refine ⟨_, rfl, ?_⟩
       have HB11 := below_step HB_ hb11
       refine hK.out _ _ (cat6 (blk_below hxas.out HB11) (cat6 (blk_below hxbs.out HB11) (six (blk_below hxs.out HB11)))) (fun hHeld => ?_)
       clear hK K
       refine norm_ (a' := ?_) ?_ ?_
       rotate_left
       ·show Act.put _ (some 104) _ = _
        simp only [Act.put, sA, sB, sC, i64_w, i32_w]
        rfl
       refine pure_ (i := 8) (N := some 105) (v := ?_) (a' := ?_) #[true, true, true, true, true, true, true, true, true, false, false, false, false, false, false, false, false, false, false, false, false, false, false, false, false, false, false, false, false, false, false, false] rfl rfl (by kernel_rfl) (fun _ _ _ h => h) (Or.inl ⟨by rfl, ?_⟩) ?_ ?_
       rotate_left
       ·intro w'
        go_simp
        with_reducible rfl
       rotate_left
       ·simp only [Act.put, sA, sB, sC, i64_w, i32_w]
        rfl
       refine pure_ (i := 9) (N := some 106) (v := ?_) (a' := ?_) #[true, true, true, true, true, true, true, true, true, true, false, false, false, false, false, false, false, false, false, false, false, false, false, false, false, false, false, false, false, false, false, false] rfl rfl (by kernel_rfl) (fun _ _ _ h => h) (Or.inl ⟨by rfl, ?_⟩) ?_ ?_
       rotate_left
       ·intro w'
        go_simp
        with_reducible rfl
       rotate_left
       ·simp only [Act.put, sA, sB, sC, i64_w, i32_w]
        rfl
       refine pure_ (i := 10) (N := some 107) (v := ?_) (a' := ?_) #[true, true, true, true, true, true, true, true, true, true, true, false, false, false, false, false, false, false, false, false, false, false, false, false, false, false, false, false, false, false, false, false] rfl rfl (by kernel_rfl) (fun _ _ _ h => h) (Or.inl ⟨by rfl, ?_⟩) ?_ ?_
       rotate_left
       ·intro w'
        go_simp
        with_reducible rfl
       rotate_left
       ·simp only [Act.put, sA, sB, sC, i64_w, i32_w]
        rfl
       refine take_ (i := 11) (N := some 108) (v := ?_) (a' := ?_) #[true, true, true, true, true, true, true, true, true, true, true, true, false, false, false, false, false, false, false, false, false, false, false, false, false, false, false, false, false, false, false, false] rfl rfl (by kernel_rfl) (fun _ _ _ h => h) (Or.inl ⟨by rfl, ?_⟩) hHeld ?_ ?_
       rotate_left
       ·rintro w' ⟨s0, s1, s2, s3, s4, s5, s6, s7, s8, s9, s10, s11, s12, s13, s14, s15, s16, s17⟩
        go_simp
        with_reducible rfl
       rotate_left
       ·simp only [Act.put, sA, sB, sC, i64_w, i32_w]
        rfl
       refine one_ (i := 12) (N := some 109) #[true, true, true, true, true, true, true, true, true, true, true, true, true, false, false, false, false, false, false, false, false, false, false, false, false, false, false, false, false, false, false, false] rfl rfl (by kernel_rfl) (by decide) (fun K hK => ?_)
       refine goes_ Tryd.func15 (by kernel_rfl) rfl #[.agg #[.int .i64 b.f0, .string b.f1, .int .i64 b.f2, .slice B3 b.f3.length d3, .slice B4 b.f4.length d4, .slice B5 b.f5.length d5]] (by rfl) rfl rfl (by simp only [List.map_toArray, List.map_cons, List.map_nil]; rfl) ?_
       (with_reducible refine (CN5.out w11 (ibS.out.below HB11)).mono ?_)
       rintro e w12 ⟨N5, n5, rfl, hn5, hC5, hb12⟩
       refine ⟨_, rfl, ?_⟩
       have HB12 := below_step HB11 hb12
       refine hK.out _ _ (cat6 (blk_below hxas.out HB12) (cat6 (blk_below hxbs.out HB12) (six (blk_below hxs.out HB12)))) (fun hHeld => ?_)
       clear hK K
       refine norm_ (a' := ?_) ?_ ?_
       rotate_left
       ·show Act.put _ (some 109) _ = _
        simp only [Act.put, sA, sB, sC, i64_w, i32_w]
        rfl
       refine pure_ (i := 13) (N := some 110) (v := ?_) (a' := ?_) #[true, true, true, true, true, true, true, true, true, true, true, true, true, true, false, false, false, false, false, false, false, false, false, false, false, false, false, false, false, false, false, false] rfl rfl (by kernel_rfl) (fun _ _ _ h => h) (Or.inl ⟨by rfl, ?_⟩) ?_ ?_
       rotate_left
       ·intro w'
        go_simp
        with_reducible rfl
       rotate_left
       ·simp only [Act.put, sA, sB, sC, i64_w, i32_w]
        rfl
       refine pure_ (i := 14) (N := some 111) (v := ?_) (a' := ?_) #[true, true, true, true, true, true, true, true, true, true, true, true, true, true, true, false, false, false, false, false, false, false, false, false, false, false, false, false, false, false, false, false] rfl rfl (by kernel_rfl) (fun _ _ _ h => h) (Or.inl ⟨by rfl, ?_⟩) ?_ ?_
       rotate_left
       ·intro w'
        go_simp
        with_reducible rfl
       rotate_left
       ·simp only [Act.put, sA, sB, sC, i64_w, i32_w]
        rfl
       refine pure_ (i := 15) (N := some 112) (v := ?_) (a' := ?_) #[true, true, true, true, true, true, true, true, true, true, true, true, true, true, true, true, false, false, false, false, false, false, false, false, false, false, false, false, false, false, false, false] rfl rfl (by kernel_rfl) (fun _ _ _ h => h) (Or.inl ⟨by rfl, ?_⟩) ?_ ?_
       rotate_left
       ·intro w'
        go_simp
        with_reducible rfl
       rotate_left
       ·simp only [Act.put, sA, sB, sC, i64_w, i32_w]
        rfl
       refine pure_ (i := 16) (N := some 113) (v := undef) (a' := ?_) #[true, true, true, true, true, true, true, true, true, true, true, true, true, true, true, true, true, false, false, false, false, false, false, false, false, false, false, false, false, false, false, false] rfl rfl (by kernel_rfl) (fun _ _ _ h => h) (Or.inr ⟨by rfl, rfl⟩) ?_ ?_
       rotate_left
       ·simp only [Act.put, sA, sB, sC, i64_w, i32_w]
        rfl
       refine pure_ (i := 17) (N := some 114) (v := undef) (a' := ?_) #[true, true, true, true, true, true, true, true, true, true, true, true, true, true, true, true, true, true, false, false, false, false, false, false, false, false, false, false, false, false, false, false] rfl rfl (by kernel_rfl) (fun _ _ _ h => h) (Or.inr ⟨by rfl, rfl⟩) ?_ ?_
       rotate_left
       ·simp only [Act.put, sA, sB, sC, i64_w, i32_w]
        rfl
       refine pure_ (i := 18) (N := some 115) (v := undef) (a' := ?_) #[true, true, true, true, true, true, true, true, true, true, true, true, true, true, true, true, true, true, true, false, false, false, false, false, false, false, false, false, false, false, false, false] rfl rfl (by kernel_rfl) (fun _ _ _ h => h) (Or.inr ⟨by rfl, rfl⟩) ?_ ?_
       rotate_left
       ·simp only [Act.put, sA, sB, sC, i64_w, i32_w]
        rfl
       refine pure_ (i := 19) (N := some 116) (v := undef) (a' := ?_) #[true, true, true, true, true, true, true, true, true, true, true, true, true, true, true, true, true, true, true, true, false, false, false, false, false, false, false, false, false, false, false, false] rfl rfl (by kernel_rfl) (fun _ _ _ h => h) (Or.inr ⟨by rfl, rfl⟩) ?_ ?_
       rotate_left
       ·simp only [Act.put, sA, sB, sC, i64_w, i32_w]
        rfl
       refine pure_ (i := 20) (N := some 117) (v := undef) (a' := ?_) #[true, true, true, true, true, true, true, true, true, true, true, true, true, true, true, true, true, true, true, true, true, false, false, false, false, false, false, false, false, false, false, false] rfl rfl (by kernel_rfl) (fun _ _ _ h => h) (Or.inr ⟨by rfl, rfl⟩) ?_ ?_
       rotate_left
       ·simp only [Act.put, sA, sB, sC, i64_w, i32_w]
        rfl
       refine pure_ (i := 21) (N := some 118) (v := ?_) (a' := ?_) #[true, true, true, true, true, true, true, true, true, true, true, true, true, true, true, true, true, true, true, true, true, true, false, false, false, false, false, false, false, false, false, false] rfl rfl (by kernel_rfl) (fun _ _ _ h => h) (Or.inl ⟨by rfl, ?_⟩) ?_ ?_
       rotate_left
       ·intro w'
        go_simp
        with_reducible rfl
       rotate_left
       ·simp only [Act.put, sA, sB, sC, i64_w, i32_w]
        rfl
       refine pure_ (i := 22) (N := some 119) (v := ?_) (a' := ?_) #[true, true, true, true, true, true, true, true, true, true, true, true, true, true, true, true, true, true, true, true, true, true, true, false, false, false, false, false, false, false, false, false] rfl rfl (by kernel_rfl) (fun _ _ _ h => h) (Or.inl ⟨by rfl, ?_⟩) ?_ ?_
       rotate_left
       ·intro w'
        go_simp
        with_reducible rfl
       rotate_left
       ·simp only [Act.put, sA, sB, sC, i64_w, i32_w]
        rfl
       refine pure_ (i := 23) (N := some 120) (v := ?_) (a' := ?_) #[true, true, true, true, true, true, true, true, true, true, true, true, true, true, true, true, true, true, true, true, true, true, true, true, false, false, false, false, false, false, false, false] rfl rfl (by kernel_rfl) (fun _ _ _ h => h) (Or.inl ⟨by rfl, ?_⟩) ?_ ?_
       rotate_left
       ·intro w'
        go_simp
        with_reducible rfl
       rotate_left
       ·simp only [Act.put, sA, sB, sC, i64_w, i32_w]
        rfl
       refine pure_ (i := 25) (N := some 122) (v := ?_) (a' := ?_) #[true, true, true, true, true, true, true, true, true, true, true, true, true, true, true, true, true, true, true, true, true, true, true, true, false, true, false, false, false, false, false, false] rfl rfl (by kernel_rfl) (fun _ _ _ h => h) (Or.inl ⟨by rfl, ?_⟩) ?_ ?_
       rotate_left
       ·intro w'
        go_simp
        with_reducible rfl
       rotate_left
       ·simp only [Act.put, sA, sB, sC, i64_w, i32_w]
        rfl
       refine pure_ (i := 26) (N := some 123) (v := ?_) (a' := ?_) #[true, true, true, true, true, true, true, true, true, true, true, true, true, true, true, true, true, true, true, true, true, true, true, true, false, true, true, false, false, false, false, false] rfl rfl (by kernel_rfl) (fun _ _ _ h => h) (Or.inl ⟨by rfl, ?_⟩) ?_ ?_
       rotate_left
       ·intro w'
        go_simp
        with_reducible rfl
       rotate_left
       ·simp only [Act.put, sA, sB, sC, i64_w, i32_w]
        rfl
       refine take_ (i := 24) (N := some 121) (v := ?_) (a' := ?_) #[true, true, true, true, true, true, true, true, true, true, true, true, true, true, true, true, true, true, true, true, true, true, true, true, true, true, true, false, false, false, false, false] rfl rfl (by kernel_rfl) (fun _ _ _ h => h) (Or.inl ⟨by rfl, ?_⟩) hHeld ?_ ?_
       rotate_left
       ·rintro w' ⟨s0, s1, s2, s3, s4, s5, s6, s7, s8, s9, s10, s11, s12, s13, s14, s15, s16, s17⟩
        go_simp
        with_reducible rfl
       rotate_left
       ·simp only [Act.put, sA, sB, sC, i64_w, i32_w]
        rfl
       refine take_ (i := 28) (N := some 125) (v := ?_) (a' := ?_) #[true, true, true, true, true, true, true, true, true, true, true, true, true, true, true, true, true, true, true, true, true, true, true, true, true, true, true, false, true, false, false, false] rfl rfl (by kernel_rfl) (fun _ _ _ h => h) (Or.inl ⟨by rfl, ?_⟩) hHeld ?_ ?_
       rotate_left
       ·rintro w' ⟨s0, s1, s2, s3, s4, s5, s6, s7, s8, s9, s10, s11, s12, s13, s14, s15, s16, s17⟩
        go_simp
        with_reducible rfl
       rotate_left
       ·simp only [Act.put, sA, sB, sC, i64_w, i32_w]
        rfl
       refine one_ (i := 27) (N := some 124) #[true, true, true, true, true, true, true, true, true, true, true, true, true, true, true, true, true, true, true, true, true, true, true, true, true, true, true, true, true, false, false, false] rfl rfl (by kernel_rfl) (by decide) (fun K hK => ?_)
       refine goes_ Tryd.func24 (by kernel_rfl) rfl #[.agg #[.int .i64 a.f0, .string a.f1, .int .i64 a.f2, .slice A3 a.f3.length c3, .slice A4 a.f4.length c4, .slice A5 a.f5.length c5], .string s, .string s] (by rfl) rfl rfl (by simp only [List.map_toArray, List.map_cons, List.map_nil]; rfl) ?_
       (with_reducible refine (rename_calls CRA.out L6.out w12 (iaS.out.below HB12)).mono ?_)
       rintro e w13 ⟨R3, R4, R5, r3, r4, r5, rfl, hR, hb13⟩
       refine ⟨_, rfl, ?_⟩
       have HB13 := below_step HB12 hb13
       refine hK.out _ _ (cat6 (blk_below hxas.out HB13) (cat6 (blk_below hxbs.out HB13) (six (blk_below hxs.out HB13)))) (fun hHeld => ?_)
       clear hK K
       refine norm_ (a' := ?_) ?_ ?_
       rotate_left
       ·show Act.put _ (some 124) _ = _
        simp only [Act.put, sA, sB, sC, i64_w, i32_w]
        rfl
       refine one_ (i := 29) (N := some 126) #[true, true, true, true, true, true, true, true, true, true, true, true, true, true, true, true, true, true, true, true, true, true, true, true, true, true, true, true, true, true, false, false] rfl rfl (by kernel_rfl) (by decide) (fun K hK => ?_)
       refine goes_ Tryd.func22 (by kernel_rfl) rfl #[.agg #[.int .i64 a.f0, .string a.f1, .int .i64 a.f2, .slice R3 a.f3.length r3, .slice R4 a.f4.length r4, .slice R5 a.f5.length r5], .agg #[.int .i64 a.f0, .string a.f1, .int .i64 a.f2, .slice A3 a.f3.length c3, .slice A4 a.f4.length c4, .slice A5 a.f5.length c5]] (by rfl) rfl rfl (by simp only [List.map_toArray, List.map_cons, List.map_nil]; rfl) ?_
       (with_reducible refine (SA.out.at w13 hR.in (iaS.out.below HB13)).mono ?_)
       rintro e w14 ⟨rfl, hb14⟩
       refine ⟨_, rfl, ?_⟩
       have HB14 := below_step HB13 hb14
       have HBz := Aside0.mk (below_step HBs.out HB14)
       refine hK.out _ _ (cat6 (blk_below hxas.out HB14) (cat6 (blk_below hxbs.out HB14) (six (blk_below hxs.out HB14)))) (fun hHeld => ?_)
       clear hK K
       refine norm_ (a' := ?_) ?_ ?_
       rotate_left
       ·show Act.put _ (some 126) _ = _
        simp only [Act.put, sA, sB, sC, i64_w, i32_w]
        rfl
       refine pure_ (i := 30) (N := some 127) (v := ?_) (a' := ?_) #[true, true, true, true, true, true, true, true, true, true, true, true, true, true, true, true, true, true, true, true, true, true, true, true, true, true, true, true, true, true, true, false] rfl rfl (by kernel_rfl) (fun _ _ _ h => h) (Or.inl ⟨by rfl, ?_⟩) ?_ ?_
       rotate_left
       ·intro w'
        go_simp
        with_reducible rfl
       rotate_left
       ·simp only [Act.put, sA, sB, sC, i64_w, i32_w]
        rfl
       refine pure_ (i := 31) (N := some 6) (v := ?_) (a' := ?_) #[true, true, true, true, true, true, true, true, true, true, true, true, true, true, true, true, true, true, true, true, true, true, true, true, true, true, true, true, true, true, true, true] rfl rfl (by kernel_rfl) (fun _ _ _ h => h) (Or.inl ⟨by rfl, ?_⟩) ?_ ?_
       rotate_left
       ·intro w'
        go_simp
        with_reducible rfl
       rotate_left
       ·simp only [Act.put, sA, sB, sC, i64_w, i32_w]
        rfl
       refine done_ (by kernel_rfl) ?_
       clear hHeld
       go_wp2
       go_ret
       exact ⟨rfl, HW4.out.trans (HBz.out.mono HW4.out.size)⟩
     ·skip
      go_wp2_with (first | (clear T1; go_at_call 12; go_loud (with_reducible refine CL.mono ?_); rintro e w5 ⟨rfl, hb5⟩; have HB5 := Aside0.mk (below_step hBr.out hb5); clear hb5 CL K1 K3 q1; have T2 : True := trivial))
      have hlen : nm.length + 1 = na.length := by have := L2.out; simp only [if_true] at this; omega
      have hw0 : wrap64 ((na.length : Int) - 1) = (nm.length : Int) := by rw [← hlen]; have := lm.out; unfold wrap64; omega
      clear hlen
      have HB_ : Below w5.heap.size w5 w5.drew := below_drew1 (Below.refl _ _)
      refine start_ (n := 23) (S := fun w' => w'.cell? ⟨w2.heap.size, 0, none⟩ = some (.int .i64 6) ∧ w'.cell? ⟨w2.heap.size, 1, none⟩ = some (.string ⟨#[]⟩) ∧ w'.cell? ⟨w2.heap.size, 2, none⟩ = some (.int .i64 0) ∧ w'.cell? ⟨w2.heap.size, 3, none⟩ = some (.slice X3 1 1) ∧ w'.cell? ⟨w2.heap.size, 4, none⟩ = some (.slice X4 1 1) ∧ w'.cell? ⟨w2.heap.size, 5, none⟩ = some (.slice none 0 0) ∧ w'.cell? ⟨w.heap.size + 1, 0, none⟩ = some (.int .i64 b.f0) ∧ w'.cell? ⟨w.heap.size + 1, 1, none⟩ = some (.string b.f1) ∧ w'.cell? ⟨w.heap.size + 1, 2, none⟩ = some (.int .i64 b.f2) ∧ w'.cell? ⟨w.heap.size + 1, 3, none⟩ = some (.slice B3 b.f3.length d3) ∧ w'.cell? ⟨w.heap.size + 1, 4, none⟩ = some (.slice B4 b.f4.length d4) ∧ w'.cell? ⟨w.heap.size + 1, 5, none⟩ = some (.slice B5 b.f5.length d5)) (ds := []) #[false, false, false, false, false, false, false, false, false, false, false, false, false, false, false, false, false, false, false, false, false, false, false] (by kernel_rfl) rfl rfl (cat6 (blk_below (blk_below hxf4.out HB5.out) HB_) (six (blk_below (blk_below hxb4.out HB5.out) HB_))) (fun hHeld => ?_)
      generalize w5.drew = W9 at *
      refine pure_ (i := 0) (N := some 70) (v := ?_) (a' := ?_) #[true, false, false, false, false, false, false, false, false, false, false, false, false, false, false, false, false, false, false, false, false, false, false] rfl rfl (by kernel_rfl) (fun _ _ _ h => h) (Or.inl ⟨by rfl, ?_⟩) ?_ ?_
      rotate_left
      ·intro w'
       go_simp
       with_reducible rfl
      rotate_left
      ·simp only [Act.put, sA, sB, sC, i64_w, i32_w]
       rfl
      refine pure_ (i := 1) (N := some 71) (v := ?_) (a' := ?_) #[true, true, false, false, false, false, false, false, false, false, false, false, false, false, false, false, false, false, false, false, false, false, false] rfl rfl (by kernel_rfl) (fun _ _ _ h => h) (Or.inl ⟨by rfl, ?_⟩) ?_ ?_
      rotate_left
      ·intro w'
       go_simp
       with_reducible rfl
      rotate_left
      ·simp only [Act.put, sA, sB, sC, i64_w, i32_w]
       rfl
      refine pure_ (i := 2) (N := some 72) (v := ?_) (a' := ?_) #[true, true, true, false, false, false, false, false, false, false, false, false, false, false, false, false, false, false, false, false, false, false, false] rfl rfl (by kernel_rfl) (fun _ _ _ h => h) (Or.inl ⟨by rfl, ?_⟩) ?_ ?_
      rotate_left
      ·intro w'
       go_simp
       with_reducible rfl
      rotate_left
      ·simp only [Act.put, sA, sB, sC, i64_w, i32_w]
       rfl
      refine pure_ (i := 3) (N := some 73) (v := ?_) (a' := ?_) #[true, true, true, true, false, false, false, false, false, false, false, false, false, false, false, false, false, false, false, false, false, false, false] rfl rfl (by kernel_rfl) (fun _ _ _ h => h) (Or.inl ⟨by rfl, ?_⟩) ?_ ?_
      rotate_left
      ·intro w'
       go_simp
       with_reducible rfl
      rotate_left
      ·simp only [Act.put, sA, sB, sC, i64_w, i32_w]
       rfl
      refine pure_ (i := 4) (N := some 74) (v := ?_) (a' := ?_) #[true, true, true, true, true, false, false, false, false, false, false, false, false, false, false, false, false, false, false, false, false, false, false] rfl rfl (by kernel_rfl) (fun _ _ _ h => h) (Or.inl ⟨by rfl, ?_⟩) ?_ ?_
      rotate_left
      ·intro w'
       go_simp
       with_reducible rfl
      rotate_left
      ·simp only [Act.put, sA, sB, sC, i64_w, i32_w]
       rfl
      refine pure_ (i := 5) (N := some 75) (v := ?_) (a' := ?_) #[true, true, true, true, true, true, false, false, false, false, false, false, false, false, false, false, false, false, false, false, false, false, false] rfl rfl (by kernel_rfl) (fun _ _ _ h => h) (Or.inl ⟨by rfl, ?_⟩) ?_ ?_
      rotate_left
      ·intro w'
       go_simp
       with_reducible rfl
      rotate_left
      ·simp only [Act.put, sA, sB, sC, i64_w, i32_w]
       rfl
      refine pure_ (i := 6) (N := some 76) (v := ?_) (a' := ?_) #[true, true, true, true, true, true, true, false, false, false, false, false, false, false, false, false, false, false, false, false, false, false, false] rfl rfl (by kernel_rfl) (fun _ _ _ h => h) (Or.inl ⟨by rfl, ?_⟩) ?_ ?_
      rotate_left
      ·intro w'
       go_simp
       with_reducible rfl
      rotate_left
      ·simp only [Act.put, sA, sB, sC, i64_w, i32_w]
       rfl
      refine pure_ (i := 7) (N := some 77) (v := ?_) (a' := ?_) #[true, true, true, true, true, true, true, true, false, false, false, false, false, false, false, false, false, false, false, false, false, false, false] rfl rfl (by kernel_rfl) (fun _ _ _ h => h) (Or.inl ⟨by rfl, ?_⟩) ?_ ?_
      rotate_left
      ·intro w'
       go_simp
       with_reducible rfl
      rotate_left
      ·simp only [Act.put, sA, sB, sC, i64_w, i32_w]
       rfl
      refine pure_ (i := 10) (N := some 80) (v := ?_) (a' := ?_) #[true, true, true, true, true, true, true, true, false, false, true, false, false, false, false, false, false, false, false, false, false, false, false] rfl rfl (by kernel_rfl) (fun _ _ _ h => h) (Or.inl ⟨by rfl, ?_⟩) ?_ ?_
      rotate_left
      ·intro w'
       go_simp
       with_reducible rfl
      rotate_left
      ·simp only [Act.put, sA, sB, sC, i64_w, i32_w]
       rfl
      refine take_ (i := 8) (N := some 78) (v := ?_) (a' := ?_) #[true, true, true, true, true, true, true, true, true, false, true, false, false, false, false, false, false, false, false, false, false, false, false] rfl rfl (by kernel_rfl) (fun _ _ _ h => h) (Or.inl ⟨by rfl, ?_⟩) hHeld ?_ ?_
      rotate_left
      ·rintro w' ⟨s0, s1, s2, s3, s4, s5, s6, s7, s8, s9, s10, s11⟩
       go_simp
       with_reducible rfl
      rotate_left
      ·simp only [Act.put, sA, sB, sC, i64_w, i32_w]
       rfl
      refine one_ (i := 9) (N := some 79) #[true, true, true, true, true, true, true, true, true, true, true, false, false, false, false, false, false, false, false, false, false, false, false] rfl rfl (by kernel_rfl) (by decide) (fun K hK => ?_)
      refine goes_ Tryd.func21 (by kernel_rfl) rfl #[.agg #[.int .i64 6, .string ⟨#[]⟩, .int .i64 0, .slice X3 1 1, .slice X4 1 1, .slice none 0 0]] (by rfl) rfl rfl (by simp only [List.map_toArray, List.map_cons, List.map_nil]; rfl) ?_
      (with_reducible refine (CB4.out W9 (iF4.out.below (below_step HB5.out HB_))).mono ?_)
      rintro e w6 ⟨M6, e6, rfl, he6, hC6, hb6⟩
      refine ⟨_, rfl, ?_⟩
      have HB6 := below_step HB_ hb6
      refine hK.out _ _ (cat6 (blk_below (blk_below hxf4.out HB5.out) HB6) (six (blk_below (blk_below hxb4.out HB5.out) HB6))) (fun hHeld => ?_)
      clear hK K
      refine norm_ (a' := ?_) ?_ ?_
      rotate_left
      ·show Act.put _ (some 79) _ = _
       simp only [Act.put, sA, sB, sC, i64_w, i32_w]
       rfl
      refine one_ (i := 11) (N := some 81) #[true, true, true, true, true, true, true, true, true, true, true, true, false, false, false, false, false, false, false, false, false, false, false] rfl rfl (by kernel_rfl) (by decide) (fun K hK => ?_)
      refine goes_ Tryd.func12 (by kernel_rfl) rfl #[.slice M6 bo.length e6, .string s] (by rfl) rfl rfl (by simp only [List.map_toArray, List.map_cons, List.map_nil]; rfl) ?_
      (with_reducible refine (has_g bo (by have := lo.out; omega) rfl s L3.out w6 hC6 he6).mono ?_)
      rintro e w7 ⟨rfl, hb7⟩
      refine ⟨_, rfl, ?_⟩
      have HB7 := below_step HB6 hb7
      refine hK.out _ _ (cat6 (blk_below (blk_below hxf4.out HB5.out) HB7) (six (blk_below (blk_below hxb4.out HB5.out) HB7))) (fun hHeld => ?_)
      clear hK K
      refine norm_ (a' := ?_) ?_ ?_
      rotate_left
      ·show Act.put _ (some 81) _ = _
       simp only [Act.put, sA, sB, sC, i64_w, i32_w]
       rfl
      refine pure_ (i := 12) (N := some 82) (v := ?_) (a' := ?_) #[true, true, true, true, true, true, true, true, true, true, true, true, true, false, false, false, false, false, false, false, false, false, false] rfl rfl (by kernel_rfl) (fun _ _ _ h => h) (Or.inl ⟨by rfl, ?_⟩) ?_ ?_
      rotate_left
      ·intro w'
       go_simp
       with_reducible rfl
      rotate_left
      ·simp only [Act.put, sA, sB, sC, i64_w, i32_w]
       rfl
      refine pure_ (i := 13) (N := some 83) (v := ?_) (a' := ?_) #[true, true, true, true, true, true, true, true, true, true, true, true, true, true, false, false, false, false, false, false, false, false, false] rfl rfl (by kernel_rfl) (fun _ _ _ h => h) (Or.inl ⟨by rfl, ?_⟩) ?_ ?_
      rotate_left
      ·intro w'
       go_simp
       with_reducible rfl
      rotate_left
      ·simp only [Act.put, sA, sB, sC, i64_w, i32_w]
       rfl
      refine pure_ (i := 14) (N := some 84) (v := ?_) (a' := ?_) #[true, true, true, true, true, true, true, true, true, true, true, true, true, true, true, false, false, false, false, false, false, false, false] rfl rfl (by kernel_rfl) (fun _ _ _ h => h) (Or.inl ⟨by rfl, ?_⟩) ?_ ?_
      rotate_left
      ·intro w'
       go_simp
       with_reducible rfl
      rotate_left
      ·simp only [Act.put, sA, sB, sC, i64_w, i32_w]
       rfl
      refine pure_ (i := 16) (N := some 86) (v := ?_) (a' := ?_) #[true, true, true, true, true, true, true, true, true, true, true, true, true, true, true, false, true, false, false, false, false, false, false] rfl rfl (by kernel_rfl) (fun _ _ _ h => h) (Or.inl ⟨by rfl, ?_⟩) ?_ ?_
      rotate_left
      ·intro w'
       go_simp
       with_reducible rfl
      rotate_left
      ·simp only [Act.put, sA, sB, sC, i64_w, i32_w]
       rfl
      refine take_ (i := 15) (N := some 85) (v := ?_) (a' := ?_) #[true, true, true, true, true, true, true, true, true, true, true, true, true, true, true, true, true, false, false, false, false, false, false] rfl rfl (by kernel_rfl) (fun _ _ _ h => h) (Or.inl ⟨by rfl, ?_⟩) hHeld ?_ ?_
      rotate_left
      ·rintro w' ⟨s0, s1, s2, s3, s4, s5, s6, s7, s8, s9, s10, s11⟩
       go_simp
       with_reducible rfl
      rotate_left
      ·simp only [Act.put, sA, sB, sC, i64_w, i32_w]
       rfl
      refine take_ (i := 17) (N := some 87) (v := ?_) (a' := ?_) #[true, true, true, true, true, true, true, true, true, true, true, true, true, true, true, true, true, true, false, false, false, false, false] rfl rfl (by kernel_rfl) (fun _ _ _ h => h) (Or.inl ⟨by rfl, ?_⟩) hHeld ?_ ?_
      rotate_left
      ·rintro w' ⟨s0, s1, s2, s3, s4, s5, s6, s7, s8, s9, s10, s11⟩
       go_simp
       with_reducible rfl
      rotate_left
      ·simp only [Act.put, sA, sB, sC, i64_w, i32_w]
       rfl
      refine take_ (i := 19) (N := some 89) (v := ?_) (a' := ?_) #[true, true, true, true, true, true, true, true, true, true, true, true, true, true, true, true, true, true, false, true, false, false, false] rfl rfl (by kernel_rfl) (fun _ _ _ h => h) (Or.inl ⟨by rfl, ?_⟩) hHeld ?_ ?_
      rotate_left
      ·rintro w' ⟨s0, s1, s2, s3, s4, s5, s6, s7, s8, s9, s10, s11⟩
       go_simp
       with_reducible rfl
      rotate_left
      ·simp only [Act.put, sA, sB, sC, i64_w, i32_w]
       rfl
      refine one_ (i := 18) (N := some 88) #[true, true, true, true, true, true, true, true, true, true, true, true, true, true, true, true, true, true, true, true, false, false, false] rfl rfl (by kernel_rfl) (by decide) (fun K hK => ?_)
      refine goes_ Tryd.func23 (by kernel_rfl) rfl #[.agg #[.int .i64 6, .string ⟨#[]⟩, .int .i64 0, .slice X3 1 1, .slice X4 1 1, .slice none 0 0], .string s, .agg #[.int .i64 b.f0, .string b.f1, .int .i64 b.f2, .slice B3 b.f3.length d3, .slice B4 b.f4.length d4, .slice B5 b.f5.length d5]] (by rfl) rfl rfl (by simp only [List.map_toArray, List.map_cons, List.map_nil]; rfl) ?_
      (with_reducible refine (substF_calls s b a CSF.out w7 (iF4.out.below (below_step HB5.out HB7)) (ib4.out.below (below_step HB5.out HB7))).mono ?_)
      rintro e w8 ⟨G3, G4, G5, g3, g4, g5, rfl, hG, hb8⟩
      refine ⟨_, rfl, ?_⟩
      have HB8 := below_step HB7 hb8
      refine hK.out _ _ (cat6 (blk_below (blk_below hxf4.out HB5.out) HB8) (six (blk_below (blk_below hxb4.out HB5.out) HB8))) (fun hHeld => ?_)
      clear hK K
      refine norm_ (a' := ?_) ?_ ?_
      rotate_left
      ·show Act.put _ (some 88) _ = _
       simp only [Act.put, sA, sB, sC, i64_w, i32_w]
       rfl
      refine one_ (i := 20) (N := some 90) #[true, true, true, true, true, true, true, true, true, true, true, true, true, true, true, true, true, true, true, true, true, false, false] rfl rfl (by kernel_rfl) (by decide) (fun K hK => ?_)
      refine goes_ Tryd.func22 (by kernel_rfl) rfl #[.agg #[.int .i64 6, .string ⟨#[]⟩, .int .i64 0, .slice G3 1 g3, .slice G4 1 g4, .slice G5 0 g5], .agg #[.int .i64 6, .string ⟨#[]⟩, .int .i64 0, .slice X3 1 1, .slice X4 1 1, .slice none 0 0]] (by rfl) rfl rfl (by simp only [List.map_toArray, List.map_cons, List.map_nil]; rfl) ?_
      (with_reducible refine (sameF_calls s a SF.out w8 hG.in (iF4.out.below (below_step HB5.out HB8))).mono ?_)
      rintro e w9 ⟨rfl, hb9⟩
      refine ⟨_, rfl, ?_⟩
      have HB9 := below_step HB8 hb9
      have HBy := Aside0.mk (below_step HB5.out HB9)
      refine hK.out _ _ (cat6 (blk_below (blk_below hxf4.out HB5.out) HB9) (six (blk_below (blk_below hxb4.out HB5.out) HB9))) (fun hHeld => ?_)
      clear hK K
      refine norm_ (a' := ?_) ?_ ?_
      rotate_left
      ·show Act.put _ (some 90) _ = _
       simp only [Act.put, sA, sB, sC, i64_w, i32_w]
       rfl
      refine pure_ (i := 21) (N := some 91) (v := ?_) (a' := ?_) #[true, true, true, true, true, true, true, true, true, true, true, true, true, true, true, true, true, true, true, true, true, true, false] rfl rfl (by kernel_rfl) (fun _ _ _ h => h) (Or.inl ⟨by rfl, ?_⟩) ?_ ?_
      rotate_left
      ·intro w'
       go_simp
       with_reducible rfl
      rotate_left
      ·simp only [Act.put, sA, sB, sC, i64_w, i32_w]
       rfl
      refine pure_ (i := 22) (N := some 92) (v := ?_) (a' := ?_) #[true, true, true, true, true, true, true, true, true, true, true, true, true, true, true, true, true, true, true, true, true, true, true] rfl rfl (by kernel_rfl) (fun _ _ _ h => h) (Or.inl ⟨by rfl, ?_⟩) ?_ ?_
      rotate_left
      ·intro w'
       go_simp
       with_reducible rfl
      rotate_left
      ·simp only [Act.put, sA, sB, sC, i64_w, i32_w]
       rfl
      refine done_ (by kernel_rfl) ?_
      clear hHeld
      clear hb6 hC6 hb7 hG hb8 hb9 HB_ HB6 HB7 HB8 HB9 he6
      (have ka0 := (blk_cell (blk_below hxa4.out HBy.out) 0).trans rfl)
      (have ka1 := (blk_cell (blk_below hxa4.out HBy.out) 1).trans rfl)
      (have ka2 := (blk_cell (blk_below hxa4.out HBy.out) 2).trans rfl)
      (have ka3 := (blk_cell (blk_below hxa4.out HBy.out) 3).trans rfl)
      (have ka4 := (blk_cell (blk_below hxa4.out HBy.out) 4).trans rfl)
      (have ka5 := (blk_cell (blk_below hxa4.out HBy.out) 5).trans rfl)
      (have kb0 := (blk_cell (blk_below hxb4.out HBy.out) 0).trans rfl)
      (have kb1 := (blk_cell (blk_below hxb4.out HBy.out) 1).trans rfl)
      (have kb2 := (blk_cell (blk_below hxb4.out HBy.out) 2).trans rfl)
      (have kb3 := (blk_cell (blk_below hxb4.out HBy.out) 3).trans rfl)
      (have kb4 := (blk_cell (blk_below hxb4.out HBy.out) 4).trans rfl)
      (have kb5 := (blk_cell (blk_below hxb4.out HBy.out) 5).trans rfl)
      have CS := subst_calls CSA.out hsv.out w9 (ia4.out.below HBy.out) (ib4.out.below HBy.out)
      have T3 : True := trivial
      go_wp2_with (first | (clear T3; go_at_call 23; go_loud (with_reducible refine CS.mono ?_); rintro e w10 ⟨V3, V4, V5, v3, v4, v5, rfl, hV, hb10⟩; have HV := Aside0.mk hV; have HB10 := Aside0.mk (below_step HBy.out hb10); clear hV hb10 CS ka0 kb0 ka1 kb1 ka2 kb2 ka3 kb3 ka4 kb4 ka5 kb5; have T4 : True := trivial))
      obtain ⟨Ws, hWs⟩ : ∃ Ws, w10.alloc (.cells #[.int .i64 sv.f0, .string sv.f1, .int .i64 sv.f2, .slice V3 sv.f3.length v3, .slice V4 sv.f4.length v4, .slice V5 sv.f5.length v5] 33) = Ws := ⟨_, rfl⟩
      have HBs : Aside0 (Below W4.heap.size W4 Ws) := ⟨by rw [← hWs]; exact below_alloc HB10.out _⟩
      have iV : Aside0 (In Ws sv V3 V4 V5 v3 v4 v5) := ⟨by rw [← hWs]; exact HV.out.in.below (below_alloc (Below.refl _ _) _)⟩
      have hxs : Aside0 (Ws.heap[w10.heap.size]? = some (.cells #[.int .i64 sv.f0, .string sv.f1, .int .i64 sv.f2, .slice V3 sv.f3.length v3, .slice V4 sv.f4.length v4, .slice V5 sv.f5.length v5] 33 (0, 0))) := ⟨by rw [← hWs]; exact blk_new w10 _⟩
      have hxas := Aside0.mk (blk_below hxa4.out HBs.out)
      have hxbs := Aside0.mk (blk_below hxb4.out HBs.out)
      rw [hWs]
      clear hWs HV HBy HB10
      have iaS := Aside0.mk (ia4.out.below HBs.out)
      have ibS := Aside0.mk (ib4.out.below HBs.out)
      by_cases hb0 : nb.length = 0
      ·have L5' := L5.out hb0
       have qn : decide ((0 : Int) < (nb.length : Int)) = false := decide_eq_false (by omega)
       have qm : ¬ (0 < nb.length) := by omega
       have HB_ : Below Ws.heap.size Ws Ws.drew := below_drew1 (Below.refl _ _)
       refine start_ (n := 32) (S := fun w' => w'.cell? ⟨w.heap.size, 0, none⟩ = some (.int .i64 a.f0) ∧ w'.cell? ⟨w.heap.size, 1, none⟩ = some (.string a.f1) ∧ w'.cell? ⟨w.heap.size, 2, none⟩ = some (.int .i64 a.f2) ∧ w'.cell? ⟨w.heap.size, 3, none⟩ = some (.slice A3 a.f3.length c3) ∧ w'.cell? ⟨w.heap.size, 4, none⟩ = some (.slice A4 a.f4.length c4) ∧ w'.cell? ⟨w.heap.size, 5, none⟩ = some (.slice A5 a.f5.length c5) ∧ w'.cell? ⟨w.heap.size + 1, 0, none⟩ = some (.int .i64 b.f0) ∧ w'.cell? ⟨w.heap.size + 1, 1, none⟩ = some (.string b.f1) ∧ w'.cell? ⟨w.heap.size + 1, 2, none⟩ = some (.int .i64 b.f2) ∧ w'.cell? ⟨w.heap.size + 1, 3, none⟩ = some (.slice B3 b.f3.length d3) ∧ w'.cell? ⟨w.heap.size + 1, 4, none⟩ = some (.slice B4 b.f4.length d4) ∧ w'.cell? ⟨w.heap.size + 1, 5, none⟩ = some (.slice B5 b.f5.length d5) ∧ w'.cell? ⟨w10.heap.size, 0, none⟩ = some (.int .i64 sv.f0) ∧ w'.cell? ⟨w10.heap.size, 1, none⟩ = some (.string sv.f1) ∧ w'.cell? ⟨w10.heap.size, 2, none⟩ = some (.int .i64 sv.f2) ∧ w'.cell? ⟨w10.heap.size, 3, none⟩ = some (.slice V3 sv.f3.length v3) ∧ w'.cell? ⟨w10.heap.size, 4, none⟩ = some (.slice V4 sv.f4.length v4) ∧ w'.cell? ⟨w10.heap.size, 5, none⟩ = some (.slice V5 sv.f5.length v5)) (ds := []) #[false, false, false, false, false, false, false, false, false, false, false, false, false, false, false, false, false, false, false, false, false, false, false, false, false, false, false, false, false, false, false, false] (by kernel_rfl) rfl rfl (cat6 (blk_below hxas.out HB_) (cat6 (blk_below hxbs.out HB_) (six (blk_below hxs.out HB_)))) (fun hHeld => ?_)
       generalize Ws.drew = W9 at *
       refine pure_ (i := 0) (N := some 97) (v := ?_) (a' := ?_) #[true, false, false, false, false, false, false, false, false, false, false, false, false, false, false, false, false, false, false, false, false, false, false, false, false, false, false, false, false, false, false, false] rfl rfl (by kernel_rfl) (fun _ _ _ h => h) (Or.inl ⟨by rfl, ?_⟩) ?_ ?_
       rotate_left
       ·intro w'
        go_simp
        with_reducible rfl
       rotate_left
       ·simp only [Act.put, sA, sB, sC, i64_w, i32_w]
        rfl
       refine pure_ (i := 1) (N := some 98) (v := ?_) (a' := ?_) #[true, true, false, false, false, false, false, false, false, false, false, false, false, false, false, false, false, false, false, false, false, false, false, false, false, false, false, false, false, false, false, false] rfl rfl (by kernel_rfl) (fun _ _ _ h => h) (Or.inl ⟨by rfl, ?_⟩) ?_ ?_
       rotate_left
       ·intro w'
        go_simp
        with_reducible rfl
       rotate_left
       ·simp only [Act.put, sA, sB, sC, i64_w, i32_w]
        rfl
       refine pure_ (i := 2) (N := some 99) (v := ?_) (a' := ?_) #[true, true, true, false, false, false, false, false, false, false, false, false, false, false, false, false, false, false, false, false, false, false, false, false, false, false, false, false, false, false, false, false] rfl rfl (by kernel_rfl) (fun _ _ _ h => h) (Or.inl ⟨by rfl, ?_⟩) ?_ ?_
       rotate_left
       ·intro w'
        go_simp
        with_reducible rfl
       rotate_left
       ·simp only [Act.put, sA, sB, sC, i64_w, i32_w]
        rfl
       refine pure_ (i := 3) (N := some 100) (v := ?_) (a' := ?_) #[true, true, true, true, false, false, false, false, false, false, false, false, false, false, false, false, false, false, false, false, false, false, false, false, false, false, false, false, false, false, false, false] rfl rfl (by kernel_rfl) (fun _ _ _ h => h) (Or.inl ⟨by rfl, ?_⟩) ?_ ?_
       rotate_left
       ·intro w'
        go_simp
        with_reducible rfl
       rotate_left
       ·simp only [Act.put, sA, sB, sC, i64_w, i32_w]
        rfl
       refine pure_ (i := 4) (N := some 101) (v := ?_) (a' := ?_) #[true, true, true, true, true, false, false, false, false, false, false, false, false, false, false, false, false, false, false, false, false, false, false, false, false, false, false, false, false, false, false, false] rfl rfl (by kernel_rfl) (fun _ _ _ h => h) (Or.inl ⟨by rfl, ?_⟩) ?_ ?_
       rotate_left
       ·intro w'
        go_simp
        with_reducible rfl
       rotate_left
       ·simp only [Act.put, sA, sB, sC, i64_w, i32_w]
        rfl
       refine pure_ (i := 5) (N := some 102) (v := undef) (a' := ?_) #[true, true, true, true, true, true, false, false, false, false, false, false, false, false, false, false, false, false, false, false, false, false, false, false, false, false, false, false, false, false, false, false] rfl rfl (by kernel_rfl) (fun _ _ _ h => h) (Or.inr ⟨by rfl, rfl⟩) ?_ ?_
       rotate_left
       ·simp only [Act.put, sA, sB, sC, i64_w, i32_w]
        rfl
       refine pure_ (i := 6) (N := some 103) (v := undef) (a' := ?_) #[true, true, true, true, true, true, true, false, false, false, false, false, false, false, false, false, false, false, false, false, false, false, false, false, false, false, false, false, false, false, false, false] rfl rfl (by kernel_rfl) (fun _ _ _ h => h) (Or.inr ⟨by rfl, rfl⟩) ?_ ?_
       rotate_left
       ·simp only [Act.put, sA, sB, sC, i64_w, i32_w]
        rfl
       refine pure_ (i := 7) (N := some 104) (v := undef) (a' := ?_) #[true, true, true, true, true, true, true, true, false, false, false, false, false, false, false, false, false, false, false, false, false, false, false, false, false, false, false, false, false, false, false, false] rfl rfl (by kernel_rfl) (fun _ _ _ h => h) (Or.inr ⟨by rfl, rfl⟩) ?_ ?_
       rotate_left
       ·simp only [Act.put, sA, sB, sC, i64_w, i32_w]
        rfl
       refine pure_ (i := 8) (N := some 105) (v := ?_) (a' := ?_) #[true, true, true, true, true, true, true, true, true, false, false, false, false, false, false, false, false, false, false, false, false, false, false, false, false, false, false, false, false, false, false, false] rfl rfl (by kernel_rfl) (fun _ _ _ h => h) (Or.inl ⟨by rfl, ?_⟩) ?_ ?_
       rotate_left
       ·intro w'
        go_simp
        with_reducible rfl
       rotate_left
       ·simp only [Act.put, sA, sB, sC, i64_w, i32_w]
        rfl
       refine pure_ (i := 9) (N := some 106) (v := ?_) (a' := ?_) #[true, true, true, true, true, true, true, true, true, true, false, false, false, false, false, false, false, false, false, false, false, false, false, false, false, false, false, false, false, false, false, false] rfl rfl (by kernel_rfl) (fun _ _ _ h => h) (Or.inl ⟨by rfl, ?_⟩) ?_ ?_
       rotate_left
       ·intro w'
        go_simp
        with_reducible rfl
       rotate_left
       ·simp only [Act.put, sA, sB, sC, i64_w, i32_w]
        rfl
       refine pure_ (i := 10) (N := some 107) (v := ?_) (a' := ?_) #[true, true, true, true, true, true, true, true, true, true, true, false, false, false, false, false, false, false, false, false, false, false, false, false, false, false, false, false, false, false, false, false] rfl rfl (by kernel_rfl) (fun _ _ _ h => h) (Or.inl ⟨by rfl, ?_⟩) ?_ ?_
       rotate_left
       ·intro w'
        go_simp
        with_reducible rfl
       rotate_left
       ·simp only [Act.put, sA, sB, sC, i64_w, i32_w]
        rfl
       refine take_ (i := 11) (N := some 108) (v := ?_) (a' := ?_) #[true, true, true, true, true, true, true, true, true, true, true, true, false, false, false, false, false, false, false, false, false, false, false, false, false, false, false, false, false, false, false, false] rfl rfl (by kernel_rfl) (fun _ _ _ h => h) (Or.inl ⟨by rfl, ?_⟩) hHeld ?_ ?_
       rotate_left
       ·rintro w' ⟨s0, s1, s2, s3, s4, s5, s6, s7, s8, s9, s10, s11, s12, s13, s14, s15, s16, s17⟩
        go_simp
        with_reducible rfl
       rotate_left
       ·simp only [Act.put, sA, sB, sC, i64_w, i32_w]
        rfl
       refine one_ (i := 12) (N := some 109) #[true, true, true, true, true, true, true, true, true, true, true, true, true, false, false, false, false, false, false, false, false, false, false, false, false, false, false, false, false, false, false, false] rfl rfl (by kernel_rfl) (by decide) (fun K hK => ?_)
       refine goes_ Tryd.func15 (by kernel_rfl) rfl #[.agg #[.int .i64 b.f0, .string b.f1, .int .i64 b.f2, .slice B3 b.f3.length d3, .slice B4 b.f4.length d4, .slice B5 b.f5.length d5]] (by rfl) rfl rfl (by simp only [List.map_toArray, List.map_cons, List.map_nil]; rfl) ?_
       (with_reducible refine (CN5.out W9 (ibS.out.below HB_)).mono ?_)
       rintro e w11 ⟨N5, n5, rfl, hn5, hC5, hb11⟩
       refine ⟨_, rfl, ?_⟩
       have HB11 := below_step HB_ hb11
       refine hK.out _ _ (cat6 (blk_below hxas.out HB11) (cat6 (blk_below hxbs.out HB11) (six (blk_below hxs.out HB11)))) (fun hHeld => ?_)
       clear hK K
       refine norm_ (a' := ?_) ?_ ?_
       rotate_left
       ·show Act.put _ (some 109) _ = _
        simp only [Act.put, sA, sB, sC, i64_w, i32_w]
        rfl
       refine pure_ (i := 13) (N := some 110) (v := ?_) (a' := ?_) #[true, true, true, true, true, true, true, true, true, true, true, true, true, true, false, false, false, false, false, false, false, false, false, false, false, false, false, false, false, false, false, false] rfl rfl (by kernel_rfl) (fun _ _ _ h => h) (Or.inl ⟨by rfl, ?_⟩) ?_ ?_
       rotate_left
       ·intro w'
        go_simp
        with_reducible rfl
       rotate_left
       ·simp only [Act.put, sA, sB, sC, i64_w, i32_w]
        rfl
       refine pure_ (i := 14) (N := some 111) (v := ?_) (a' := ?_) #[true, true, true, true, true, true, true, true, true, true, true, true, true, true, true, false, false, false, false, false, false, false, false, false, false, false, false, false, false, false, false, false] rfl rfl (by kernel_rfl) (fun _ _ _ h => h) (Or.inl ⟨by rfl, ?_⟩) ?_ ?_
       rotate_left
       ·intro w'
        go_simp
        with_reducible rfl
       rotate_left
       ·simp only [Act.put, sA, sB, sC, i64_w, i32_w]
        rfl
       refine pure_ (i := 15) (N := some 112) (v := ?_) (a' := ?_) #[true, true, true, true, true, true, true, true, true, true, true, true, true, true, true, true, false, false, false, false, false, false, false, false, false, false, false, false, false, false, false, false] rfl rfl (by kernel_rfl) (fun _ _ _ h => h) (Or.inl ⟨by rfl, ?_⟩) ?_ ?_
       rotate_left
       ·intro w'
        go_simp
        with_reducible rfl
       rotate_left
       ·simp only [Act.put, sA, sB, sC, i64_w, i32_w]
        rfl
       refine pure_ (i := 18) (N := some 115) (v := ?_) (a' := ?_) #[true, true, true, true, true, true, true, true, true, true, true, true, true, true, true, true, false, false, true, false, false, false, false, false, false, false, false, false, false, false, false, false] rfl rfl (by kernel_rfl) (fun _ _ _ h => h) (Or.inl ⟨by rfl, ?_⟩) ?_ ?_
       rotate_left
       ·intro w'
        go_simp
        with_reducible rfl
       rotate_left
       ·simp only [Act.put, sA, sB, sC, i64_w, i32_w]
        rfl
       refine take_ (i := 16) (N := some 113) (v := ?_) (a' := ?_) #[true, true, true, true, true, true, true, true, true, true, true, true, true, true, true, true, true, false, true, false, false, false, false, false, false, false, false, false, false, false, false, false] rfl rfl (by kernel_rfl) (fun _ _ _ h => h) (Or.inl ⟨by rfl, ?_⟩) hHeld ?_ ?_
       rotate_left
       ·rintro w' ⟨s0, s1, s2, s3, s4, s5, s6, s7, s8, s9, s10, s11, s12, s13, s14, s15, s16, s17⟩
        go_simp
        with_reducible rfl
       rotate_left
       ·simp only [Act.put, sA, sB, sC, i64_w, i32_w]
        rfl
       refine one_ (i := 17) (N := some 114) #[true, true, true, true, true, true, true, true, true, true, true, true, true, true, true, true, true, true, true, false, false, false, false, false, false, false, false, false, false, false, false, false] rfl rfl (by kernel_rfl) (by decide) (fun K hK => ?_)
       refine goes_ Tryd.func15 (by kernel_rfl) rfl #[.agg #[.int .i64 sv.f0, .string sv.f1, .int .i64 sv.f2, .slice V3 sv.f3.length v3, .slice V4 sv.f4.length v4, .slice V5 sv.f5.length v5]] (by rfl) rfl rfl (by simp only [List.map_toArray, List.map_cons, List.map_nil]; rfl) ?_
       (with_reducible refine (CN6.out w11 (iV.out.below HB11)).mono ?_)
       rintro e w12 ⟨N6, n6, rfl, hn6, hC6, hb12⟩
       refine ⟨_, rfl, ?_⟩
       have HB12 := below_step HB11 hb12
       refine hK.out _ _ (cat6 (blk_below hxas.out HB12) (cat6 (blk_below hxbs.out HB12) (six (blk_below hxs.out HB12)))) (fun hHeld => ?_)
       clear hK K
       refine norm_ (a' := ?_) ?_ ?_
       rotate_left
       ·show Act.put _ (some 114) _ = _
        simp only [Act.put, sA, sB, sC, i64_w, i32_w]
        rfl
       refine one_ (i := 19) (N := some 116) #[true, true, true, true, true, true, true, true, true, true, true, true, true, true, true, true, true, true, true, true, false, false, false, false, false, false, false, false, false, false, false, false] rfl rfl (by kernel_rfl) (by decide) (fun K hK => ?_)
       refine goes_ Tryd.func12 (by kernel_rfl) rfl #[.slice N6 nv.length n6, .string s] (by rfl) rfl rfl (by simp only [List.map_toArray, List.map_cons, List.map_nil]; rfl) ?_
       (with_reducible refine (has_g nv (by have := lv.out; omega) rfl s L5' w12 hC6 hn6).mono ?_)
       rintro e w13 ⟨rfl, hb13⟩
       refine ⟨_, rfl, ?_⟩
       have HB13 := below_step HB12 hb13
       refine hK.out _ _ (cat6 (blk_below hxas.out HB13) (cat6 (blk_below hxbs.out HB13) (six (blk_below hxs.out HB13)))) (fun hHeld => ?_)
       clear hK K
       refine norm_ (a' := ?_) ?_ ?_
       rotate_left
       ·show Act.put _ (some 116) _ = _
        simp only [Act.put, sA, sB, sC, i64_w, i32_w]
        rfl
       refine pure_ (i := 20) (N := some 117) (v := ?_) (a' := ?_) #[true, true, true, true, true, true, true, true, true, true, true, true, true, true, true, true, true, true, true, true, true, false, false, false, false, false, false, false, false, false, false, false] rfl rfl (by kernel_rfl) (fun _ _ _ h => h) (Or.inl ⟨by rfl, ?_⟩) ?_ ?_
       rotate_left
       ·intro w'
        go_simp
        with_reducible rfl
       rotate_left
       ·simp only [Act.put, sA, sB, sC, i64_w, i32_w]
        rfl
       refine pure_ (i := 21) (N := some 118) (v := ?_) (a' := ?_) #[true, true, true, true, true, true, true, true, true, true, true, true, true, true, true, true, true, true, true, true, true, true, false, false, false, false, false, false, false, false, false, false] rfl rfl (by kernel_rfl) (fun _ _ _ h => h) (Or.inl ⟨by rfl, ?_⟩) ?_ ?_
       rotate_left
       ·intro w'
        go_simp
        with_reducible rfl
       rotate_left
       ·simp only [Act.put, sA, sB, sC, i64_w, i32_w]
        rfl
       refine pure_ (i := 22) (N := some 119) (v := ?_) (a' := ?_) #[true, true, true, true, true, true, true, true, true, true, true, true, true, true, true, true, true, true, true, true, true, true, true, false, false, false, false, false, false, false, false, false] rfl rfl (by kernel_rfl) (fun _ _ _ h => h) (Or.inl ⟨by rfl, ?_⟩) ?_ ?_
       rotate_left
       ·intro w'
        go_simp
        with_reducible rfl
       rotate_left
       ·simp only [Act.put, sA, sB, sC, i64_w, i32_w]
        rfl
       refine pure_ (i := 23) (N := some 120) (v := ?_) (a' := ?_) #[true, true, true, true, true, true, true, true, true, true, true, true, true, true, true, true, true, true, true, true, true, true, true, true, false, false, false, false, false, false, false, false] rfl rfl (by kernel_rfl) (fun _ _ _ h => h) (Or.inl ⟨by rfl, ?_⟩) ?_ ?_
       rotate_left
       ·intro w'
        go_simp
        with_reducible rfl
       rotate_left
       ·simp only [Act.put, sA, sB, sC, i64_w, i32_w]
        rfl
       refine pure_ (i := 25) (N := some 122) (v := ?_) (a' := ?_) #[true, true, true, true, true, true, true, true, true, true, true, true, true, true, true, true, true, true, true, true, true, true, true, true, false, true, false, false, false, false, false, false] rfl rfl (by kernel_rfl) (fun _ _ _ h => h) (Or.inl ⟨by rfl, ?_⟩) ?_ ?_
       rotate_left
       ·intro w'
        go_simp
        with_reducible rfl
       rotate_left
       ·simp only [Act.put, sA, sB, sC, i64_w, i32_w]
        rfl
       refine pure_ (i := 26) (N := some 123) (v := ?_) (a' := ?_) #[true, true, true, true, true, true, true, true, true, true, true, true, true, true, true, true, true, true, true, true, true, true, true, true, false, true, true, false, false, false, false, false] rfl rfl (by kernel_rfl) (fun _ _ _ h => h) (Or.inl ⟨by rfl, ?_⟩) ?_ ?_
       rotate_left
       ·intro w'
        go_simp
        with_reducible rfl
       rotate_left
       ·simp only [Act.put, sA, sB, sC, i64_w, i32_w]
        rfl
       refine take_ (i := 24) (N := some 121) (v := ?_) (a' := ?_) #[true, true, true, true, true, true, true, true, true, true, true, true, true, true, true, true, true, true, true, true, true, true, true, true, true, true, true, false, false, false, false, false] rfl rfl (by kernel_rfl) (fun _ _ _ h => h) (Or.inl ⟨by rfl, ?_⟩) hHeld ?_ ?_
       rotate_left
       ·rintro w' ⟨s0, s1, s2, s3, s4, s5, s6, s7, s8, s9, s10, s11, s12, s13, s14, s15, s16, s17⟩
        go_simp
        with_reducible rfl
       rotate_left
       ·simp only [Act.put, sA, sB, sC, i64_w, i32_w]
        rfl
       refine take_ (i := 28) (N := some 125) (v := ?_) (a' := ?_) #[true, true, true, true, true, true, true, true, true, true, true, true, true, true, true, true, true, true, true, true, true, true, true, true, true, true, true, false, true, false, false, false] rfl rfl (by kernel_rfl) (fun _ _ _ h => h) (Or.inl ⟨by rfl, ?_⟩) hHeld ?_ ?_
       rotate_left
       ·rintro w' ⟨s0, s1, s2, s3, s4, s5, s6, s7, s8, s9, s10, s11, s12, s13, s14, s15, s16, s17⟩
        go_simp
        with_reducible rfl
       rotate_left
       ·simp only [Act.put, sA, sB, sC, i64_w, i32_w]
        rfl
       refine one_ (i := 27) (N := some 124) #[true, true, true, true, true, true, true, true, true, true, true, true, true, true, true, true, true, true, true, true, true, true, true, true, true, true, true, true, true, false, false, false] rfl rfl (by kernel_rfl) (by decide) (fun K hK => ?_)
       refine goes_ Tryd.func24 (by kernel_rfl) rfl #[.agg #[.int .i64 a.f0, .string a.f1, .int .i64 a.f2, .slice A3 a.f3.length c3, .slice A4 a.f4.length c4, .slice A5 a.f5.length c5], .string s, .string s] (by rfl) rfl rfl (by simp only [List.map_toArray, List.map_cons, List.map_nil]; rfl) ?_
       (with_reducible refine (rename_calls CRA.out L6.out w13 (iaS.out.below HB13)).mono ?_)
       rintro e w14 ⟨R3, R4, R5, r3, r4, r5, rfl, hR, hb14⟩
       refine ⟨_, rfl, ?_⟩
       have HB14 := below_step HB13 hb14
       refine hK.out _ _ (cat6 (blk_below hxas.out HB14) (cat6 (blk_below hxbs.out HB14) (six (blk_below hxs.out HB14)))) (fun hHeld => ?_)
       clear hK K
       refine norm_ (a' := ?_) ?_ ?_
       rotate_left
       ·show Act.put _ (some 124) _ = _
        simp only [Act.put, sA, sB, sC, i64_w, i32_w]
        rfl
       refine one_ (i := 29) (N := some 126) #[true, true, true, true, true, true, true, true, true, true, true, true, true, true, true, true, true, true, true, true, true, true, true, true, true, true, true, true, true, true, false, false] rfl rfl (by kernel_rfl) (by decide) (fun K hK => ?_)
       refine goes_ Tryd.func22 (by kernel_rfl) rfl #[.agg #[.int .i64 a.f0, .string a.f1, .int .i64 a.f2, .slice R3 a.f3.length r3, .slice R4 a.f4.length r4, .slice R5 a.f5.length r5], .agg #[.int .i64 a.f0, .string a.f1, .int .i64 a.f2, .slice A3 a.f3.length c3, .slice A4 a.f4.length c4, .slice A5 a.f5.length c5]] (by rfl) rfl rfl (by simp only [List.map_toArray, List.map_cons, List.map_nil]; rfl) ?_
       (with_reducible refine (SA.out.at w14 hR.in (iaS.out.below HB14)).mono ?_)
       rintro e w15 ⟨rfl, hb15⟩
       refine ⟨_, rfl, ?_⟩
       have HB15 := below_step HB14 hb15
       have HBz := Aside0.mk (below_step HBs.out HB15)
       refine hK.out _ _ (cat6 (blk_below hxas.out HB15) (cat6 (blk_below hxbs.out HB15) (six (blk_below hxs.out HB15)))) (fun hHeld => ?_)
       clear hK K
       refine norm_ (a' := ?_) ?_ ?_
       rotate_left
       ·show Act.put _ (some 126) _ = _
        simp only [Act.put, sA, sB, sC, i64_w, i32_w]
        rfl
       refine pure_ (i := 30) (N := some 127) (v := ?_) (a' := ?_) #[true, true, true, true, true, true, true, true, true, true, true, true, true, true, true, true, true, true, true, true, true, true, true, true, true, true, true, true, true, true, true, false] rfl rfl (by kernel_rfl) (fun _ _ _ h => h) (Or.inl ⟨by rfl, ?_⟩) ?_ ?_
       rotate_left
       ·intro w'
        go_simp
        with_reducible rfl
       rotate_left
       ·simp only [Act.put, sA, sB, sC, i64_w, i32_w]
        rfl
       refine pure_ (i := 31) (N := some 6) (v := ?_) (a' := ?_) #[true, true, true, true, true, true, true, true, true, true, true, true, true, true, true, true, true, true, true, true, true, true, true, true, true, true, true, true, true, true, true, true] rfl rfl (by kernel_rfl) (fun _ _ _ h => h) (Or.inl ⟨by rfl, ?_⟩) ?_ ?_
       rotate_left
       ·intro w'
        go_simp
        with_reducible rfl
       rotate_left
       ·simp only [Act.put, sA, sB, sC, i64_w, i32_w]
        rfl
       refine done_ (by kernel_rfl) ?_
       clear hHeld
       go_wp2
       go_ret
       exact ⟨rfl, HW4.out.trans (HBz.out.mono HW4.out.size)⟩
      ·have qn : decide ((0 : Int) < (nb.length : Int)) = true := decide_eq_true (by omega)
       have qm : 0 < nb.length := by omega
       have HB_ : Below Ws.heap.size Ws Ws.drew := below_drew1 (Below.refl _ _)
       refine start_ (n := 32) (S := fun w' => w'.cell? ⟨w.heap.size, 0, none⟩ = some (.int .i64 a.f0) ∧ w'.cell? ⟨w.heap.size, 1, none⟩ = some (.string a.f1) ∧ w'.cell? ⟨w.heap.size, 2, none⟩ = some (.int .i64 a.f2) ∧ w'.cell? ⟨w.heap.size, 3, none⟩ = some (.slice A3 a.f3.length c3) ∧ w'.cell? ⟨w.heap.size, 4, none⟩ = some (.slice A4 a.f4.length c4) ∧ w'.cell? ⟨w.heap.size, 5, none⟩ = some (.slice A5 a.f5.length c5) ∧ w'.cell? ⟨w.heap.size + 1, 0, none⟩ = some (.int .i64 b.f0) ∧ w'.cell? ⟨w.heap.size + 1, 1, none⟩ = some (.string b.f1) ∧ w'.cell? ⟨w.heap.size + 1, 2, none⟩ = some (.int .i64 b.f2) ∧ w'.cell? ⟨w.heap.size + 1, 3, none⟩ = some (.slice B3 b.f3.length d3) ∧ w'.cell? ⟨w.heap.size + 1, 4, none⟩ = some (.slice B4 b.f4.length d4) ∧ w'.cell? ⟨w.heap.size + 1, 5, none⟩ = some (.slice B5 b.f5.length d5) ∧ w'.cell? ⟨w10.heap.size, 0, none⟩ = some (.int .i64 sv.f0) ∧ w'.cell? ⟨w10.heap.size, 1, none⟩ = some (.string sv.f1) ∧ w'.cell? ⟨w10.heap.size, 2, none⟩ = some (.int .i64 sv.f2) ∧ w'.cell? ⟨w10.heap.size, 3, none⟩ = some (.slice V3 sv.f3.length v3) ∧ w'.cell? ⟨w10.heap.size, 4, none⟩ = some (.slice V4 sv.f4.length v4) ∧ w'.cell? ⟨w10.heap.size, 5, none⟩ = some (.slice V5 sv.f5.length v5)) (ds := []) #[false, false, false, false, false, false, false, false, false, false, false, false, false, false, false, false, false, false, false, false, false, false, false, false, false, false, false, false, false, false, false, false] (by kernel_rfl) rfl rfl (cat6 (blk_below hxas.out HB_) (cat6 (blk_below hxbs.out HB_) (six (blk_below hxs.out HB_)))) (fun hHeld => ?_)
       generalize Ws.drew = W9 at *
       refine pure_ (i := 0) (N := some 97) (v := ?_) (a' := ?_) #[true, false, false, false, false, false, false, false, false, false, false, false, false, false, false, false, false, false, false, false, false, false, false, false, false, false, false, false, false, false, false, false] rfl rfl (by kernel_rfl) (fun _ _ _ h => h) (Or.inl ⟨by rfl, ?_⟩) ?_ ?_
       rotate_left
       ·intro w'
        go_simp
        with_reducible rfl
       rotate_left
       ·simp only [Act.put, sA, sB, sC, i64_w, i32_w]
        rfl
       refine pure_ (i := 1) (N := some 98) (v := ?_) (a' := ?_) #[true, true, false, false, false, false, false, false, false, false, false, false, false, false, false, false, false, false, false, false, false, false, false, false, false, false, false, false, false, false, false, false] rfl rfl (by kernel_rfl) (fun _ _ _ h => h) (Or.inl ⟨by rfl, ?_⟩) ?_ ?_
       rotate_left
       ·intro w'
        go_simp
        with_reducible rfl
       rotate_left
       ·simp only [Act.put, sA, sB, sC, i64_w, i32_w]
        rfl
       refine pure_ (i := 2) (N := some 99) (v := ?_) (a' := ?_) #[true, true, true, false, false, false, false, false, false, false, false, false, false, false, false, false, false, false, false, false, false, false, false, false, false, false, false, false, false, false, false, false] rfl rfl (by kernel_rfl) (fun _ _ _ h => h) (Or.inl ⟨by rfl, ?_⟩) ?_ ?_
       rotate_left
       ·intro w'
        go_simp
        with_reducible rfl
       rotate_left
       ·simp only [Act.put, sA, sB, sC, i64_w, i32_w]
        rfl
       refine pure_ (i := 3) (N := some 100) (v := ?_) (a' := ?_) #[true, true, true, true, false, false, false, false, false, false, false, false, false, false, false, false, false, false, false, false, false, false, false, false, false, false, false, false, false, false, false, false] rfl rfl (by kernel_rfl) (fun _ _ _ h => h) (Or.inl ⟨by rfl, ?_⟩) ?_ ?_
       rotate_left
       ·intro w'
        go_simp
        with_reducible rfl
       rotate_left
       ·simp only [Act.put, sA, sB, sC, i64_w, i32_w]
        rfl
       refine pure_ (i := 4) (N := some 101) (v := ?_) (a' := ?_) #[true, true, true, true, true, false, false, false, false, false, false, false, false, false, false, false, false, false, false, false, false, false, false, false, false, false, false, false, false, false, false, false] rfl rfl (by kernel_rfl) (fun _ _ _ h => h) (Or.inl ⟨by rfl, ?_⟩) ?_ ?_
       rotate_left
       ·intro w'
        go_simp
        with_reducible rfl
       rotate_left
       ·simp only [Act.put, sA, sB, sC, i64_w, i32_w]
        rfl
       refine pure_ (i := 5) (N := some 102) (v := undef) (a' := ?_) #[true, true, true, true, true, true, false, false, false, false, false, false, false, false, false, false, false, false, false, false, false, false, false, false, false, false, false, false, false, false, false, false] rfl rfl (by kernel_rfl) (fun _ _ _ h => h) (Or.inr ⟨by rfl, rfl⟩) ?_ ?_
       rotate_left
       ·simp only [Act.put, sA, sB, sC, i64_w, i32_w]
        rfl
       refine pure_ (i := 6) (N := some 103) (v := undef) (a' := ?_) #[true, true, true, true, true, true, true, false, false, false, false, false, false, false, false, false, false, false, false, false, false, false, false, false, false, false, false, false, false, false, false, false] rfl rfl (by kernel_rfl) (fun _ _ _ h => h) (Or.inr ⟨by rfl, rfl⟩) ?_ ?_
       rotate_left
       ·simp only [Act.put, sA, sB, sC, i64_w, i32_w]
        rfl
       refine pure_ (i := 7) (N := some 104) (v := undef) (a' := ?_) #[true, true, true, true, true, true, true, true, false, false, false, false, false, false, false, false, false, false, false, false, false, false, false, false, false, false, false, false, false, false, false, false] rfl rfl (by kernel_rfl) (fun _ _ _ h => h) (Or.inr ⟨by rfl, rfl⟩) ?_ ?_
       rotate_left
       ·simp only [Act.put, sA, sB, sC, i64_w, i32_w]
        rfl
       refine pure_ (i := 8) (N := some 105) (v := ?_) (a' := ?_) #[true, true, true, true, true, true, true, true, true, false, false, false, false, false, false, false, false, false, false, false, false, false, false, false, false, false, false, false, false, false, false, false] rfl rfl (by kernel_rfl) (fun _ _ _ h => h) (Or.inl ⟨by rfl, ?_⟩) ?_ ?_
       rotate_left
       ·intro w'
        go_simp
        with_reducible rfl
       rotate_left
       ·simp only [Act.put, sA, sB, sC, i64_w, i32_w]
        rfl
       refine pure_ (i := 9) (N := some 106) (v := ?_) (a' := ?_) #[true, true, true, true, true, true, true, true, true, true, false, false, false, false, false, false, false, false, false, false, false, false, false, false, false, false, false, false, false, false, false, false] rfl rfl (by kernel_rfl) (fun _ _ _ h => h) (Or.inl ⟨by rfl, ?_⟩) ?_ ?_
       rotate_left
       ·intro w'
        go_simp
        with_reducible rfl
       rotate_left
       ·simp only [Act.put, sA, sB, sC, i64_w, i32_w]
        rfl
       refine pure_ (i := 10) (N := some 107) (v := ?_) (a' := ?_) #[true, true, true, true, true, true, true, true, true, true, true, false, false, false, false, false, false, false, false, false, false, false, false, false, false, false, false, false, false, false, false, false] rfl rfl (by kernel_rfl) (fun _ _ _ h => h) (Or.inl ⟨by rfl, ?_⟩) ?_ ?_
       rotate_left
       ·intro w'
        go_simp
        with_reducible rfl
       rotate_left
       ·simp only [Act.put, sA, sB, sC, i64_w, i32_w]
        rfl
       refine take_ (i := 11) (N := some 108) (v := ?_) (a' := ?_) #[true, true, true, true, true, true, true, true, true, true, true, true, false, false, false, false, false, false, false, false, false, false, false, false, false, false, false, false, false, false, false, false] rfl rfl (by kernel_rfl) (fun _ _ _ h => h) (Or.inl ⟨by rfl, ?_⟩) hHeld ?_ ?_
       rotate_left
       ·rintro w' ⟨s0, s1, s2, s3, s4, s5, s6, s7, s8, s9, s10, s11, s12, s13, s14, s15, s16, s17⟩
        go_simp
        with_reducible rfl
       rotate_left
       ·simp only [Act.put, sA, sB, sC, i64_w, i32_w]
        rfl
       refine one_ (i := 12) (N := some 109) #[true, true, true, true, true, true, true, true, true, true, true, true, true, false, false, false, false, false, false, false, false, false, false, false, false, false, false, false, false, false, false, false] rfl rfl (by kernel_rfl) (by decide) (fun K hK => ?_)
       refine goes_ Tryd.func15 (by kernel_rfl) rfl #[.agg #[.int .i64 b.f0, .string b.f1, .int .i64 b.f2, .slice B3 b.f3.length d3, .slice B4 b.f4.length d4, .slice B5 b.f5.length d5]] (by rfl) rfl rfl (by simp only [List.map_toArray, List.map_cons, List.map_nil]; rfl) ?_
       (with_reducible refine (CN5.out W9 (ibS.out.below HB_)).mono ?_)
       rintro e w11 ⟨N5, n5, rfl, hn5, hC5, hb11⟩
       refine ⟨_, rfl, ?_⟩
       have HB11 := below_step HB_ hb11
       refine hK.out _ _ (cat6 (blk_below hxas.out HB11) (cat6 (blk_below hxbs.out HB11) (six (blk_below hxs.out HB11)))) (fun hHeld => ?_)
       clear hK K
       refine norm_ (a' := ?_) ?_ ?_
       rotate_left
       ·show Act.put _ (some 109) _ = _
        simp only [Act.put, sA, sB, sC, i64_w, i32_w]
        rfl
       refine pure_ (i := 13) (N := some 110) (v := ?_) (a' := ?_) #[true, true, true, true, true, true, true, true, true, true, true, true, true, true, false, false, false, false, false, false, false, false, false, false, false, false, false, false, false, false, false, false] rfl rfl (by kernel_rfl) (fun _ _ _ h => h) (Or.inl ⟨by rfl, ?_⟩) ?_ ?_
       rotate_left
       ·intro w'
        go_simp
        with_reducible rfl
       rotate_left
       ·simp only [Act.put, sA, sB, sC, i64_w, i32_w]
        rfl
       refine pure_ (i := 14) (N := some 111) (v := ?_) (a' := ?_) #[true, true, true, true, true, true, true, true, true, true, true, true, true, true, true, false, false, false, false, false, false, false, false, false, false, false, false, false, false, false, false, false] rfl rfl (by kernel_rfl) (fun _ _ _ h => h) (Or.inl ⟨by rfl, ?_⟩) ?_ ?_
       rotate_left
       ·intro w'
        go_simp
        with_reducible rfl
       rotate_left
       ·simp only [Act.put, sA, sB, sC, i64_w, i32_w]
        rfl
       refine pure_ (i := 15) (N := some 112) (v := ?_) (a' := ?_) #[true, true, true, true, true, true, true, true, true, true, true, true, true, true, true, true, false, false, false, false, false, false, false, false, false, false, false, false, false, false, false, false] rfl rfl (by kernel_rfl) (fun _ _ _ h => h) (Or.inl ⟨by rfl, ?_⟩) ?_ ?_
       rotate_left
       ·intro w'
        go_simp
        with_reducible rfl
       rotate_left
       ·simp only [Act.put, sA, sB, sC, i64_w, i32_w]
        rfl
       refine pure_ (i := 16) (N := some 113) (v := undef) (a' := ?_) #[true, true, true, true, true, true, true, true, true, true, true, true, true, true, true, true, true, false, false, false, false, false, false, false, false, false, false, false, false, false, false, false] rfl rfl (by kernel_rfl) (fun _ _ _ h => h) (Or.inr ⟨by rfl, rfl⟩) ?_ ?_
       rotate_left
       ·simp only [Act.put, sA, sB, sC, i64_w, i32_w]
        rfl
       refine pure_ (i := 17) (N := some 114) (v := undef) (a' := ?_) #[true, true, true, true, true, true, true, true, true, true, true, true, true, true, true, true, true, true, false, false, false, false, false, false, false, false, false, false, false, false, false, false] rfl rfl (by kernel_rfl) (fun _ _ _ h => h) (Or.inr ⟨by rfl, rfl⟩) ?_ ?_
       rotate_left
       ·simp only [Act.put, sA, sB, sC, i64_w, i32_w]
        rfl
       refine pure_ (i := 18) (N := some 115) (v := undef) (a' := ?_) #[true, true, true, true, true, true, true, true, true, true, true, true, true, true, true, true, true, true, true, false, false, false, false, false, false, false, false, false, false, false, false, false] rfl rfl (by kernel_rfl) (fun _ _ _ h => h) (Or.inr ⟨by rfl, rfl⟩) ?_ ?_
       rotate_left
       ·simp only [Act.put, sA, sB, sC, i64_w, i32_w]
        rfl
       refine pure_ (i := 19) (N := some 116) (v := undef) (a' := ?_) #[true, true, true, true, true, true, true, true, true, true, true, true, true, true, true, true, true, true, true, true, false, false, false, false, false, false, false, false, false, false, false, false] rfl rfl (by kernel_rfl) (fun _ _ _ h => h) (Or.inr ⟨by rfl, rfl⟩) ?_ ?_
       rotate_left
       ·simp only [Act.put, sA, sB, sC, i64_w, i32_w]
        rfl
       refine pure_ (i := 20) (N := some 117) (v := undef) (a' := ?_) #[true, true, true, true, true, true, true, true, true, true, true, true, true, true, true, true, true, true, true, true, true, false, false, false, false, false, false, false, false, false, false, false] rfl rfl (by kernel_rfl) (fun _ _ _ h => h) (Or.inr ⟨by rfl, rfl⟩) ?_ ?_
       rotate_left
       ·simp only [Act.put, sA, sB, sC, i64_w, i32_w]
        rfl
       refine pure_ (i := 21) (N := some 118) (v := ?_) (a' := ?_) #[true, true, true, true, true, true, true, true, true, true, true, true, true, true, true, true, true, true, true, true, true, true, false, false, false, false, false, false, false, false, false, false] rfl rfl (by kernel_rfl) (fun _ _ _ h => h) (Or.inl ⟨by rfl, ?_⟩) ?_ ?_
       rotate_left
       ·intro w'
        go_simp
        with_reducible rfl
       rotate_left
       ·simp only [Act.put, sA, sB, sC, i64_w, i32_w]
        rfl
       refine pure_ (i := 22) (N := some 119) (v := ?_) (a' := ?_) #[true, true, true, true, true, true, true, true, true, true, true, true, true, true, true, true, true, true, true, true, true, true, true, false, false, false, false, false, false, false, false, false] rfl rfl (by kernel_rfl) (fun _ _ _ h => h) (Or.inl ⟨by rfl, ?_⟩) ?_ ?_
       rotate_left
       ·intro w'
        go_simp
        with_reducible rfl
       rotate_left
       ·simp only [Act.put, sA, sB, sC, i64_w, i32_w]
        rfl
       refine pure_ (i := 23) (N := some 120) (v := ?_) (a' := ?_) #[true, true, true, true, true, true, true, true, true, true, true, true, true, true, true, true, true, true, true, true, true, true, true, true, false, false, false, false, false, false, false, false] rfl rfl (by kernel_rfl) (fun _ _ _ h => h) (Or.inl ⟨by rfl, ?_⟩) ?_ ?_
       rotate_left
       ·intro w'
        go_simp
        with_reducible rfl
       rotate_left
       ·simp only [Act.put, sA, sB, sC, i64_w, i32_w]
        rfl
       refine pure_ (i := 25) (N := some 122) (v := ?_) (a' := ?_) #[true, true, true, true, true, true, true, true, true, true, true, true, true, true, true, true, true, true, true, true, true, true, true, true, false, true, false, false, false, false, false, false] rfl rfl (by kernel_rfl) (fun _ _ _ h => h) (Or.inl ⟨by rfl, ?_⟩) ?_ ?_
       rotate_left
       ·intro w'
        go_simp
        with_reducible rfl
       rotate_left
       ·simp only [Act.put, sA, sB, sC, i64_w, i32_w]
        rfl
       refine pure_ (i := 26) (N := some 123) (v := ?_) (a' := ?_) #[true, true, true, true, true, true, true, true, true, true, true, true, true, true, true, true, true, true, true, true, true, true, true, true, false, true, true, false, false, false, false, false] rfl rfl (by kernel_rfl) (fun _ _ _ h => h) (Or.inl ⟨by rfl, ?_⟩) ?_ ?_
       rotate_left
       ·intro w'
        go_simp
        with_reducible rfl
       rotate_left
       ·simp only [Act.put, sA, sB, sC, i64_w, i32_w]
        rfl
       refine take_ (i := 24) (N := some 121) (v := ?_) (a' := ?_) #[true, true, true, true, true, true, true, true, true, true, true, true, true, true, true, true, true, true, true, true, true, true, true, true, true, true, true, false, false, false, false, false] rfl rfl (by kernel_rfl) (fun _ _ _ h => h) (Or.inl ⟨by rfl, ?_⟩) hHeld ?_ ?_
       rotate_left
       ·rintro w' ⟨s0, s1, s2, s3, s4, s5, s6, s7, s8, s9, s10, s11, s12, s13, s14, s15, s16, s17⟩
        go_simp
        with_reducible rfl
       rotate_left
       ·simp only [Act.put, sA, sB, sC, i64_w, i32_w]
        rfl
       refine take_ (i := 28) (N := some 125) (v := ?_) (a' := ?_) #[true, true, true, true, true, true, true, true, true, true, true, true, true, true, true, true, true, true, true, true, true, true, true, true, true, true, true, false, true, false, false, false] rfl rfl (by kernel_rfl) (fun _ _ _ h => h) (Or.inl ⟨by rfl, ?_⟩) hHeld ?_ ?_
       rotate_left
       ·rintro w' ⟨s0, s1, s2, s3, s4, s5, s6, s7, s8, s9, s10, s11, s12, s13, s14, s15, s16, s17⟩
        go_simp
        with_reducible rfl
       rotate_left
       ·simp only [Act.put, sA, sB, sC, i64_w, i32_w]
        rfl
       refine one_ (i := 27) (N := some 124) #[true, true, true, true, true, true, true, true, true, true, true, true, true, true, true, true, true, true, true, true, true, true, true, true, true, true, true, true, true, false, false, false] rfl rfl (by kernel_rfl) (by decide) (fun K hK => ?_)
       refine goes_ Tryd.func24 (by kernel_rfl) rfl #[.agg #[.int .i64 a.f0, .string a.f1, .int .i64 a.f2, .slice A3 a.f3.length c3, .slice A4 a.f4.length c4, .slice A5 a.f5.length c5], .string s, .string s] (by rfl) rfl rfl (by simp only [List.map_toArray, List.map_cons, List.map_nil]; rfl) ?_
       (with_reducible refine (rename_calls CRA.out L6.out w11 (iaS.out.below HB11)).mono ?_)
       rintro e w12 ⟨R3, R4, R5, r3, r4, r5, rfl, hR, hb12⟩
       refine ⟨_, rfl, ?_⟩
       have HB12 := below_step HB11 hb12
       refine hK.out _ _ (cat6 (blk_below hxas.out HB12) (cat6 (blk_below hxbs.out HB12) (six (blk_below hxs.out HB12)))) (fun hHeld => ?_)
       clear hK K
       refine norm_ (a' := ?_) ?_ ?_
       rotate_left
       ·show Act.put _ (some 124) _ = _
        simp only [Act.put, sA, sB, sC, i64_w, i32_w]
        rfl
       refine one_ (i := 29) (N := some 126) #[true, true, true, true, true, true, true, true, true, true, true, true, true, true, true, true, true, true, true, true, true, true, true, true, true, true, true, true, true, true, false, false] rfl rfl (by kernel_rfl) (by decide) (fun K hK => ?_)
       refine goes_ Tryd.func22 (by kernel_rfl) rfl #[.agg #[.int .i64 a.f0, .string a.f1, .int .i64 a.f2, .slice R3 a.f3.length r3, .slice R4 a.f4.length r4, .slice R5 a.f5.length r5], .agg #[.int .i64 a.f0, .string a.f1, .int .i64 a.f2, .slice A3 a.f3.length c3, .slice A4 a.f4.length c4, .slice A5 a.f5.length c5]] (by rfl) rfl rfl (by simp only [List.map_toArray, List.map_cons, List.map_nil]; rfl) ?_
       (with_reducible refine (SA.out.at w12 hR.in (iaS.out.below HB12)).mono ?_)
       rintro e w13 ⟨rfl, hb13⟩
       refine ⟨_, rfl, ?_⟩
       have HB13 := below_step HB12 hb13
       have HBz := Aside0.mk (below_step HBs.out HB13)
       refine hK.out _ _ (cat6 (blk_below hxas.out HB13) (cat6 (blk_below hxbs.out HB13) (six (blk_below hxs.out HB13)))) (fun hHeld => ?_)
       clear hK K
       refine norm_ (a' := ?_) ?_ ?_
       rotate_left
       ·show Act.put _ (some 126) _ = _
        simp only [Act.put, sA, sB, sC, i64_w, i32_w]
        rfl
       refine pure_ (i := 30) (N := some 127) (v := ?_) (a' := ?_) #[true, true, true, true, true, true, true, true, true, true, true, true, true, true, true, true, true, true, true, true, true, true, true, true, true, true, true, true, true, true, true, false] rfl rfl (by kernel_rfl) (fun _ _ _ h => h) (Or.inl ⟨by rfl, ?_⟩) ?_ ?_
       rotate_left
       ·intro w'
        go_simp
        with_reducible rfl
       rotate_left
       ·simp only [Act.put, sA, sB, sC, i64_w, i32_w]
        rfl
       refine pure_ (i := 31) (N := some 6) (v := ?_) (a' := ?_) #[true, true, true, true, true, true, true, true, true, true, true, true, true, true, true, true, true, true, true, true, true, true, true, true, true, true, true, true, true, true, true, true] rfl rfl (by kernel_rfl) (fun _ _ _ h => h) (Or.inl ⟨by rfl, ?_⟩) ?_ ?_
       rotate_left
       ·intro w'
        go_simp
        with_reducible rfl
       rotate_left
       ·simp only [Act.put, sA, sB, sC, i64_w, i32_w]
        rfl
       refine done_ (by kernel_rfl) ?_
       clear hHeld
       go_wp2
       go_ret
       exact ⟨rfl, HW4.out.trans (HBz.out.mono HW4.out.size)⟩
  ·go_wp2
   go_ret
   exact ⟨rfl, HB0.out.trans (HBc.out.mono HB0.out.size)⟩
theorem binds_row (a b : S33) (s : ByteArray) (w : World) (hg : GG w) (ra : RW a) {A3 A4 A5 : Option Addr} {c3 c4 c5 : Nat} (ia : In w a A3 A4 A5 c3 c4 c5) (rb : RW b) {B3 B4 B5 : Option Addr} {d3 d4 d5 : Nat} (ib : In w b B3 B4 B5 d3 d4 d5) (hs : s.size ≤ 140737488351232) :
  Calls Tryd.prog 5 #[.agg #[.int .i64 a.f0, .string a.f1, .int .i64 a.f2, .slice A3 a.f3.length c3, .slice A4 a.f4.length c4, .slice A5 a.f5.length c5], .agg #[.int .i64 b.f0, .string b.f1, .int .i64 b.f2, .slice B3 b.f3.length d3, .slice B4 b.f4.length d4, .slice B5 b.f5.length d5], .string s] w fun e w' => e = .returned (.bool true) ∧ Below w.heap.size w w' := binds_walk a b s ra rb hs w hg ia ib
end Go.Proofs.YtmoeekidmkhkoaaDoor.FreeA

