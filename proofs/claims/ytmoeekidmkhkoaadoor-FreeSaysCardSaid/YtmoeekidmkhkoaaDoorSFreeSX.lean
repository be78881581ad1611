/- Texts of the walks put together: FreeS, FreeT, FreeU, FreeV, FreeW, FreeX. Conditions: as each states. -/
import Derived.Test.YtmoeekidmkhkoaaDoorSFreeLR
import Derived.Test.YtmoeekidmkhkoaaDoorSPFreeF
namespace Go.Proofs.YtmoeekidmkhkoaaDoor.FreeA
open Go.RowKit Go.Proofs.YtmoeekidmkhkoaaDoorW.PrintWords Go.Proofs.YtmoeekidmkhkoaaDoorW.PrintLast Go.Proofs.YtmoeekidmkhkoaaDoorW.PrintMore Go.Proofs.YtmoeekidmkhkoaaDoor.PFreeA
set_option linter.unusedVariables false
set_option linter.unusedSimpArgs false
theorem index_eq (l : List ByteArray) (s : ByteArray) (hl : l.length ≤ 1000000000) : ∀ (k i : Nat), 0 < k → l.length < k + i → i ≤ l.length → ∃ r, PFreeF.slices_Index_string_string.l0 k l s (l.length : Int) (i : Int) = some r ∧ (0 ≤ r ↔ s ∈ l.drop i)
 | 0, i, h0, h, _ => by omega
 | k + 1, i, h0, h, hi => by
  rw [PFreeF.slices_Index_string_string.l0]
  by_cases hlt : i < l.length
  ·rw [if_pos (by omega), if_pos (by omega), if_pos (by omega), rd_at l i hlt, List.drop_eq_getElem_cons hlt, List.mem_cons]
   by_cases he : s.toList = l[i].toList
   ·rw [if_pos he]
    exact ⟨_, rfl, fun _ => .inl (toList_eq.1 he), fun _ => by omega⟩
   ·rw [if_neg he, wr1 i (by omega)]
    obtain ⟨r, hr, hm⟩ := index_eq l s hl k (i + 1) (by omega) (by omega) (by omega)
    refine ⟨r, hr, fun h => .inr (hm.1 h), fun h => ?_⟩
    rcases h with rfl | h
    ·exact absurd rfl he
    ·exact hm.2 h
  ·rw [if_neg (by omega), List.drop_of_length_le (by omega)]
   exact ⟨_, rfl, by simp⟩
theorem contains_g (l : List ByteArray) (hl : l.length ≤ 1000000000) {n : Nat} (hn : l.length = n) (s : ByteArray) {b : Bool} (hb : isIn l s = b) (w : World) {A : Option Addr} {c : Nat} (hC : Kd.C Kd.string w A n l) (hc : n ≤ c) :
  Calls Tryd.prog 32 #[.slice A n c, .string s] w fun x w' => x = .returned (.bool b) ∧ Below w.heap.size w w' := by
 subst hn hb
 refine (PFreeF.slices_Contains_string_string.calls (l.length + 1) A c l s _ w hC hc ?_).mono fun x w' h => ⟨h.1, h.2.below⟩
 obtain ⟨r, hr, hm⟩ := index_eq l s hl (l.length + 1) 0 (by omega) (by omega) (by omega)
 unfold PFreeF.slices_Contains_string_string.f PFreeF.slices_Index_string_string.f
 rw [show (0 : Int) = ((0 : Nat) : Int) from rfl, hr]
 rw [List.drop_zero] at hm
 simp only [Option.bind_some, Option.some.injEq]
 apply bool_iff
 rw [isIn_iff2, ← hm]
 simp
set_option maxHeartbeats 4000000 in
set_option maxRecDepth 100000 in
theorem clone_c (l : List ByteArray) (hl : l.length ≤ 1000000000) {n : Nat} (hn : l.length = n) (w : World) {A : Option Addr} {c : Nat} (hC : Kd.C Kd.string w A n l) (hc : n ≤ c) :
  Calls Tryd.prog 58 #[.slice A n c] w fun x w' => ∃ A1 c1, x = .returned (.slice A1 n c1) ∧ n ≤ c1 ∧ Kd.F Kd.string w' (fun k => w.heap.size ≤ k) A1 n l ∧ Below w.heap.size w w' := by
 subst hn
 have h2 := World.ownsRow_lit (base := w.heap.size) (e := 9) (size := 1) w #[] 0 (Nat.le_refl _) (by simp [maxLen]) (by simp)
 have hR : Kd.R Kd.string 9 (w.alloc (.cells #[] 9)) w.heap.size (fun _ => True) (.slice (some ⟨w.heap.size, 0, none⟩) 0 0) [] := ⟨fun _ _ => trivial, [], (by simpa using h2 : (w.alloc (.cells #[] 9)).ownsRow w.heap.size 9 1 (.slice (some ⟨w.heap.size, 0, none⟩) 0 0) 0 []), Reps.none _ _⟩
 have hR := Aside0.mk hR
 have hb1 := Aside0.mk (below_alloc (Below.refl w.heap.size w) (.cells #[] 9))
 have hC9 := Aside0.mk (Kd.C_below hC hb1.out)
 have hl9 := Aside0.mk hl
 cases A with
 | none =>
  have h0 : l.length = 0 := by
   by_cases h : l.length = 0
   ·exact h
   ·obtain ⟨ad, e, _⟩ := hC.2.2 (by omega)
    cases e
  have hl0 : l = [] := List.eq_nil_of_length_eq_zero h0
  subst hl0
  clear hC hl h2
  go_enter Tryd.func58, Tryd.ntmps58
  have heq : ∀ W, (binOp .eql 22 (.slice none 0 c) (.slice none 0 0)).run Tryd.prog W = .ok (.bool true) W := fun W => Lib.run_eql_slice_nil W 22 9 none 0 c 0 0 Tryd.underlying22
  go_wp2
  go_ret
  exact ⟨none, 0, rfl, Nat.le_refl _, Kd.F_nil _ _ _, Below.refl _ _⟩
 | some ad =>
  clear hC hl h2
  go_enter Tryd.func58, Tryd.ntmps58
  have heq : ∀ W, (binOp .eql 22 (.slice (some ad) l.length c) (.slice none 0 0)).run Tryd.prog W = .ok (.bool false) W := fun W => Lib.run_eql_slice_nil W 22 9 (some ad) l.length c 0 0 Tryd.underlying22
  go_wp2_with (first | ((with_reducible refine gate_builtin (b := .append) (xs := #[.tmp 5, .tmp 6]) rfl ?_); at_builtin; go_loud (refine Kd.R_append_rows Kd.string (Rr := Kd.string.K (w.alloc (.cells #[] 9))) (w0 := w) w.heap.size rfl (.tmp 5) (.tmp 6) 22 9 (.string ⟨#[]⟩) 16 rfl Tryd.underlying22 inf9' rfl (by decide) (by decide) (.slice (some ⟨w.heap.size, 0, none⟩) 0 0) [] l (some ad) l.length c (fun _ => True) (fun _ => False) rfl rfl ?aR ?aC (fun _ _ h => h) (fun _ h => h.elim) (fun _ _ => trivial) ?aB ?aS ?aL ?_); (case aR => exact hR.out); (case aC => exact hC9.out); (case aB => exact hb1.out); (case aS => exact hb1.out.size); (case aL => have := hl9.out; simp only [List.length_nil]; omega); intro v4 w4 hr4 hb4 hg4 hat4; rw [List.nil_append] at hr4; obtain ⟨A4, c4, hv4⟩ := Kd.R_slice hr4; subst hv4; have HR := Aside0.mk hr4; have HB := Aside0.mk hb4; clear hr4 hb4 hg4 hat4))
  go_ret
  exact ⟨A4, c4, rfl, (Kd.R_reads' HR.out).2.1, Kd.N_F (Kd.R_N (Kd.R_mono (Kd.R_bound HR.out) (fun k hk => hk.2.1))), HB.out⟩
mutual
/-- An expression with another one in a free name's place. -/
def cl (x : ByteArray) (y : S33) : S33 → S33
 | ⟨op, nm, n, ns, l, al⟩ => if op = 1 ∧ nm = x then y else ⟨op, nm, n, ns, if isIn ns x = true then l else clL x y l, clA x y al⟩
def clL (x : ByteArray) (y : S33) : List S33 → List S33
 | [] => []
 | e :: l => cl x y e :: clL x y l
def clA (x : ByteArray) (y : S33) : List S40 → List S40
 | [] => []
 | ⟨t, nm, n, ns, e⟩ :: l => ⟨t, nm, n, ns, if isIn ns x = true then e else cl x y e⟩ :: clA x y l
end
def exV (x : ByteArray) : S33 := ⟨1, x, 0, [], [], []⟩
def SE (e : S33) : Prop := ∀ (w : World) {A3 A4 A5 B3 B4 B5 : Option Addr} {c3 c4 c5 d3 d4 d5 : Nat}, In w e A3 A4 A5 c3 c4 c5 → In w e B3 B4 B5 d3 d4 d5 →
 Calls Tryd.prog 22 #[.agg #[.int .i64 e.f0, .string e.f1, .int .i64 e.f2, .slice A3 e.f3.length c3, .slice A4 e.f4.length c4, .slice A5 e.f5.length c5], .agg #[.int .i64 e.f0, .string e.f1, .int .i64 e.f2, .slice B3 e.f3.length d3, .slice B4 e.f4.length d4, .slice B5 e.f5.length d5]] w fun r w' => r = .returned (.bool true) ∧ Below w.heap.size w w'
theorem SE.at {e : S33} (h : SE e) (w : World) {A3 A4 A5 B3 B4 B5 : Option Addr} {c3 c4 c5 d3 d4 d5 : Nat} (i1 : In w e A3 A4 A5 c3 c4 c5) (i2 : In w e B3 B4 B5 d3 d4 d5) :
 Calls Tryd.prog 22 #[.agg #[.int .i64 e.f0, .string e.f1, .int .i64 e.f2, .slice A3 e.f3.length c3, .slice A4 e.f4.length c4, .slice A5 e.f5.length c5], .agg #[.int .i64 e.f0, .string e.f1, .int .i64 e.f2, .slice B3 e.f3.length d3, .slice B4 e.f4.length d4, .slice B5 e.f5.length d5]] w fun r w' => r = .returned (.bool true) ∧ Below w.heap.size w w' := h w i1 i2
theorem In.of {W : World} {A : Option Addr} {n : Nat} {l : List S33} (hC : k33.C W A n l) (i : Nat) {x : S33} (hx : l[i]? = some x) : ∃ ad B3 d3 B4 d4 B5 d5, A = some ad ∧ EC W (ad.add (i * 6)) x B3 B4 B5 d3 d4 d5 ∧ In W x B3 B4 B5 d3 d4 d5 := by
 obtain ⟨ad, B3, d3, B4, d4, B5, d5, e, he, g3, g4, g5, m3, m4, m5⟩ := elem33 hC i hx
 exact ⟨ad, B3, d3, B4, d4, B5, d5, e, he, g3, m3, g4, m4, g5, m5⟩
set_option maxHeartbeats 16000000 in
set_option maxRecDepth 100000 in
theorem same_step (e : S33) (hl3 : e.f3.length ≤ 1000000000) (hl4 : e.f4.length ≤ 1000000000) (hl5 : e.f5.length ≤ 1000000000) (ha3 : ∀ a ∈ e.f5, a.f3.length ≤ 1000000000) (ih : ∀ x ∈ e.f4, SE x) (iha : ∀ a ∈ e.f5, SE a.f4) : SE e := by
 intro w A3 A4 A5 B3 B4 B5 c3 c4 c5 d3 d4 d5 i1 i2
 have E : ∀ W : World, ∀ o : Obj, (W.alloc o).heap.size = W.heap.size + 1 := fun W o => Array.size_push _
 obtain ⟨f0, f1, f2, l3, l4, l5⟩ := e
 dsimp only at *
 obtain ⟨W0, hW0⟩ : ∃ W0, (w.alloc (.cells #[.int .i64 f0, .string f1, .int .i64 f2, .slice A3 l3.length c3, .slice A4 l4.length c4, .slice A5 l5.length c5] 33)).alloc (.cells #[.int .i64 f0, .string f1, .int .i64 f2, .slice B3 l3.length d3, .slice B4 l4.length d4, .slice B5 l5.length d5] 33) = W0 := ⟨_, rfl⟩
 have hB0 : Aside0 (Below w.heap.size w W0) := ⟨by rw [← hW0]; exact below_alloc (below_alloc (Below.refl _ _) _) _⟩
 have hxa : Aside0 (W0.heap[w.heap.size]? = some (.cells #[.int .i64 f0, .string f1, .int .i64 f2, .slice A3 l3.length c3, .slice A4 l4.length c4, .slice A5 l5.length c5] 33 (0, 0))) := ⟨by rw [← hW0]; exact (Below.heap_alloc _ _ _ (by rw [E]; omega)).trans (blk_new w _)⟩
 have hxb : Aside0 (W0.heap[w.heap.size + 1]? = some (.cells #[.int .i64 f0, .string f1, .int .i64 f2, .slice B3 l3.length d3, .slice B4 l4.length d4, .slice B5 l5.length d5] 33 (0, 0))) := ⟨by rw [← hW0, ← E w]; exact blk_new _ _⟩
 have i1 := Aside0.mk (i1.below hB0.out)
 have i2 := Aside0.mk (i2.below hB0.out)
 have hl := Aside0.mk (And.intro hl3 (And.intro hl4 hl5))
 have hih := Aside0.mk ih
 have hiha := Aside0.mk iha
 have ha3 := Aside0.mk ha3
 clear hl3 hl4 hl5 ih iha
 have CS := same_g l3 hl.out.1 rfl W0 i1.out.h3 i1.out.m3 i2.out.h3 i2.out.m3
 have ka0 := (blk_cell hxa.out 0).trans rfl
 have ka1 := (blk_cell hxa.out 1).trans rfl
 have ka2 := (blk_cell hxa.out 2).trans rfl
 have ka3 := (blk_cell hxa.out 3).trans rfl
 have ka4 := (blk_cell hxa.out 4).trans rfl
 have ka5 := (blk_cell hxa.out 5).trans rfl
 have kb0 := (blk_cell hxb.out 0).trans rfl
 have kb1 := (blk_cell hxb.out 1).trans rfl
 have kb2 := (blk_cell hxb.out 2).trans rfl
 have kb3 := (blk_cell hxb.out 3).trans rfl
 have kb4 := (blk_cell hxb.out 4).trans rfl
 have kb5 := (blk_cell hxb.out 5).trans rfl
 go_enter Tryd.func22, Tryd.ntmps22
 go_wp2_with (first | (go_at_call 17; (try rw [hW0]); go_loud (with_reducible refine CS.mono ?_); rintro e w1 ⟨rfl, hb1⟩; have HB1 := Aside0.mk hb1; clear ka0 kb0 ka1 kb1 ka2 kb2 ka3 kb3 ka4 kb4 ka5 kb5; (have ka0 := (blk_cell (blk_below hxa.out HB1.out) 0).trans rfl); (have ka1 := (blk_cell (blk_below hxa.out HB1.out) 1).trans rfl); (have ka2 := (blk_cell (blk_below hxa.out HB1.out) 2).trans rfl); (have ka3 := (blk_cell (blk_below hxa.out HB1.out) 3).trans rfl); (have ka4 := (blk_cell (blk_below hxa.out HB1.out) 4).trans rfl); (have ka5 := (blk_cell (blk_below hxa.out HB1.out) 5).trans rfl); (have kb0 := (blk_cell (blk_below hxb.out HB1.out) 0).trans rfl); (have kb1 := (blk_cell (blk_below hxb.out HB1.out) 1).trans rfl); (have kb2 := (blk_cell (blk_below hxb.out HB1.out) 2).trans rfl); (have kb3 := (blk_cell (blk_below hxb.out HB1.out) 3).trans rfl); (have kb4 := (blk_cell (blk_below hxb.out HB1.out) 4).trans rfl); (have kb5 := (blk_cell (blk_below hxb.out HB1.out) 5).trans rfl); clear hb1 CS))
 go_loopg [5] (l4.length + 1) (fun kq v5 w' => ∃ i : Nat, v5 = .int .i64 (i : Int) ∧ i + kq = l4.length + 1 ∧ 1 ≤ kq ∧ Aside0 (Below W0.heap.size W0 w'))
 case atStart => exact ⟨0, rfl, by omega, by omega, HB1⟩
 case round =>
  clear HB1
  obtain ⟨i, rfl, hi, hk, hBr⟩ := hrel
  have ka0 := (blk_cell (blk_below hxa.out hBr.out) 0).trans rfl
  have ka1 := (blk_cell (blk_below hxa.out hBr.out) 1).trans rfl
  have ka2 := (blk_cell (blk_below hxa.out hBr.out) 2).trans rfl
  have ka3 := (blk_cell (blk_below hxa.out hBr.out) 3).trans rfl
  have ka4 := (blk_cell (blk_below hxa.out hBr.out) 4).trans rfl
  have ka5 := (blk_cell (blk_below hxa.out hBr.out) 5).trans rfl
  have kb0 := (blk_cell (blk_below hxb.out hBr.out) 0).trans rfl
  have kb1 := (blk_cell (blk_below hxb.out hBr.out) 1).trans rfl
  have kb2 := (blk_cell (blk_below hxb.out hBr.out) 2).trans rfl
  have kb3 := (blk_cell (blk_below hxb.out hBr.out) 3).trans rfl
  have kb4 := (blk_cell (blk_below hxb.out hBr.out) 4).trans rfl
  have kb5 := (blk_cell (blk_below hxb.out hBr.out) 5).trans rfl
  by_cases hlt : i < l4.length
  ·have hxi : l4[i]? = some l4[i] := List.getElem?_eq_getElem hlt
   have hx := hih.out _ (List.getElem_mem hlt)
   generalize l4[i] = x at hxi hx
   obtain ⟨ad, P3, q3, P4, q4, P5, q5, rfl, he, ie⟩ := In.of (Kd.C_below i1.out.h4 hBr.out) i hxi
   obtain ⟨ad2, R3, s3, R4, s4, R5, s5, rfl, he2, ie2⟩ := In.of (Kd.C_below i2.out.h4 hBr.out) i hxi
   have he := Aside0.mk he
   have he2 := Aside0.mk he2
   have CX : ∀ W, Below wr.heap.size wr W → _ := fun W hb => hx.at W (ie.below hb) (ie2.below hb)
   have CX := Aside0.mk @CX
   have p0 : (0 : Int) ≤ (i : Int) := by omega
   have p1 : (i : Int) < (l4.length : Int) := by omega
   have q1 : decide ((i : Int) < (l4.length : Int)) = true := decide_eq_true p1
   have hjn : Value.int .i64 (wrap64 ((i : Int) + 1)) = .int .i64 ((i + 1 : Nat) : Int) := by rw [wr1 i (by have := hl.out; omega)]
   have hi7 : i + 1 + (gk - 1) = l4.length + 1 ∧ 1 ≤ gk - 1 ∧ gk - 1 < gk := by omega
   clear hx ie ie2
   go_wp2
   have HB_ : Below wr.heap.size wr wr.drew := below_drew1 (Below.refl _ _)
   refine start_ (n := 12) (S := fun w' => w'.cell? ⟨w.heap.size, 4, none⟩ = some (.slice (some ad) l4.length c4) ∧ w'.cell? ⟨w.heap.size + 1, 4, none⟩ = some (.slice (some ad2) l4.length d4) ∧ w'.cell? (ad.add (i * 6)) = some (.int .i64 x.f0) ∧ w'.cell? ⟨((ad.add (i * 6))).block, ((ad.add (i * 6))).off + 1, none⟩ = some (.string x.f1) ∧ w'.cell? ⟨((ad.add (i * 6))).block, ((ad.add (i * 6))).off + 2, none⟩ = some (.int .i64 x.f2) ∧ w'.cell? ⟨((ad.add (i * 6))).block, ((ad.add (i * 6))).off + 3, none⟩ = some (.slice P3 x.f3.length q3) ∧ w'.cell? ⟨((ad.add (i * 6))).block, ((ad.add (i * 6))).off + 4, none⟩ = some (.slice P4 x.f4.length q4) ∧ w'.cell? ⟨((ad.add (i * 6))).block, ((ad.add (i * 6))).off + 5, none⟩ = some (.slice P5 x.f5.length q5) ∧ w'.cell? (ad2.add (i * 6)) = some (.int .i64 x.f0) ∧ w'.cell? ⟨((ad2.add (i * 6))).block, ((ad2.add (i * 6))).off + 1, none⟩ = some (.string x.f1) ∧ w'.cell? ⟨((ad2.add (i * 6))).block, ((ad2.add (i * 6))).off + 2, none⟩ = some (.int .i64 x.f2) ∧ w'.cell? ⟨((ad2.add (i * 6))).block, ((ad2.add (i * 6))).off + 3, none⟩ = some (.slice R3 x.f3.length s3) ∧ w'.cell? ⟨((ad2.add (i * 6))).block, ((ad2.add (i * 6))).off + 4, none⟩ = some (.slice R4 x.f4.length s4) ∧ w'.cell? ⟨((ad2.add (i * 6))).block, ((ad2.add (i * 6))).off + 5, none⟩ = some (.slice R5 x.f5.length s5)) (ds := []) (bm 12 0) (by kernel_rfl) rfl rfl ⟨(blk_cell (blk_below (blk_below hxa.out hBr.out) HB_) 4).trans rfl, (blk_cell (blk_below (blk_below hxb.out hBr.out) HB_) 4).trans rfl, (he.out.below HB_).1, (he.out.below HB_).2.1, (he.out.below HB_).2.2.1, (he.out.below HB_).2.2.2.1, (he.out.below HB_).2.2.2.2.1, (he.out.below HB_).2.2.2.2.2, (he2.out.below HB_).1, (he2.out.below HB_).2.1, (he2.out.below HB_).2.2.1, (he2.out.below HB_).2.2.2.1, (he2.out.below HB_).2.2.2.2.1, (he2.out.below HB_).2.2.2.2.2⟩ (fun hHeld => ?_)
   generalize wr.drew = W9 at *
   refine pure_ (i := 0) (N := some 61) (v := ?_) (a' := ?_) (bm 12 1) rfl rfl (by kernel_rfl) (fun _ _ _ h => h) (Or.inl ⟨by rfl, ?_⟩) ?_ ?_
   rotate_left
   ·intro w'
    go_simp
    with_reducible rfl
   rotate_left
   ·simp only [Act.put, sA, sB, sC, i64_w, i32_w]
    rfl
   refine pure_ (i := 2) (N := some 63) (v := ?_) (a' := ?_) (bm 12 5) rfl rfl (by kernel_rfl) (fun _ _ _ h => h) (Or.inl ⟨by rfl, ?_⟩) ?_ ?_
   rotate_left
   ·intro w'
    go_simp
    with_reducible rfl
   rotate_left
   ·simp only [Act.put, sA, sB, sC, i64_w, i32_w]
    rfl
   refine pure_ (i := 5) (N := some 66) (v := ?_) (a' := ?_) (bm 12 37) rfl rfl (by kernel_rfl) (fun _ _ _ h => h) (Or.inl ⟨by rfl, ?_⟩) ?_ ?_
   rotate_left
   ·intro w'
    go_simp
    with_reducible rfl
   rotate_left
   ·simp only [Act.put, sA, sB, sC, i64_w, i32_w]
    rfl
   refine pure_ (i := 7) (N := some 68) (v := ?_) (a' := ?_) (bm 12 165) rfl rfl (by kernel_rfl) (fun _ _ _ h => h) (Or.inl ⟨by rfl, ?_⟩) ?_ ?_
   rotate_left
   ·intro w'
    go_simp
    with_reducible rfl
   rotate_left
   ·simp only [Act.put, sA, sB, sC, i64_w, i32_w]
    rfl
   refine take_ (i := 1) (N := some 62) (v := ?_) (a' := ?_) (bm 12 167) rfl rfl (by kernel_rfl) (fun _ _ _ h => h) (Or.inl ⟨by rfl, ?_⟩) hHeld ?_ ?_
   rotate_left
   ·rintro w' ⟨s0, s1, s2, s3, s4, s5, s6, s7, s8, s9, s10, s11, s12, s13⟩
    go_simp
    with_reducible rfl
   rotate_left
   ·simp only [Act.put, sA, sB, sC, i64_w, i32_w]
    rfl
   refine pure_ (i := 3) (N := some 64) (v := ?_) (a' := ?_) (bm 12 175) rfl rfl (by kernel_rfl) (fun _ _ _ h => h) (Or.inl ⟨by rfl, ?_⟩) ?_ ?_
   rotate_left
   ·intro w'
    go_simp
    with_reducible rfl
   rotate_left
   ·simp only [Act.put, sA, sB, sC, i64_w, i32_w]
    rfl
   refine take_ (i := 4) (N := some 65) (v := ?_) (a' := ?_) (bm 12 191) rfl rfl (by kernel_rfl) (fun _ _ _ h => h) (Or.inl ⟨by rfl, ?_⟩) hHeld ?_ ?_
   rotate_left
   ·rintro w' ⟨s0, s1, s2, s3, s4, s5, s6, s7, s8, s9, s10, s11, s12, s13⟩
    go_simp
    with_reducible rfl
   rotate_left
   ·simp only [Act.put, sA, sB, sC, i64_w, i32_w]
    rfl
   refine take_ (i := 6) (N := some 67) (v := ?_) (a' := ?_) (bm 12 255) rfl rfl (by kernel_rfl) (fun _ _ _ h => h) (Or.inl ⟨by rfl, ?_⟩) hHeld ?_ ?_
   rotate_left
   ·rintro w' ⟨s0, s1, s2, s3, s4, s5, s6, s7, s8, s9, s10, s11, s12, s13⟩
    go_simp
    with_reducible rfl
   rotate_left
   ·simp only [Act.put, sA, sB, sC, i64_w, i32_w]
    rfl
   refine pure_ (i := 8) (N := some 69) (v := ?_) (a' := ?_) (bm 12 511) rfl rfl (by kernel_rfl) (fun _ _ _ h => h) (Or.inl ⟨by rfl, ?_⟩) ?_ ?_
   rotate_left
   ·intro w'
    go_simp
    with_reducible rfl
   rotate_left
   ·simp only [Act.put, sA, sB, sC, i64_w, i32_w]
    rfl
   refine take_ (i := 9) (N := some 70) (v := ?_) (a' := ?_) (bm 12 1023) rfl rfl (by kernel_rfl) (fun _ _ _ h => h) (Or.inl ⟨by rfl, ?_⟩) hHeld ?_ ?_
   rotate_left
   ·rintro w' ⟨s0, s1, s2, s3, s4, s5, s6, s7, s8, s9, s10, s11, s12, s13⟩
    go_simp
    with_reducible rfl
   rotate_left
   ·simp only [Act.put, sA, sB, sC, i64_w, i32_w]
    rfl
   refine one_ (i := 10) (N := some 71) (bm 12 2047) rfl rfl (by kernel_rfl) (by decide) (fun K hK => ?_)
   refine goes_ Tryd.func22 (by kernel_rfl) rfl #[.agg #[.int .i64 x.f0, .string x.f1, .int .i64 x.f2, .slice P3 x.f3.length q3, .slice P4 x.f4.length q4, .slice P5 x.f5.length q5], .agg #[.int .i64 x.f0, .string x.f1, .int .i64 x.f2, .slice R3 x.f3.length s3, .slice R4 x.f4.length s4, .slice R5 x.f5.length s5]] (by rfl) rfl rfl (by simp only [List.map_toArray, List.map_cons, List.map_nil]; rfl) ?_
   (with_reducible refine (CX.out W9 HB_).mono ?_)
   rintro e w5 ⟨rfl, hbq5⟩
   refine ⟨_, rfl, ?_⟩
   have HB5 := below_step HB_ hbq5
   refine hK.out _ _ ⟨(blk_cell (blk_below (blk_below hxa.out hBr.out) HB5) 4).trans rfl, (blk_cell (blk_below (blk_below hxb.out hBr.out) HB5) 4).trans rfl, (he.out.below HB5).1, (he.out.below HB5).2.1, (he.out.below HB5).2.2.1, (he.out.below HB5).2.2.2.1, (he.out.below HB5).2.2.2.2.1, (he.out.below HB5).2.2.2.2.2, (he2.out.below HB5).1, (he2.out.below HB5).2.1, (he2.out.below HB5).2.2.1, (he2.out.below HB5).2.2.2.1, (he2.out.below HB5).2.2.2.2.1, (he2.out.below HB5).2.2.2.2.2⟩ (fun hHeld => ?_)
   clear hK K
   refine norm_ (a' := ?_) ?_ ?_
   rotate_left
   ·show Act.put _ (some 71) _ = _
    simp only [Act.put, sA, sB, sC, i64_w, i32_w]
    rfl
   refine pure_ (i := 11) (N := some 72) (v := ?_) (a' := ?_) (bm 12 4095) rfl rfl (by kernel_rfl) (fun _ _ _ h => h) (Or.inl ⟨by rfl, ?_⟩) ?_ ?_
   rotate_left
   ·intro w'
    go_simp
    with_reducible rfl
   rotate_left
   ·simp only [Act.put, sA, sB, sC, i64_w, i32_w]
    rfl
   refine done_ (by kernel_rfl) ?_
   have HBz := Aside0.mk (below_step hBr.out HB5)
   clear hHeld
   go_wp2
   go_roundg (gk - 1)
   case measure => exact hi7.2.2
   case rel => exact ⟨i + 1, by first | exact hjn | rfl, hi7.1, hi7.2.1, HBz⟩
  ·have q1 : decide ((i : Int) < (l4.length : Int)) = false := decide_eq_false (by omega)
   clear hi hk
   have HBd := hBr
   clear hBr
   go_wp2
   go_loopg [6] (l5.length + 1) (fun kq v6 w' => ∃ i : Nat, v6 = .int .i64 (i : Int) ∧ i + kq = l5.length + 1 ∧ 1 ≤ kq ∧ Aside0 (Below W0.heap.size W0 w'))
   case atStart => exact ⟨0, rfl, by omega, by omega, HBd⟩
   case round =>
    clear HBd ka0 ka1 ka2 ka3 ka4 ka5 kb0 kb1 kb2 kb3 kb4 kb5 q1
    obtain ⟨i, rfl, hi, hk, hBr⟩ := hrel
    have ka0 := (blk_cell (blk_below hxa.out hBr.out) 0).trans rfl
    have ka1 := (blk_cell (blk_below hxa.out hBr.out) 1).trans rfl
    have ka2 := (blk_cell (blk_below hxa.out hBr.out) 2).trans rfl
    have ka3 := (blk_cell (blk_below hxa.out hBr.out) 3).trans rfl
    have ka4 := (blk_cell (blk_below hxa.out hBr.out) 4).trans rfl
    have ka5 := (blk_cell (blk_below hxa.out hBr.out) 5).trans rfl
    have kb0 := (blk_cell (blk_below hxb.out hBr.out) 0).trans rfl
    have kb1 := (blk_cell (blk_below hxb.out hBr.out) 1).trans rfl
    have kb2 := (blk_cell (blk_below hxb.out hBr.out) 2).trans rfl
    have kb3 := (blk_cell (blk_below hxb.out hBr.out) 3).trans rfl
    have kb4 := (blk_cell (blk_below hxb.out hBr.out) 4).trans rfl
    have kb5 := (blk_cell (blk_below hxb.out hBr.out) 5).trans rfl
    by_cases hlt : i < l5.length
    ·have hxi : l5[i]? = some l5[i] := List.getElem?_eq_getElem hlt
     have hx := hiha.out _ (List.getElem_mem hlt)
     have hx3 := ha3.out _ (List.getElem_mem hlt)
     generalize l5[i] = a at hxi hx hx3
     obtain ⟨ad, P3, q3, P7, q7, P8, q8, P9, q9, rfl, ⟨e0, e1, e2, e3, e4, e5, e6, e7, e8, e9⟩, g3, g7, g8, g9, m3, m7, m8, m9⟩ := elem40c (Kd.C_below i1.out.h5 hBr.out) i hxi
     obtain ⟨ad2, R3, s3, R7, s7, R8, s8, R9, s9, rfl, ⟨y0, y1, y2, y3, y4, y5, y6, y7, y8, y9⟩, n3, n7, n8, n9, o3, o7, o8, o9⟩ := elem40c (Kd.C_below i2.out.h5 hBr.out) i hxi
     have p0 : (0 : Int) ≤ (i : Int) := by omega
     have p1 : (i : Int) < (l5.length : Int) := by omega
     have q1 : decide ((i : Int) < (l5.length : Int)) = true := decide_eq_true p1
     have hjn : Value.int .i64 (wrap64 ((i : Int) + 1)) = .int .i64 ((i + 1 : Nat) : Int) := by rw [wr1 i (by have := hl.out; omega)]
     have hi7 : i + 1 + (gk - 1) = l5.length + 1 ∧ 1 ≤ gk - 1 ∧ gk - 1 < gk := by omega
     have CS := fun (W : World) (hb : Below wr.heap.size wr W) => same_g a.f3 hx3 rfl W (Kd.C_below g3 hb) m3 (Kd.C_below n3 hb) o3
     have CX := fun (W : World) (hb : Below wr.heap.size wr W) => hx.at W (In.below ⟨g7, m7, g8, m8, g9, m9⟩ hb) (In.below ⟨n7, o7, n8, o8, n9, o9⟩ hb)
     have CS := Aside0.mk CS
     have CX := Aside0.mk CX
     clear g3 g7 g8 g9 m3 m7 m8 m9 n3 n7 n8 n9 o3 o7 o8 o9 hx hx3
     obtain ⟨Wa, hWa⟩ : ∃ Wa, ((wr.alloc (.cells #[.int .i64 a.f0, .string a.f1, .int .i64 a.f2, .slice P3 a.f3.length q3, .int .i64 a.f4.f0, .string a.f4.f1, .int .i64 a.f4.f2, .slice P7 a.f4.f3.length q7, .slice P8 a.f4.f4.length q8, .slice P9 a.f4.f5.length q9] 40)).alloc (.cells #[.int .i64 a.f0, .string a.f1, .int .i64 a.f2, .slice R3 a.f3.length s3, .int .i64 a.f4.f0, .string a.f4.f1, .int .i64 a.f4.f2, .slice R7 a.f4.f3.length s7, .slice R8 a.f4.f4.length s8, .slice R9 a.f4.f5.length s9] 40)) = Wa := ⟨_, rfl⟩
     have hBa : Aside0 (Below wr.heap.size wr Wa) := ⟨by rw [← hWa]; exact below_alloc (below_alloc (Below.refl _ _) _) _⟩
     have zb : Aside0 ((wr.alloc (.cells #[.int .i64 a.f0, .string a.f1, .int .i64 a.f2, .slice P3 a.f3.length q3, .int .i64 a.f4.f0, .string a.f4.f1, .int .i64 a.f4.f2, .slice P7 a.f4.f3.length q7, .slice P8 a.f4.f4.length q8, .slice P9 a.f4.f5.length q9] 40)).heap[w.heap.size + 1]? = some (.cells #[.int .i64 f0, .string f1, .int .i64 f2, .slice B3 l3.length d3, .slice B4 l4.length d4, .slice (some ad2) l5.length d5] 33 (0, 0))) := ⟨blk_below (blk_below hxb.out hBr.out) (below_alloc (Below.refl _ _) _)⟩
     have z5 := (blk_cell zb.out 5).trans rfl
     have x0 := (World.cell?_alloc_lt _ (.cells #[.int .i64 a.f0, .string a.f1, .int .i64 a.f2, .slice P3 a.f3.length q3, .int .i64 a.f4.f0, .string a.f4.f1, .int .i64 a.f4.f2, .slice P7 a.f4.f3.length q7, .slice P8 a.f4.f4.length q8, .slice P9 a.f4.f5.length q9] 40) _ (World.block_lt_of_cell? _ _ y0)).trans y0
     have x1 := (World.cell?_alloc_lt _ (.cells #[.int .i64 a.f0, .string a.f1, .int .i64 a.f2, .slice P3 a.f3.length q3, .int .i64 a.f4.f0, .string a.f4.f1, .int .i64 a.f4.f2, .slice P7 a.f4.f3.length q7, .slice P8 a.f4.f4.length q8, .slice P9 a.f4.f5.length q9] 40) _ (World.block_lt_of_cell? _ _ y1)).trans y1
     have x2 := (World.cell?_alloc_lt _ (.cells #[.int .i64 a.f0, .string a.f1, .int .i64 a.f2, .slice P3 a.f3.length q3, .int .i64 a.f4.f0, .string a.f4.f1, .int .i64 a.f4.f2, .slice P7 a.f4.f3.length q7, .slice P8 a.f4.f4.length q8, .slice P9 a.f4.f5.length q9] 40) _ (World.block_lt_of_cell? _ _ y2)).trans y2
     have x3 := (World.cell?_alloc_lt _ (.cells #[.int .i64 a.f0, .string a.f1, .int .i64 a.f2, .slice P3 a.f3.length q3, .int .i64 a.f4.f0, .string a.f4.f1, .int .i64 a.f4.f2, .slice P7 a.f4.f3.length q7, .slice P8 a.f4.f4.length q8, .slice P9 a.f4.f5.length q9] 40) _ (World.block_lt_of_cell? _ _ y3)).trans y3
     have x4 := (World.cell?_alloc_lt _ (.cells #[.int .i64 a.f0, .string a.f1, .int .i64 a.f2, .slice P3 a.f3.length q3, .int .i64 a.f4.f0, .string a.f4.f1, .int .i64 a.f4.f2, .slice P7 a.f4.f3.length q7, .slice P8 a.f4.f4.length q8, .slice P9 a.f4.f5.length q9] 40) _ (World.block_lt_of_cell? _ _ y4)).trans y4
     have x5 := (World.cell?_alloc_lt _ (.cells #[.int .i64 a.f0, .string a.f1, .int .i64 a.f2, .slice P3 a.f3.length q3, .int .i64 a.f4.f0, .string a.f4.f1, .int .i64 a.f4.f2, .slice P7 a.f4.f3.length q7, .slice P8 a.f4.f4.length q8, .slice P9 a.f4.f5.length q9] 40) _ (World.block_lt_of_cell? _ _ y5)).trans y5
     have x6 := (World.cell?_alloc_lt _ (.cells #[.int .i64 a.f0, .string a.f1, .int .i64 a.f2, .slice P3 a.f3.length q3, .int .i64 a.f4.f0, .string a.f4.f1, .int .i64 a.f4.f2, .slice P7 a.f4.f3.length q7, .slice P8 a.f4.f4.length q8, .slice P9 a.f4.f5.length q9] 40) _ (World.block_lt_of_cell? _ _ y6)).trans y6
     have x7 := (World.cell?_alloc_lt _ (.cells #[.int .i64 a.f0, .string a.f1, .int .i64 a.f2, .slice P3 a.f3.length q3, .int .i64 a.f4.f0, .string a.f4.f1, .int .i64 a.f4.f2, .slice P7 a.f4.f3.length q7, .slice P8 a.f4.f4.length q8, .slice P9 a.f4.f5.length q9] 40) _ (World.block_lt_of_cell? _ _ y7)).trans y7
     have x8 := (World.cell?_alloc_lt _ (.cells #[.int .i64 a.f0, .string a.f1, .int .i64 a.f2, .slice P3 a.f3.length q3, .int .i64 a.f4.f0, .string a.f4.f1, .int .i64 a.f4.f2, .slice P7 a.f4.f3.length q7, .slice P8 a.f4.f4.length q8, .slice P9 a.f4.f5.length q9] 40) _ (World.block_lt_of_cell? _ _ y8)).trans y8
     have x9 := (World.cell?_alloc_lt _ (.cells #[.int .i64 a.f0, .string a.f1, .int .i64 a.f2, .slice P3 a.f3.length q3, .int .i64 a.f4.f0, .string a.f4.f1, .int .i64 a.f4.f2, .slice P7 a.f4.f3.length q7, .slice P8 a.f4.f4.length q8, .slice P9 a.f4.f5.length q9] 40) _ (World.block_lt_of_cell? _ _ y9)).trans y9
     have hab : Aside0 (Wa.heap[wr.heap.size]? = some (.cells #[.int .i64 a.f0, .string a.f1, .int .i64 a.f2, .slice P3 a.f3.length q3, .int .i64 a.f4.f0, .string a.f4.f1, .int .i64 a.f4.f2, .slice P7 a.f4.f3.length q7, .slice P8 a.f4.f4.length q8, .slice P9 a.f4.f5.length q9] 40 (0, 0))) := ⟨by rw [← hWa]; exact (Below.heap_alloc _ _ _ (by rw [E]; omega)).trans (blk_new wr _)⟩
     have hab2 : Aside0 (Wa.heap[wr.heap.size + 1]? = some (.cells #[.int .i64 a.f0, .string a.f1, .int .i64 a.f2, .slice R3 a.f3.length s3, .int .i64 a.f4.f0, .string a.f4.f1, .int .i64 a.f4.f2, .slice R7 a.f4.f3.length s7, .slice R8 a.f4.f4.length s8, .slice R9 a.f4.f5.length s9] 40 (0, 0))) := ⟨by rw [← hWa, ← E wr]; exact blk_new _ _⟩
     have u0 := (blk_cell hab.out 0).trans rfl
     have u1 := (blk_cell hab.out 1).trans rfl
     have u2 := (blk_cell hab.out 2).trans rfl
     have u3 := (blk_cell hab.out 3).trans rfl
     have u4 := (blk_cell hab.out 4).trans rfl
     have u5 := (blk_cell hab.out 5).trans rfl
     have u6 := (blk_cell hab.out 6).trans rfl
     have u7 := (blk_cell hab.out 7).trans rfl
     have u8 := (blk_cell hab.out 8).trans rfl
     have u9 := (blk_cell hab.out 9).trans rfl
     have t0 := (blk_cell hab2.out 0).trans rfl
     have t1 := (blk_cell hab2.out 1).trans rfl
     have t2 := (blk_cell hab2.out 2).trans rfl
     have t3 := (blk_cell hab2.out 3).trans rfl
     have t4 := (blk_cell hab2.out 4).trans rfl
     have t5 := (blk_cell hab2.out 5).trans rfl
     have t6 := (blk_cell hab2.out 6).trans rfl
     have t7 := (blk_cell hab2.out 7).trans rfl
     have t8 := (blk_cell hab2.out 8).trans rfl
     have t9 := (blk_cell hab2.out 9).trans rfl
     have T1 : True := trivial
     go_wp2_with (first | (clear T1; go_at_call 17; (try rw [hWa]); go_loud (with_reducible refine (CS.out Wa hBa.out).mono ?_); rintro e w3 ⟨rfl, hb3⟩; have HB3 := Aside0.mk (below_step hBa.out hb3); have CX3 := CX.out w3 HB3.out; clear u0 t0 u1 t1 u2 t2 u3 t3 u4 t4 u5 t5 u6 t6 u7 t7 u8 t8 u9 t9; (have u0 := (blk_cell (blk_below hab.out hb3) 0).trans rfl); (have u1 := (blk_cell (blk_below hab.out hb3) 1).trans rfl); (have u2 := (blk_cell (blk_below hab.out hb3) 2).trans rfl); (have u3 := (blk_cell (blk_below hab.out hb3) 3).trans rfl); (have u4 := (blk_cell (blk_below hab.out hb3) 4).trans rfl); (have u5 := (blk_cell (blk_below hab.out hb3) 5).trans rfl); (have u6 := (blk_cell (blk_below hab.out hb3) 6).trans rfl); (have u7 := (blk_cell (blk_below hab.out hb3) 7).trans rfl); (have u8 := (blk_cell (blk_below hab.out hb3) 8).trans rfl); (have u9 := (blk_cell (blk_below hab.out hb3) 9).trans rfl); (have t0 := (blk_cell (blk_below hab2.out hb3) 0).trans rfl); (have t1 := (blk_cell (blk_below hab2.out hb3) 1).trans rfl); (have t2 := (blk_cell (blk_below hab2.out hb3) 2).trans rfl); (have t3 := (blk_cell (blk_below hab2.out hb3) 3).trans rfl); (have t4 := (blk_cell (blk_below hab2.out hb3) 4).trans rfl); (have t5 := (blk_cell (blk_below hab2.out hb3) 5).trans rfl); (have t6 := (blk_cell (blk_below hab2.out hb3) 6).trans rfl); (have t7 := (blk_cell (blk_below hab2.out hb3) 7).trans rfl); (have t8 := (blk_cell (blk_below hab2.out hb3) 8).trans rfl); (have t9 := (blk_cell (blk_below hab2.out hb3) 9).trans rfl); clear hb3; have T2 : True := trivial) | (clear T2; go_at_call 22; go_loud (with_reducible refine CX3.mono ?_); rintro e w4 ⟨rfl, hb4⟩; have HBz := Aside0.mk (below_step hBr.out (below_step HB3.out hb4)); clear hb4 CX3; have T3 : True := trivial))
     go_roundg (gk - 1)
     case measure => exact hi7.2.2
     case rel => exact ⟨i + 1, by first | exact hjn | rfl, hi7.1, hi7.2.1, HBz⟩
    ·have q1 : decide ((i : Int) < (l5.length : Int)) = false := decide_eq_false (by omega)
     go_wp2
     go_ret
     exact ⟨rfl, hB0.out.trans (hBr.out.mono hB0.out.size)⟩
structure FIn (W : World) (b : Nat) (e : S33) (A3 A4 A5 : Option Addr) (c3 c4 c5 : Nat) : Prop where
 f3 : Kd.F Kd.string W (fun k => b ≤ k) A3 e.f3.length e.f3
 m3 : e.f3.length ≤ c3
 f4 : Kd.F k33 W (fun k => b ≤ k) A4 e.f4.length e.f4
 m4 : e.f4.length ≤ c4
 f5 : Kd.F k40 W (fun k => b ≤ k) A5 e.f5.length e.f5
 m5 : e.f5.length ≤ c5
section
variable {W W1 : World} {b b' : Nat} {e : S33} {A3 A4 A5 : Option Addr} {c3 c4 c5 : Nat}
theorem FIn.below (h : FIn W b e A3 A4 A5 c3 c4 c5) (hb : Below W.heap.size W W1) : FIn W1 b e A3 A4 A5 c3 c4 c5 := ⟨Kd.F_below h.f3 hb, h.m3, Kd.F_below h.f4 hb, h.m4, Kd.F_below h.f5 hb, h.m5⟩
theorem FIn.mono (h : FIn W b e A3 A4 A5 c3 c4 c5) (hb : b' ≤ b) : FIn W b' e A3 A4 A5 c3 c4 c5 := ⟨Kd.F_mono h.f3 (fun k hk => Nat.le_trans hb hk), h.m3, Kd.F_mono h.f4 (fun k hk => Nat.le_trans hb hk), h.m4, Kd.F_mono h.f5 (fun k hk => Nat.le_trans hb hk), h.m5⟩
theorem FIn.far (h : FIn W b e A3 A4 A5 c3 c4 c5) {p : Addr} (hp : p.block < b) (v : Value) : FIn (W.setCell p v) b e A3 A4 A5 c3 c4 c5 := ⟨Kd.F_far h.f3 (fun k hk => by omega) v, h.m3, Kd.F_far h.f4 (fun k hk => by omega) v, h.m4, Kd.F_far h.f5 (fun k hk => by omega) v, h.m5⟩
theorem FIn.in (h : FIn W b e A3 A4 A5 c3 c4 c5) : In W e A3 A4 A5 c3 c4 c5 := ⟨Kd.F_now h.f3, h.m3, Kd.F_now h.f4, h.m4, Kd.F_now h.f5, h.m5⟩
theorem FIn.K (h : FIn W b e A3 A4 A5 c3 c4 c5) : Kd.FK k33 W (fun k => b ≤ k) e [.int .i64 e.f0, .string e.f1, .int .i64 e.f2, .slice A3 e.f3.length c3, .slice A4 e.f4.length c4, .slice A5 e.f5.length c5] := fun W' hW => k33_mk W' e h.m3 (h.f3 W' hW) h.m4 (h.f4 W' hW) h.m5 (h.f5 W' hW)
theorem FIn.K40 (h : FIn W b e A3 A4 A5 c3 c4 c5) {t n : Int} {nm : ByteArray} {ns : List ByteArray} {A : Option Addr} {c : Nat} (hn : Kd.F Kd.string W (fun k => b ≤ k) A ns.length ns) (hc : ns.length ≤ c) : Kd.FK k40 W (fun k => b ≤ k) ⟨t, nm, n, ns, e⟩ [.int .i64 t, .string nm, .int .i64 n, .slice A ns.length c, .int .i64 e.f0, .string e.f1, .int .i64 e.f2, .slice A3 e.f3.length c3, .slice A4 e.f4.length c4, .slice A5 e.f5.length c5] := fun W' hW => k40_mk W' ⟨t, nm, n, ns, e⟩ hc (hn W' hW) h.m3 (h.f3 W' hW) h.m4 (h.f4 W' hW) h.m5 (h.f5 W' hW)
end
theorem info33 : (Tryd.prog.info? 33).map (fun i => (i.zero, i.size, i.bytes)) = some (some (.agg #[.int .i64 0, .string ⟨#[]⟩, .int .i64 0, .slice none 0 0, .slice none 0 0, .slice none 0 0]), 6, 104) := by kernel_rfl
theorem info40 : (Tryd.prog.info? 40).map (fun i => (i.zero, i.size, i.bytes)) = some (some (.agg #[.int .i64 0, .string ⟨#[]⟩, .int .i64 0, .slice none 0 0, .int .i64 0, .string ⟨#[]⟩, .int .i64 0, .slice none 0 0, .slice none 0 0, .slice none 0 0]), 10, 160) := by kernel_rfl
def NG {α : Type} (d : Kd α) (e : Nat) (W : World) (b : Nat) (A : Option Addr) (n c : Nat) (xs : List α) : Prop := xs.length = n ∧ Kd.N d e W b (fun k => b ≤ k) (.slice A n c) xs
section
variable {α : Type} {d : Kd α} {e : Nat} {W W1 : World} {b n c : Nat} {A : Option Addr} {xs : List α}
theorem NG.nil (W : World) (b : Nat) : NG d e W b none 0 0 [] := ⟨rfl, Kd.N_nil _ _ _ _ _⟩
theorem NG.below (h : NG d e W b A n c xs) (hb : Below W.heap.size W W1) : NG d e W1 b A n c xs := ⟨h.1, Kd.N_below h.2 hb⟩
theorem NG.far (h : NG d e W b A n c xs) {p : Addr} (hp : p.block < b) (v : Value) : NG d e (W.setCell p v) b A n c xs := ⟨h.1, Kd.N_far h.2 (fun k hk => by omega) v⟩
theorem NG.lt (h : NG d e W b A n c xs) : ∀ k, (Value.slice A n c).ownBlock = some k → k < W.heap.size := Kd.N_lt h.2
theorem NG.F (h : NG d e W b A n c xs) : Kd.F d W (fun k => b ≤ k) A xs.length xs ∧ xs.length ≤ c := by
 have h1 := Kd.N_F h.2
 have h2 := (Kd.N_reads' h.2).2.1
 rw [h.1]
 exact ⟨h1, h2⟩
variable {P : Program} {ops : Array Oper} {rest : List Oper} {o : Oper} {a : Act} {Q : Exit → Act → World → Prop} {Kc : Act → World → Prop}
theorem NG.app_step (d : Kd α) {w0 : World} (b : Nat) (hw : Region.wanted o (yielded ops a.tmps) = true) (s x : Operand) (t e : TypeId) (z : Value) (bytes : Nat) (ho : o.op = .call { callee := .builtin .append, args := #[s, x], argTypes := #[t, t] })
  (ht : P.underlying t = some (.slice e)) (hinfo : (P.info? e).map (fun i => (i.zero, i.size, i.bytes)) = some (some z, d.sz, bytes)) (hz : z.cells.size = d.sz) (hs0 : 0 < d.sz) (hb0 : 0 < bytes) (hby : bytes ≤ 200)
  {p : α} {cs : List Value} {q : Nat} (hs : a.eval s = .slice A n c) (hx : a.eval x = .slice (some ⟨W.heap.size, 0, none⟩) 1 1) (HO : NG d e W b A n c xs) (hp : Kd.FK d W (fun k => q ≤ k) p cs) (hq : ∀ k, (Value.slice A n c).ownBlock = some k → k < q) (hbq : b ≤ q) (HB : Below b w0 W) (hbase : b ≤ W.heap.size) (hl : n ≤ 100000000000)
  (h : ∀ A3 c3 w3, NG d e w3 b A3 (n + 1) c3 (xs ++ [p]) → Below b w0 w3 → Kc (a.put o.dst (.slice A3 (n + 1) c3)) w3) :
  if Region.wanted o (yielded ops a.tmps) = true then Oper.wp P o a (W.alloc (.cells cs.toArray e)) Kc Q else Kc (a.put o.dst undef) (W.alloc (.cells cs.toArray e)) := by
 refine Kd.N_append_step d (w0 := w0) b hw s x t e z bytes ho ht hinfo hz hs0 hb0 (.slice A n c) xs p cs (fun k => b ≤ k) (fun k => q ≤ k) hs hx hp (fun k hk => ⟨Nat.le_trans hbq hk, fun e => by have := hq k e.symm; omega⟩) (fun k hk => Nat.le_trans hbase hk) HO.2 HB hbase (by rw [HO.1]; have h1 : (n + 1) * bytes ≤ (n + 1) * 200 := Nat.mul_le_mul_left _ hby; omega) ?_
 intro v1 w1 hn hb hg hat
 obtain ⟨A3, c3, hv⟩ := Kd.N_slice hn
 have hl3 : (xs ++ [p]).length = n + 1 := by simp [HO.1]
 rw [hl3] at hv
 subst hv
 exact h A3 c3 w1 ⟨hl3, hn⟩ hb
end
theorem F_upto {α : Type} {d : Kd α} {W W1 : World} {ok : Nat → Prop} {A : Option Addr} {n b : Nat} {xs : List α} (h : Kd.F d W ok A n xs) (hok : ∀ k, ok k → k < b) (hb : Below b W W1) : Kd.F d W1 ok A n xs := Kd.F_step h (fun k hk _ => hb.block k (hok k hk))
theorem take_snoc {α : Type} {l : List α} {i : Nat} {x : α} (h : l[i]? = some x) : l.take i ++ [x] = l.take (i + 1) := by
 rw [List.take_add_one, h]
 rfl
def OWN (e : S33) : Prop := ∀ (w : World) {A3 A4 A5 : Option Addr} {c3 c4 c5 : Nat}, In w e A3 A4 A5 c3 c4 c5 →
 Calls Tryd.prog 57 #[.agg #[.int .i64 e.f0, .string e.f1, .int .i64 e.f2, .slice A3 e.f3.length c3, .slice A4 e.f4.length c4, .slice A5 e.f5.length c5]] w fun r w' => ∃ B3 B4 B5 d3 d4 d5, r = .returned (.agg #[.int .i64 e.f0, .string e.f1, .int .i64 e.f2, .slice B3 e.f3.length d3, .slice B4 e.f4.length d4, .slice B5 e.f5.length d5]) ∧ FIn w' w.heap.size e B3 B4 B5 d3 d4 d5 ∧ Below w.heap.size w w'
theorem OWN.at {e : S33} (h : OWN e) (w : World) {A3 A4 A5 : Option Addr} {c3 c4 c5 : Nat} (i : In w e A3 A4 A5 c3 c4 c5) :
 Calls Tryd.prog 57 #[.agg #[.int .i64 e.f0, .string e.f1, .int .i64 e.f2, .slice A3 e.f3.length c3, .slice A4 e.f4.length c4, .slice A5 e.f5.length c5]] w fun r w' => ∃ B3 B4 B5 d3 d4 d5, r = .returned (.agg #[.int .i64 e.f0, .string e.f1, .int .i64 e.f2, .slice B3 e.f3.length d3, .slice B4 e.f4.length d4, .slice B5 e.f5.length d5]) ∧ FIn w' w.heap.size e B3 B4 B5 d3 d4 d5 ∧ Below w.heap.size w w' := h w i
structure Mk (W : World) (o s1 : Nat) (l3 : List ByteArray) (A1 : Option Addr) (d1 : Nat) (v : Array Value) : Prop where
 ho : W.heap[o]? = some (.cells v 33 (0, 0))
 hn : Kd.F Kd.string W (fun k => o < k ∧ k < s1) A1 l3.length l3
 hs : o < s1 ∧ s1 ≤ W.heap.size
 hd : l3.length ≤ d1
section
variable {W W1 : World} {o s1 : Nat} {l3 : List ByteArray} {A1 : Option Addr} {d1 : Nat} {v : Array Value}
theorem Mk.below (h : Mk W o s1 l3 A1 d1 v) (hb : Below s1 W W1) : Mk W1 o s1 l3 A1 d1 v := ⟨(hb.block o h.hs.1).trans h.ho, F_upto h.hn (fun k hk => hk.2) hb, ⟨h.hs.1, Nat.le_trans h.hs.2 hb.size⟩, h.hd⟩
theorem set_size (W : World) (p : Addr) (x : Value) : (W.setCell p x).heap.size = W.heap.size := by simp [World.setCell]
theorem Mk.put (h : Mk W o s1 l3 A1 d1 v) (j : Nat) (x : Value) {v' : Array Value} (e : v.setIfInBounds j x = v') : Mk (W.setCell ⟨o, j, none⟩ x) o s1 l3 A1 d1 v' :=
 ⟨blk_put h.ho j x e, Kd.F_far h.hn (fun k hk => by have := hk.1; show k ≠ o; omega) x, by rw [set_size]; exact h.hs, h.hd⟩
variable {α : Type} {d : Kd α} {e b n c : Nat} {A : Option Addr} {xs : List α} {P : Program} {ops : Array Oper} {rest : List Oper} {op : Oper} {a : Act} {Q : Exit → Act → World → Prop} {Kc : Act → World → Prop}
theorem NG.app (d : Kd α) {w0 : World} (b : Nat) (hgd : op.guard = none) (s x : Operand) (t e : TypeId) (z : Value) (bytes : Nat) (ho : op.op = .call { callee := .builtin .append, args := #[s, x], argTypes := #[t, t] })
  (ht : P.underlying t = some (.slice e)) (hinfo : (P.info? e).map (fun i => (i.zero, i.size, i.bytes)) = some (some z, d.sz, bytes)) (hz : z.cells.size = d.sz) (hs0 : 0 < d.sz) (hb0 : 0 < bytes) (hby : bytes ≤ 200)
  {p : α} {cs : List Value} {q : Nat} (hs : a.eval s = .slice A n c) (hx : a.eval x = .slice (some ⟨W.heap.size, 0, none⟩) 1 1) (HO : NG d e W b A n c xs) (hp : Kd.FK d W (fun k => q ≤ k) p cs) (hq : ∀ k, (Value.slice A n c).ownBlock = some k → k < q) (hbq : b ≤ q) (HB : Below b w0 W) (hbase : b ≤ W.heap.size) (hl : n ≤ 100000000000)
  (h : ∀ A3 c3 w3, NG d e w3 b A3 (n + 1) c3 (xs ++ [p]) → Below b w0 w3 → wpList P ops Q rest (a.put op.dst (.slice A3 (n + 1) c3)) w3) :
  wpList P ops Q (op :: rest) a (W.alloc (.cells cs.toArray e)) := by
 refine Kd.N_append d (w0 := w0) b hgd s x t e z bytes ho ht hinfo hz hs0 hb0 (.slice A n c) xs p cs (fun k => b ≤ k) (fun k => q ≤ k) hs hx hp (fun k hk => ⟨Nat.le_trans hbq hk, fun e => by have := hq k e.symm; omega⟩) (fun k hk => Nat.le_trans hbase hk) HO.2 HB hbase (by rw [HO.1]; have h1 : (n + 1) * bytes ≤ (n + 1) * 200 := Nat.mul_le_mul_left _ hby; omega) ?_
 intro v1 w1 hn hb hg hat
 obtain ⟨A3, c3, hv⟩ := Kd.N_slice hn
 have hl3 : (xs ++ [p]).length = n + 1 := by simp [HO.1]
 rw [hl3] at hv
 subst hv
 exact h A3 c3 w1 ⟨hl3, hn⟩ hb
end
set_option maxHeartbeats 16000000 in
set_option maxRecDepth 100000 in
theorem own_step (e : S33) (hl3 : e.f3.length ≤ 1000000000) (hl4 : e.f4.length ≤ 1000000000) (hl5 : e.f5.length ≤ 1000000000) (ha3 : ∀ a ∈ e.f5, a.f3.length ≤ 1000000000) (ih : ∀ x ∈ e.f4, OWN x) (iha : ∀ a ∈ e.f5, OWN a.f4) : OWN e := by
 intro w A3 A4 A5 c3 c4 c5 i1
 have E : ∀ W : World, ∀ o : Obj, (W.alloc o).heap.size = W.heap.size + 1 := fun W o => Array.size_push _
 obtain ⟨f0, f1, f2, l3, l4, l5⟩ := e
 dsimp only at *
 obtain ⟨W0, hW0⟩ : ∃ W0, ((w.alloc (.cells #[.int .i64 f0, .string f1, .int .i64 f2, .slice A3 l3.length c3, .slice A4 l4.length c4, .slice A5 l5.length c5] 33)).alloc (.cells #[.int .i64 0, .string ⟨#[]⟩, .int .i64 0, .slice none 0 0, .slice none 0 0, .slice none 0 0] 33)).alloc (.cells #[.int .i64 f0, .string f1, .int .i64 f2, .slice A3 l3.length c3, .slice A4 l4.length c4, .slice A5 l5.length c5] 33) = W0 := ⟨_, rfl⟩
 have hB0 : Aside0 (Below w.heap.size w W0) := ⟨by rw [← hW0]; exact below_alloc (below_alloc (below_alloc (Below.refl _ _) _) _) _⟩
 have hbx : Aside0 (W0.heap[w.heap.size]? = some (.cells #[.int .i64 f0, .string f1, .int .i64 f2, .slice A3 l3.length c3, .slice A4 l4.length c4, .slice A5 l5.length c5] 33 (0, 0))) := ⟨by rw [← hW0]; exact (Below.heap_alloc _ _ _ (by rw [E, E]; omega)).trans ((Below.heap_alloc _ _ _ (by rw [E]; omega)).trans (blk_new w _))⟩
 have hrx : Aside0 (W0.heap[w.heap.size + 1]? = some (.cells #[.int .i64 0, .string ⟨#[]⟩, .int .i64 0, .slice none 0 0, .slice none 0 0, .slice none 0 0] 33 (0, 0))) := ⟨by rw [← hW0]; refine (Below.heap_alloc _ _ _ (by rw [E, E]; omega)).trans ?_; rw [← E w]; exact blk_new _ _⟩
 have hox : Aside0 (W0.heap[w.heap.size + 1 + 1]? = some (.cells #[.int .i64 f0, .string f1, .int .i64 f2, .slice A3 l3.length c3, .slice A4 l4.length c4, .slice A5 l5.length c5] 33 (0, 0))) := ⟨by rw [← hW0]; rw [← E w]; rw [← E (w.alloc _)]; exact blk_new _ _⟩
 have hsz : Aside0 (W0.heap.size = w.heap.size + 1 + 1 + 1) := ⟨by rw [← hW0, E, E, E]⟩
 have hOw : Aside0 (w.heap.size + 1 + 1 ≤ W0.heap.size) := ⟨by have := hsz.out; omega⟩
 have CS := clone_c l3 hl3 rfl W0 (Kd.C_below i1.h3 hB0.out) i1.m3
 have i1 := Aside0.mk i1
 have hl := Aside0.mk (And.intro hl4 hl5)
 have hih := Aside0.mk ih
 have hiha := Aside0.mk iha
 have ha3 := Aside0.mk ha3
 clear hl3 hl4 hl5 ih iha
 have k0 := (blk_cell hbx.out 0).trans rfl
 have k1 := (blk_cell hbx.out 1).trans rfl
 have k2 := (blk_cell hbx.out 2).trans rfl
 have k3 := (blk_cell hbx.out 3).trans rfl
 have k4 := (blk_cell hbx.out 4).trans rfl
 have k5 := (blk_cell hbx.out 5).trans rfl
 have T1 : True := trivial
 go_enter Tryd.func57, Tryd.ntmps57
 go_wp2_with (first | (clear T1 k0 k1 k2 k3 k4 k5; go_at_call 58; (try rw [hW0]); go_loud (with_reducible refine CS.mono ?_); rintro e w1 ⟨A1, d1, rfl, hd1, hF1, hb1⟩; have HB1 := Aside0.mk hb1; obtain ⟨s1, hs1⟩ : ∃ s1, w1.heap.size = s1 := ⟨_, rfl⟩; have hM0 : Aside0 (Mk w1 (w.heap.size + 1 + 1) s1 l3 A1 d1 #[.int .i64 f0, .string f1, .int .i64 f2, .slice A3 l3.length c3, .slice A4 l4.length c4, .slice A5 l5.length c5]) := ⟨⟨blk_below hox.out hb1, Kd.F_mono (Kd.F_bound hF1) (fun k hk => ⟨by have h1 := hk.1; have h2 := hsz.out; omega, by rw [← hs1]; exact hk.2⟩), ⟨by have h1 := hb1.size; have h2 := hsz.out; omega, by rw [hs1]; exact Nat.le_refl _⟩, hd1⟩⟩; have hM1 := Aside0.mk (((hM0.out.put 3 (.slice A1 l3.length d1) rfl).put 4 (.slice none 0 0) rfl).put 5 (.slice none 0 0) rfl); have hBx : Aside0 (Below (w.heap.size + 1 + 1) W0 (((w1.setCell ⟨w.heap.size + 1 + 1, 3, none⟩ (.slice A1 l3.length d1)).setCell ⟨w.heap.size + 1 + 1, 4, none⟩ (.slice none 0 0)).setCell ⟨w.heap.size + 1 + 1, 5, none⟩ (.slice none 0 0))) := ⟨(((hb1.mono hOw.out).setCell (p := ⟨w.heap.size + 1 + 1, 3, none⟩) (Nat.le_refl _) _).setCell (p := ⟨w.heap.size + 1 + 1, 4, none⟩) (Nat.le_refl _) _).setCell (p := ⟨w.heap.size + 1 + 1, 5, none⟩) (Nat.le_refl _) _⟩; (have k0 := (blk_cell (blk_below hbx.out hb1) 0).trans rfl); (have k1 := (blk_cell (blk_below hbx.out hb1) 1).trans rfl); (have k2 := (blk_cell (blk_below hbx.out hb1) 2).trans rfl); (have k3 := (blk_cell (blk_below hbx.out hb1) 3).trans rfl); (have k4 := (blk_cell (blk_below hbx.out hb1) 4).trans rfl); (have k5 := (blk_cell (blk_below hbx.out hb1) 5).trans rfl); (have j0 := (blk_cell (blk_below hox.out hb1) 0).trans rfl; have z0 := blk_frozen (blk_below hox.out hb1) 0); (have j1 := (blk_cell (blk_below hox.out hb1) 1).trans rfl; have z1 := blk_frozen (blk_below hox.out hb1) 1); (have j2 := (blk_cell (blk_below hox.out hb1) 2).trans rfl; have z2 := blk_frozen (blk_below hox.out hb1) 2); (have j3 := (blk_cell (blk_below hox.out hb1) 3).trans rfl; have z3 := blk_frozen (blk_below hox.out hb1) 3); (have j4 := (blk_cell (blk_below hox.out hb1) 4).trans rfl; have z4 := blk_frozen (blk_below hox.out hb1) 4); (have j5 := (blk_cell (blk_below hox.out hb1) 5).trans rfl; have z5 := blk_frozen (blk_below hox.out hb1) 5); clear hb1 hF1 CS))
 go_loopg [18] (l4.length + 1) (fun kq v18 w' => ∃ (i c : Nat) (A : Option Addr), v18 = .int .i64 (i : Int) ∧ i + kq = l4.length + 1 ∧ 1 ≤ kq ∧ Aside0 (Mk w' (w.heap.size + 1 + 1) s1 l3 A1 d1 #[.int .i64 f0, .string f1, .int .i64 f2, .slice A1 l3.length d1, .slice A i c, .slice none 0 0]) ∧ Aside0 (NG k33 33 w' s1 A i c (l4.take i)) ∧ Aside0 (Below (w.heap.size + 1 + 1) W0 w'))
 case atStart => exact ⟨0, 0, none, rfl, by omega, by omega, hM1, ⟨NG.nil _ _⟩, hBx⟩
 case round =>
  clear hM0 hM1 hBx HB1 k0 k1 k2 k3 k4 k5 j0 j1 j2 j3 j4 j5 z0 z1 z2 z3 z4 z5 hs1
  obtain ⟨i, c, A, rfl, hi, hk, hM, hR, hB⟩ := hrel
  have hO6 : Aside0 (w.heap.size + 1 + 1 ≤ wr.heap.size ∧ w.heap.size + 1 + 1 ≤ s1) := ⟨by have := hM.out.hs; omega⟩
  have hBw : Aside0 (Below w.heap.size w wr) := ⟨hB0.out.trans (hB.out.mono (by omega))⟩
  by_cases hlt : i < l4.length
  ·have hxi : l4[i]? = some l4[i] := List.getElem?_eq_getElem hlt
   have hx := hih.out _ (List.getElem_mem hlt)
   generalize l4[i] = x at hxi hx
   obtain ⟨ad, P3, q3, P4, q4, P5, q5, rfl, he, ie⟩ := In.of (Kd.C_below i1.out.h4 hBw.out) i hxi
   obtain ⟨e0, e1, e2, e3, e4, e5⟩ := he
   have CX := Aside0.mk (fun (W : World) (hb : Below wr.heap.size wr W) => hx.at W (ie.below hb))
   have p0 : (0 : Int) ≤ (i : Int) := by omega
   have p1 : (i : Int) < (l4.length : Int) := by omega
   have q1 : decide ((i : Int) < (l4.length : Int)) = true := decide_eq_true p1
   have hjn : Value.int .i64 (wrap64 ((i : Int) + 1)) = .int .i64 ((i + 1 : Nat) : Int) := by rw [wr1 i (by have := hl.out; omega)]
   have hi7 : i + 1 + (gk - 1) = l4.length + 1 ∧ 1 ≤ gk - 1 ∧ gk - 1 < gk := by omega
   have hms : Aside0 (i ≤ 100000000000) := ⟨by have := hl.out; omega⟩
   clear hx ie
   go_wp2
   obtain ⟨Wq, hWq⟩ : ∃ Wq, wr.alloc (.cells #[.int .i64 x.f0, .string x.f1, .int .i64 x.f2, .slice P3 x.f3.length q3, .slice P4 x.f4.length q4, .slice P5 x.f5.length q5] 33) = Wq := ⟨_, rfl⟩
   have hBq : Aside0 (Below wr.heap.size wr Wq) := ⟨by rw [← hWq]; exact below_alloc (Below.refl _ _) _⟩
   have hxq : Aside0 (Wq.heap[wr.heap.size]? = some (.cells #[.int .i64 x.f0, .string x.f1, .int .i64 x.f2, .slice P3 x.f3.length q3, .slice P4 x.f4.length q4, .slice P5 x.f5.length q5] 33 (0, 0))) := ⟨by rw [← hWq]; exact blk_new wr _⟩
   have hMq := Aside0.mk (hM.out.below (hBq.out.mono hM.out.hs.2))
   have hRq := Aside0.mk (hR.out.below hBq.out)
   rw [hWq]
   clear hWq
   have HB_ : Below Wq.heap.size Wq Wq.drew := below_drew1 (Below.refl _ _)
   refine start_ (n := 8) (S := fun w' => w'.cell? ⟨w.heap.size + 1 + 1, 4, none⟩ = some (.slice A i c) ∧ w'.cell? ⟨wr.heap.size, 0, none⟩ = some (.int .i64 x.f0) ∧ w'.cell? ⟨wr.heap.size, 1, none⟩ = some (.string x.f1) ∧ w'.cell? ⟨wr.heap.size, 2, none⟩ = some (.int .i64 x.f2) ∧ w'.cell? ⟨wr.heap.size, 3, none⟩ = some (.slice P3 x.f3.length q3) ∧ w'.cell? ⟨wr.heap.size, 4, none⟩ = some (.slice P4 x.f4.length q4) ∧ w'.cell? ⟨wr.heap.size, 5, none⟩ = some (.slice P5 x.f5.length q5)) (ds := [5, 7]) (bm 8 0) (by kernel_rfl) rfl rfl ⟨(blk_cell (blk_below hMq.out.ho HB_) 4).trans rfl, (blk_cell (blk_below hxq.out HB_) 0).trans rfl, (blk_cell (blk_below hxq.out HB_) 1).trans rfl, (blk_cell (blk_below hxq.out HB_) 2).trans rfl, (blk_cell (blk_below hxq.out HB_) 3).trans rfl, (blk_cell (blk_below hxq.out HB_) 4).trans rfl, (blk_cell (blk_below hxq.out HB_) 5).trans rfl⟩ (fun hHeld => ?_)
   generalize Wq.drew = W9 at *
   refine pure_ (i := 0) (N := some 22) (v := ?_) (a' := ?_) (bm 8 1) rfl rfl (by kernel_rfl) (fun _ _ _ h => h) (Or.inl ⟨by rfl, ?_⟩) ?_ ?_
   rotate_left
   ·intro w'
    go_simp
    with_reducible rfl
   rotate_left
   ·simp only [Act.put, sA, sB, sC, i64_w, i32_w]
    rfl
   refine take_ (i := 1) (N := some 23) (v := ?_) (a' := ?_) (bm 8 3) rfl rfl (by kernel_rfl) (fun _ _ _ h => h) (Or.inl ⟨by rfl, ?_⟩) hHeld ?_ ?_
   rotate_left
   ·rintro w' ⟨s0, s1, s2, s3, s4, s5, s6⟩
    go_simp
    with_reducible rfl
   rotate_left
   ·simp only [Act.put, sA, sB, sC, i64_w, i32_w]
    rfl
   refine take_ (i := 2) (N := some 24) (v := ?_) (a' := ?_) (bm 8 7) rfl rfl (by kernel_rfl) (fun _ _ _ h => h) (Or.inl ⟨by rfl, ?_⟩) hHeld ?_ ?_
   rotate_left
   ·rintro w' ⟨s0, s1, s2, s3, s4, s5, s6⟩
    go_simp
    with_reducible rfl
   rotate_left
   ·simp only [Act.put, sA, sB, sC, i64_w, i32_w]
    rfl
   refine one_ (i := 3) (N := some 25) (bm 8 15) rfl rfl (by kernel_rfl) (by decide) (fun K hK => ?_)
   refine goes_ Tryd.func57 (by kernel_rfl) rfl #[.agg #[.int .i64 x.f0, .string x.f1, .int .i64 x.f2, .slice P3 x.f3.length q3, .slice P4 x.f4.length q4, .slice P5 x.f5.length q5]] (by rfl) rfl rfl (by simp only [List.map_toArray, List.map_cons, List.map_nil]; rfl) ?_
   (with_reducible refine (CX.out W9 (below_step hBq.out HB_)).mono ?_)
   rintro e w5 ⟨G3, G4, G5, g3, g4, g5, rfl, hG, hbq5⟩
   refine ⟨_, rfl, ?_⟩
   have HB5 := below_step HB_ hbq5
   have hM5 := Aside0.mk (hMq.out.below (HB5.mono hMq.out.hs.2))
   have hR5 := Aside0.mk (hRq.out.below HB5)
   refine hK.out _ _ ⟨(blk_cell (blk_below hMq.out.ho HB5) 4).trans rfl, (blk_cell (blk_below hxq.out HB5) 0).trans rfl, (blk_cell (blk_below hxq.out HB5) 1).trans rfl, (blk_cell (blk_below hxq.out HB5) 2).trans rfl, (blk_cell (blk_below hxq.out HB5) 3).trans rfl, (blk_cell (blk_below hxq.out HB5) 4).trans rfl, (blk_cell (blk_below hxq.out HB5) 5).trans rfl⟩ (fun hHeld => ?_)
   clear hK K
   refine norm_ (a' := ?_) ?_ ?_
   rotate_left
   ·show Act.put _ (some 25) _ = _
    simp only [Act.put, sA, sB, sC, i64_w, i32_w]
    rfl
   refine one_ (i := 4) (N := some 26) (bm 8 31) rfl rfl (by kernel_rfl) (by decide) (fun K hK => ?_)
   refine value_ (w1 := ?_) (v := ?_) (by rfl) rfl ?_ ?_
   rotate_left 2
   ·go_simp
    constructor
    ·rfl
    ·rfl
   have HB6 := below_alloc HB5 (.cells #[.int .i64 x.f0, .string x.f1, .int .i64 x.f2, .slice G3 x.f3.length g3, .slice G4 x.f4.length g4, .slice G5 x.f5.length g5] 33)
   refine hK.out _ _ ⟨(blk_cell (blk_below hMq.out.ho HB6) 4).trans rfl, (blk_cell (blk_below hxq.out HB6) 0).trans rfl, (blk_cell (blk_below hxq.out HB6) 1).trans rfl, (blk_cell (blk_below hxq.out HB6) 2).trans rfl, (blk_cell (blk_below hxq.out HB6) 3).trans rfl, (blk_cell (blk_below hxq.out HB6) 4).trans rfl, (blk_cell (blk_below hxq.out HB6) 5).trans rfl⟩ (fun hHeld => ?_)
   clear hK K
   refine norm_ (a' := ?_) ?_ ?_
   rotate_left
   ·show Act.put _ (some 26) _ = _
    simp only [Act.put, sA, sB, sC, i64_w, i32_w]
    rfl
   refine last_ (i := 5) (N := some 27) (bm 8 63) rfl rfl (by kernel_rfl) (by decide) (fun K hK => ?_)
   refine NG.app_step k33 (w0 := w5) s1 (by rfl) (.tmp 23) (.tmp 26) 30 33 (.agg #[.int .i64 0, .string ⟨#[]⟩, .int .i64 0, .slice none 0 0, .slice none 0 0, .slice none 0 0]) 104 rfl Tryd.underlying30 info33 rfl (by decide) (by decide) (by decide) (A := A) (n := i) (c := c) (xs := (l4.take i)) (p := x) (cs := [.int .i64 x.f0, .string x.f1, .int .i64 x.f2, .slice G3 x.f3.length g3, .slice G4 x.f4.length g4, .slice G5 x.f5.length g5]) (q := W9.heap.size) rfl rfl hR5.out hG.K ?_ ?_ (Below.refl _ _) ?_ ?_ ?_
   ·intro k hk; have h1 := NG.lt hRq.out k hk; have h2 := HB_.size; omega
   ·have h1 := hMq.out.hs; have h2 := HB_.size; omega
   ·have h1 := hMq.out.hs; have h2 := HB5.size; omega
   ·have h1 := hms.out; omega
   intro A6 c6 w6 hr6 hb6
   have hM6 := hM5.out.below hb6
   have hcz := (blk_cell hM6.ho 4).trans rfl
   have hfz := blk_frozen hM6.ho 4
   refine hK.out _ _ ?_
   clear hK K
   refine norm_ (a' := ?_) ?_ ?_
   rotate_left
   ·show Act.put _ (some 27) _ = _
    simp only [Act.put, sA, sB, sC, i64_w, i32_w]
    rfl
   refine pure_ (i := 6) (N := some 28) (v := ?_) (a' := ?_) (bm 8 127) rfl rfl (by kernel_rfl) (fun _ _ _ h => h) (Or.inl ⟨by rfl, ?_⟩) ?_ ?_
   rotate_left
   ·intro w'
    go_simp
    with_reducible rfl
   rotate_left
   ·simp only [Act.put, sA, sB, sC, i64_w, i32_w]
    rfl
   refine last_ (i := 7) (N := none) (bm 8 255) rfl rfl (by kernel_rfl) (by decide) (fun K hK => ?_)
   refine skip_ (w1 := ?_) (by rfl) rfl ?_ ?_
   rotate_left
   ·go_simp
    rfl
   refine hK.out _ _ ?_
   clear hK K
   refine done_ (by kernel_rfl) ?_
   clear hHeld
   obtain ⟨W7, hW7⟩ : ∃ W7, w6.setCell ⟨w.heap.size + 1 + 1, 4, none⟩ (.slice A6 (i + 1) c6) = W7 := ⟨_, rfl⟩
   have hM7 : Aside0 (Mk W7 (w.heap.size + 1 + 1) s1 l3 A1 d1 #[.int .i64 f0, .string f1, .int .i64 f2, .slice A1 l3.length d1, .slice A6 (i + 1) c6, .slice none 0 0]) := ⟨by rw [← hW7]; exact hM6.put 4 _ rfl⟩
   have hR7 : Aside0 (NG k33 33 W7 s1 A6 (i + 1) c6 (l4.take (i + 1))) := ⟨by rw [← hW7]; rw [take_snoc hxi] at hr6; exact hr6.far hM6.hs.1 _⟩
   have hB7 : Aside0 (Below (w.heap.size + 1 + 1) W0 W7) := ⟨by rw [← hW7]; exact (((hB.out.trans ((below_step hBq.out HB5).mono hO6.out.1)).trans (hb6.mono hO6.out.2)).setCell (p := ⟨w.heap.size + 1 + 1, 4, none⟩) (Nat.le_refl _) _)⟩
   rw [hW7]
   clear hW7 hr6 hb6 hM6 hcz hfz HB5 HB6 HB_
   go_wp2
   go_roundg (gk - 1)
   case measure => exact hi7.2.2
   case rel => exact ⟨i + 1, c6, A6, by first | exact hjn | rfl, hi7.1, hi7.2.1, hM7, hR7, hB7⟩
  ·obtain rfl : i = l4.length := by omega
   have q1 : decide ((l4.length : Int) < (l4.length : Int)) = false := decide_eq_false (by omega)
   have k5 := (blk_cell ((hB.out.block w.heap.size (by omega)).trans hbx.out) 5).trans rfl
   have hF0 := hR.out.F
   rw [List.take_length] at hF0
   obtain ⟨s2, hs2⟩ : ∃ s2, wr.heap.size = s2 := ⟨_, rfl⟩
   have hFm : Aside0 (Kd.F k33 wr (fun k => s1 ≤ k ∧ k < s2) A l4.length l4) := ⟨by rw [← hs2]; exact Kd.F_bound hF0.1⟩
   have hc4 := Aside0.mk hF0.2
   have hs12 : Aside0 (s1 ≤ s2) := ⟨by rw [← hs2]; exact hM.out.hs.2⟩
   have hs22 : Aside0 (s2 ≤ wr.heap.size) := ⟨Nat.le_of_eq hs2.symm⟩
   clear hF0 hi hk hs2 hR
   go_wp2
   go_loopg [33] (l5.length + 1) (fun kq v33 w' => ∃ (i c2 : Nat) (A2 : Option Addr), v33 = .int .i64 (i : Int) ∧ i + kq = l5.length + 1 ∧ 1 ≤ kq ∧ Aside0 (Mk w' (w.heap.size + 1 + 1) s1 l3 A1 d1 #[.int .i64 f0, .string f1, .int .i64 f2, .slice A1 l3.length d1, .slice A l4.length c, .slice A2 i c2]) ∧ Aside0 (Kd.F k33 w' (fun k => s1 ≤ k ∧ k < s2) A l4.length l4) ∧ Aside0 (NG k40 40 w' s2 A2 i c2 (l5.take i)) ∧ Aside0 (Below (w.heap.size + 1 + 1) W0 w') ∧ Aside0 (s2 ≤ w'.heap.size))
   case atStart => exact ⟨0, 0, none, rfl, by omega, by omega, hM, hFm, ⟨NG.nil _ _⟩, hB, hs22⟩
   case round =>
    clear hM hFm hB hs22 k5 hO6 hBw q1
    obtain ⟨i, c2, A2, rfl, hi, hk, hM, hF, hR, hB, hs2⟩ := hrel
    have hOs : Aside0 (w.heap.size + 1 + 1 ≤ wr.heap.size) := ⟨by have := hM.out.hs; omega⟩
    have hOs2 : Aside0 (w.heap.size + 1 + 1 ≤ s2) := ⟨by have h1 := hM.out.hs; have h2 := hs12.out; omega⟩
    have hBw : Aside0 (Below w.heap.size w wr) := ⟨hB0.out.trans (hB.out.mono (by omega))⟩
    by_cases hlt : i < l5.length
    ·have hxi : l5[i]? = some l5[i] := List.getElem?_eq_getElem hlt
     have hx := hiha.out _ (List.getElem_mem hlt)
     have hx3 := ha3.out _ (List.getElem_mem hlt)
     generalize l5[i] = a at hxi hx hx3
     obtain ⟨ad, P3, q3, P7, q7, P8, q8, P9, q9, rfl, ⟨e0, e1, e2, e3, e4, e5, e6, e7, e8, e9⟩, g3, g7, g8, g9, m3, m7, m8, m9⟩ := elem40c (Kd.C_below i1.out.h5 hBw.out) i hxi
     have p0 : (0 : Int) ≤ (i : Int) := by omega
     have p1 : (i : Int) < (l5.length : Int) := by omega
     have q1 : decide ((i : Int) < (l5.length : Int)) = true := decide_eq_true p1
     have hjn : Value.int .i64 (wrap64 ((i : Int) + 1)) = .int .i64 ((i + 1 : Nat) : Int) := by rw [wr1 i (by have := hl.out; omega)]
     have hi7 : i + 1 + (gk - 1) = l5.length + 1 ∧ 1 ≤ gk - 1 ∧ gk - 1 < gk := by omega
     have hms : Aside0 (i ≤ 100000000000) := ⟨by have := hl.out; omega⟩
     have CN := Aside0.mk (fun (W : World) (hb : Below wr.heap.size wr W) => clone_c a.f3 hx3 rfl W (Kd.C_below g3 hb) m3)
     have CX := Aside0.mk (fun (W : World) (hb : Below wr.heap.size wr W) => hx.at W (In.below ⟨g7, m7, g8, m8, g9, m9⟩ hb))
     clear g3 g7 g8 g9 m3 m7 m8 m9 hx hx3
     go_wp2
     obtain ⟨Wq, hWq⟩ : ∃ Wq, wr.alloc (.cells #[.int .i64 a.f0, .string a.f1, .int .i64 a.f2, .slice P3 a.f3.length q3, .int .i64 a.f4.f0, .string a.f4.f1, .int .i64 a.f4.f2, .slice P7 a.f4.f3.length q7, .slice P8 a.f4.f4.length q8, .slice P9 a.f4.f5.length q9] 40) = Wq := ⟨_, rfl⟩
     have hBq : Aside0 (Below wr.heap.size wr Wq) := ⟨by rw [← hWq]; exact below_alloc (Below.refl _ _) _⟩
     have hxq : Aside0 (Wq.heap[wr.heap.size]? = some (.cells #[.int .i64 a.f0, .string a.f1, .int .i64 a.f2, .slice P3 a.f3.length q3, .int .i64 a.f4.f0, .string a.f4.f1, .int .i64 a.f4.f2, .slice P7 a.f4.f3.length q7, .slice P8 a.f4.f4.length q8, .slice P9 a.f4.f5.length q9] 40 (0, 0))) := ⟨by rw [← hWq]; exact blk_new wr _⟩
     have hsq : Aside0 (Wq.heap.size = wr.heap.size + 1) := ⟨by rw [← hWq, E]⟩
     rw [hWq]
     clear hWq
     have HB_ : Below Wq.heap.size Wq Wq.drew := below_drew1 (Below.refl _ _)
     refine start_ (n := 10) (S := fun w' => w'.cell? ⟨wr.heap.size, 0, none⟩ = some (.int .i64 a.f0) ∧ w'.cell? ⟨wr.heap.size, 1, none⟩ = some (.string a.f1) ∧ w'.cell? ⟨wr.heap.size, 2, none⟩ = some (.int .i64 a.f2) ∧ w'.cell? ⟨wr.heap.size, 3, none⟩ = some (.slice P3 a.f3.length q3) ∧ w'.cell? ⟨wr.heap.size, 4, none⟩ = some (.int .i64 a.f4.f0) ∧ w'.cell? ⟨wr.heap.size, 5, none⟩ = some (.string a.f4.f1) ∧ w'.cell? ⟨wr.heap.size, 6, none⟩ = some (.int .i64 a.f4.f2) ∧ w'.cell? ⟨wr.heap.size, 7, none⟩ = some (.slice P7 a.f4.f3.length q7) ∧ w'.cell? ⟨wr.heap.size, 8, none⟩ = some (.slice P8 a.f4.f4.length q8) ∧ w'.cell? ⟨wr.heap.size, 9, none⟩ = some (.slice P9 a.f4.f5.length q9)) (ds := [7, 9]) (bm 10 0) (by kernel_rfl) rfl rfl ⟨(blk_cell (blk_below hxq.out HB_) 0).trans rfl, (blk_cell (blk_below hxq.out HB_) 1).trans rfl, (blk_cell (blk_below hxq.out HB_) 2).trans rfl, (blk_cell (blk_below hxq.out HB_) 3).trans rfl, (blk_cell (blk_below hxq.out HB_) 4).trans rfl, (blk_cell (blk_below hxq.out HB_) 5).trans rfl, (blk_cell (blk_below hxq.out HB_) 6).trans rfl, (blk_cell (blk_below hxq.out HB_) 7).trans rfl, (blk_cell (blk_below hxq.out HB_) 8).trans rfl, (blk_cell (blk_below hxq.out HB_) 9).trans rfl⟩ (fun hHeld => ?_)
     generalize Wq.drew = W9 at *
     refine pure_ (i := 0) (N := some 37) (v := ?_) (a' := ?_) (bm 10 1) rfl rfl (by kernel_rfl) (fun _ _ _ h => h) (Or.inl ⟨by rfl, ?_⟩) ?_ ?_
     rotate_left
     ·intro w'
      go_simp
      with_reducible rfl
     rotate_left
     ·simp only [Act.put, sA, sB, sC, i64_w, i32_w]
      rfl
     refine pure_ (i := 3) (N := some 40) (v := ?_) (a' := ?_) (bm 10 9) rfl rfl (by kernel_rfl) (fun _ _ _ h => h) (Or.inl ⟨by rfl, ?_⟩) ?_ ?_
     rotate_left
     ·intro w'
      go_simp
      with_reducible rfl
     rotate_left
     ·simp only [Act.put, sA, sB, sC, i64_w, i32_w]
      rfl
     refine take_ (i := 1) (N := some 38) (v := ?_) (a' := ?_) (bm 10 11) rfl rfl (by kernel_rfl) (fun _ _ _ h => h) (Or.inl ⟨by rfl, ?_⟩) hHeld ?_ ?_
     rotate_left
     ·rintro w' ⟨s0, s1, s2, s3, s4, s5, s6, s7, s8, s9⟩
      go_simp
      with_reducible rfl
     rotate_left
     ·simp only [Act.put, sA, sB, sC, i64_w, i32_w]
      rfl
     refine take_ (i := 4) (N := some 41) (v := ?_) (a' := ?_) (bm 10 27) rfl rfl (by kernel_rfl) (fun _ _ _ h => h) (Or.inl ⟨by rfl, ?_⟩) hHeld ?_ ?_
     rotate_left
     ·rintro w' ⟨s0, s1, s2, s3, s4, s5, s6, s7, s8, s9⟩
      go_simp
      with_reducible rfl
     rotate_left
     ·simp only [Act.put, sA, sB, sC, i64_w, i32_w]
      rfl
     refine one_ (i := 2) (N := some 39) (bm 10 31) rfl rfl (by kernel_rfl) (by decide) (fun K hK => ?_)
     refine goes_ Tryd.func58 (by kernel_rfl) rfl #[.slice P3 a.f3.length q3] (by rfl) rfl rfl (by simp only [List.map_toArray, List.map_cons, List.map_nil]; rfl) ?_
     (with_reducible refine (CN.out W9 (below_step hBq.out HB_)).mono ?_)
     rintro e w3 ⟨N1, n1, rfl, hn1, hN1, hbq3⟩
     refine ⟨_, rfl, ?_⟩
     have HB3 := below_step HB_ hbq3
     refine hK.out _ _ ⟨(blk_cell (blk_below hxq.out HB3) 0).trans rfl, (blk_cell (blk_below hxq.out HB3) 1).trans rfl, (blk_cell (blk_below hxq.out HB3) 2).trans rfl, (blk_cell (blk_below hxq.out HB3) 3).trans rfl, (blk_cell (blk_below hxq.out HB3) 4).trans rfl, (blk_cell (blk_below hxq.out HB3) 5).trans rfl, (blk_cell (blk_below hxq.out HB3) 6).trans rfl, (blk_cell (blk_below hxq.out HB3) 7).trans rfl, (blk_cell (blk_below hxq.out HB3) 8).trans rfl, (blk_cell (blk_below hxq.out HB3) 9).trans rfl⟩ (fun hHeld => ?_)
     clear hK K
     refine norm_ (a' := ?_) ?_ ?_
     rotate_left
     ·show Act.put _ (some 39) _ = _
      simp only [Act.put, sA, sB, sC, i64_w, i32_w]
      rfl
     refine pure_ (i := 6) (N := some 43) (v := ?_) (a' := ?_) (bm 10 95) rfl rfl (by kernel_rfl) (fun _ _ _ h => h) (Or.inl ⟨by rfl, ?_⟩) ?_ ?_
     rotate_left
     ·intro w'
      go_simp
      with_reducible rfl
     rotate_left
     ·simp only [Act.put, sA, sB, sC, i64_w, i32_w]
      rfl
     refine one_ (i := 5) (N := some 42) (bm 10 127) rfl rfl (by kernel_rfl) (by decide) (fun K hK => ?_)
     refine goes_ Tryd.func57 (by kernel_rfl) rfl #[.agg #[.int .i64 a.f4.f0, .string a.f4.f1, .int .i64 a.f4.f2, .slice P7 a.f4.f3.length q7, .slice P8 a.f4.f4.length q8, .slice P9 a.f4.f5.length q9]] (by rfl) rfl rfl (by simp only [List.map_toArray, List.map_cons, List.map_nil]; rfl) ?_
     (with_reducible refine (CX.out w3 (below_step hBq.out HB3)).mono ?_)
     rintro e w5 ⟨G3, G4, G5, g3, g4, g5, rfl, hG, hbq5⟩
     refine ⟨_, rfl, ?_⟩
     have HB5 := below_step HB3 hbq5
     have hx5 := blk_below hxq.out HB5
     have hcz3 := (blk_cell hx5 3).trans rfl; have hfz3 := blk_frozen hx5 3
     have hcz4 := (blk_cell hx5 4).trans rfl; have hfz4 := blk_frozen hx5 4
     have hcz5 := (blk_cell hx5 5).trans rfl; have hfz5 := blk_frozen hx5 5
     have hcz6 := (blk_cell hx5 6).trans rfl; have hfz6 := blk_frozen hx5 6
     have hcz7 := (blk_cell hx5 7).trans rfl; have hfz7 := blk_frozen hx5 7
     have hcz8 := (blk_cell hx5 8).trans rfl; have hfz8 := blk_frozen hx5 8
     have hcz9 := (blk_cell hx5 9).trans rfl; have hfz9 := blk_frozen hx5 9
     refine hK.out _ _ ⟨(blk_cell (blk_below hxq.out HB5) 0).trans rfl, (blk_cell (blk_below hxq.out HB5) 1).trans rfl, (blk_cell (blk_below hxq.out HB5) 2).trans rfl, (blk_cell (blk_below hxq.out HB5) 3).trans rfl, (blk_cell (blk_below hxq.out HB5) 4).trans rfl, (blk_cell (blk_below hxq.out HB5) 5).trans rfl, (blk_cell (blk_below hxq.out HB5) 6).trans rfl, (blk_cell (blk_below hxq.out HB5) 7).trans rfl, (blk_cell (blk_below hxq.out HB5) 8).trans rfl, (blk_cell (blk_below hxq.out HB5) 9).trans rfl⟩ (fun hHeld => ?_)
     clear hK K
     refine norm_ (a' := ?_) ?_ ?_
     rotate_left
     ·show Act.put _ (some 42) _ = _
      simp only [Act.put, sA, sB, sC, i64_w, i32_w]
      rfl
     refine last_ (i := 7) (N := none) (bm 10 255) rfl rfl (by kernel_rfl) (by decide) (fun K hK => ?_)
     refine skip_ (w1 := ?_) (by rfl) rfl ?_ ?_
     rotate_left
     ·go_simp
      rfl
     refine hK.out _ _ ?_
     clear hK K
     refine pure_ (i := 8) (N := some 44) (v := ?_) (a' := ?_) (bm 10 511) rfl rfl (by kernel_rfl) (fun _ _ _ h => h) (Or.inl ⟨by rfl, ?_⟩) ?_ ?_
     rotate_left
     ·intro w'
      go_simp
      with_reducible rfl
     rotate_left
     ·simp only [Act.put, sA, sB, sC, i64_w, i32_w]
      rfl
     refine last_ (i := 9) (N := none) (bm 10 1023) rfl rfl (by kernel_rfl) (by decide) (fun K hK => ?_)
     refine skip_ (w1 := ?_) (by rfl) rfl ?_ ?_
     rotate_left
     ·go_simp
      rfl
     refine hK.out _ _ ?_
     clear hK K
     refine done_ (by kernel_rfl) ?_
     clear hHeld
     obtain ⟨W8, hW8⟩ : ∃ W8, (((((((w5.setCell ⟨wr.heap.size, 3, none⟩ (.slice N1 a.f3.length n1)).setCell ⟨wr.heap.size, 4, none⟩ (.int .i64 a.f4.f0)).setCell ⟨wr.heap.size, 5, none⟩ (.string a.f4.f1)).setCell ⟨wr.heap.size, 6, none⟩ (.int .i64 a.f4.f2)).setCell ⟨wr.heap.size, 7, none⟩ (.slice G3 a.f4.f3.length g3)).setCell ⟨wr.heap.size, 8, none⟩ (.slice G4 a.f4.f4.length g4)).setCell ⟨wr.heap.size, 9, none⟩ (.slice G5 a.f4.f5.length g5)) = W8 := ⟨_, rfl⟩
     have hx8 : Aside0 (W8.heap[wr.heap.size]? = some (.cells #[.int .i64 a.f0, .string a.f1, .int .i64 a.f2, .slice N1 a.f3.length n1, .int .i64 a.f4.f0, .string a.f4.f1, .int .i64 a.f4.f2, .slice G3 a.f4.f3.length g3, .slice G4 a.f4.f4.length g4, .slice G5 a.f4.f5.length g5] 40 (0, 0))) := ⟨by rw [← hW8]; exact blk_put (blk_put (blk_put (blk_put (blk_put (blk_put (blk_put (hx5) 3 _ rfl) 4 _ rfl) 5 _ rfl) 6 _ rfl) 7 _ rfl) 8 _ rfl) 9 _ rfl⟩
     have hB8 : Aside0 (Below wr.heap.size wr W8) := ⟨by rw [← hW8]; exact ((((((((below_step hBq.out HB5).setCell (p := ⟨wr.heap.size, 3, none⟩) (Nat.le_refl _) _).setCell (p := ⟨wr.heap.size, 4, none⟩) (Nat.le_refl _) _).setCell (p := ⟨wr.heap.size, 5, none⟩) (Nat.le_refl _) _).setCell (p := ⟨wr.heap.size, 6, none⟩) (Nat.le_refl _) _).setCell (p := ⟨wr.heap.size, 7, none⟩) (Nat.le_refl _) _).setCell (p := ⟨wr.heap.size, 8, none⟩) (Nat.le_refl _) _).setCell (p := ⟨wr.heap.size, 9, none⟩) (Nat.le_refl _) _)⟩
     have hG8 : Aside0 (FIn W8 Wq.heap.size a.f4 G3 G4 G5 g3 g4 g5) := ⟨by rw [← hW8]; exact ((((((((hG.mono (Nat.le_trans HB_.size hbq3.size)).far (p := ⟨wr.heap.size, 3, none⟩) (by have := hsq.out; show wr.heap.size < _; omega) _).far (p := ⟨wr.heap.size, 4, none⟩) (by have := hsq.out; show wr.heap.size < _; omega) _).far (p := ⟨wr.heap.size, 5, none⟩) (by have := hsq.out; show wr.heap.size < _; omega) _).far (p := ⟨wr.heap.size, 6, none⟩) (by have := hsq.out; show wr.heap.size < _; omega) _).far (p := ⟨wr.heap.size, 7, none⟩) (by have := hsq.out; show wr.heap.size < _; omega) _).far (p := ⟨wr.heap.size, 8, none⟩) (by have := hsq.out; show wr.heap.size < _; omega) _).far (p := ⟨wr.heap.size, 9, none⟩) (by have := hsq.out; show wr.heap.size < _; omega) _)⟩
     have hN8 : Aside0 (Kd.F Kd.string W8 (fun k => Wq.heap.size ≤ k) N1 a.f3.length a.f3) := ⟨by rw [← hW8]; exact Kd.F_far (Kd.F_far (Kd.F_far (Kd.F_far (Kd.F_far (Kd.F_far (Kd.F_far (Kd.F_mono (Kd.F_below hN1 hbq5) (fun k hk => Nat.le_trans HB_.size hk)) (fun k hk => by have := hsq.out; show k ≠ wr.heap.size; omega) _) (fun k hk => by have := hsq.out; show k ≠ wr.heap.size; omega) _) (fun k hk => by have := hsq.out; show k ≠ wr.heap.size; omega) _) (fun k hk => by have := hsq.out; show k ≠ wr.heap.size; omega) _) (fun k hk => by have := hsq.out; show k ≠ wr.heap.size; omega) _) (fun k hk => by have := hsq.out; show k ≠ wr.heap.size; omega) _) (fun k hk => by have := hsq.out; show k ≠ wr.heap.size; omega) _⟩
     rw [hW8]
     clear hW8 hG hN1 hbq3 hbq5 HB3 HB5 HB_ hx5 hcz3 hfz3 hcz4 hfz4 hcz5 hfz5 hcz6 hfz6 hcz7 hfz7 hcz8 hfz8 hcz9 hfz9
     have hM8 := Aside0.mk (hM.out.below (hB8.out.mono hM.out.hs.2))
     have hR8 := Aside0.mk (hR.out.below hB8.out)
     have hF8 := Aside0.mk (F_upto hF.out (fun k hk => hk.2) (hB8.out.mono hs2.out))
     have m0 := (blk_cell hx8.out 0).trans rfl
     have m1 := (blk_cell hx8.out 1).trans rfl
     have m2 := (blk_cell hx8.out 2).trans rfl
     have m3 := (blk_cell hx8.out 3).trans rfl
     have m4 := (blk_cell hx8.out 4).trans rfl
     have m5 := (blk_cell hx8.out 5).trans rfl
     have m6 := (blk_cell hx8.out 6).trans rfl
     have m7 := (blk_cell hx8.out 7).trans rfl
     have m8 := (blk_cell hx8.out 8).trans rfl
     have m9 := (blk_cell hx8.out 9).trans rfl
     have o5 := (blk_cell hM8.out.ho 5).trans rfl
     have T2 : True := trivial
     go_wp2_with (first | (clear T2; (with_reducible refine gate_builtin (b := .append) (xs := #[.tmp 46, .tmp 48]) rfl ?_); at_builtin; go_loud (refine NG.app k40 (w0 := W8) s2 rfl (.tmp 46) (.tmp 48) 31 40 (.agg #[.int .i64 0, .string ⟨#[]⟩, .int .i64 0, .slice none 0 0, .int .i64 0, .string ⟨#[]⟩, .int .i64 0, .slice none 0 0, .slice none 0 0, .slice none 0 0]) 160 rfl Tryd.underlying31 info40 rfl (by decide) (by decide) (by decide) (A := A2) (n := i) (c := c2) (xs := l5.take i) (p := a) (cs := [.int .i64 a.f0, .string a.f1, .int .i64 a.f2, .slice N1 a.f3.length n1, .int .i64 a.f4.f0, .string a.f4.f1, .int .i64 a.f4.f2, .slice G3 a.f4.f3.length g3, .slice G4 a.f4.f4.length g4, .slice G5 a.f4.f5.length g5]) (q := Wq.heap.size) rfl rfl hR8.out (hG8.out.K40 hN8.out hn1) ?qA ?qB (Below.refl _ _) ?qC ?qD ?_); (case qA => intro k hk; have h1 := NG.lt hR.out k hk; have h2 := hsq.out; omega); (case qB => have h1 := hs2.out; have h2 := hsq.out; omega); (case qC => have h1 := hs2.out; have h2 := hB8.out.size; omega); (case qD => have h1 := hms.out; omega); intro A6 c6 w6 hr6 hb6; have hb6 := Aside0.mk hb6; have hM6 := Aside0.mk (hM8.out.below (hb6.out.mono hs12.out)); have hcz := (blk_cell hM6.out.ho 5).trans rfl; have hfz := blk_frozen hM6.out.ho 5; have hM7 := Aside0.mk (hM6.out.put 5 (.slice A6 (i + 1) c6) rfl); have hR7 : Aside0 (NG k40 40 (w6.setCell ⟨w.heap.size + 1 + 1, 5, none⟩ (.slice A6 (i + 1) c6)) s2 A6 (i + 1) c6 (l5.take (i + 1))) := ⟨by rw [take_snoc hxi] at hr6; exact hr6.far (by have h1 := hM6.out.hs; have h2 := hs12.out; show w.heap.size + 1 + 1 < _; omega) _⟩; have hF7 := Aside0.mk (Kd.F_far (p := ⟨w.heap.size + 1 + 1, 5, none⟩) (F_upto hF8.out (fun k hk => hk.2) hb6.out) (fun k hk => by have h1 := hM6.out.hs; show k ≠ w.heap.size + 1 + 1; omega) (.slice A6 (i + 1) c6)); have hB7 := Aside0.mk (((hB.out.trans (hB8.out.mono hOs.out)).trans (hb6.out.mono hOs2.out)).setCell (p := ⟨w.heap.size + 1 + 1, 5, none⟩) (Nat.le_refl _) (.slice A6 (i + 1) c6)); have hs7 : Aside0 (s2 ≤ (w6.setCell ⟨w.heap.size + 1 + 1, 5, none⟩ (.slice A6 (i + 1) c6)).heap.size) := ⟨by rw [set_size]; have h1 := hs2.out; have h2 := hB8.out.size; have h3 := hb6.out.size; omega⟩; clear hr6 m0 m1 m2 m3 m4 m5 m6 m7 m8 m9 o5; have T2 : True := trivial))
     go_roundg (gk - 1)
     case measure => exact hi7.2.2
     case rel => exact ⟨i + 1, c6, A6, by first | exact hjn | rfl, hi7.1, hi7.2.1, hM7, hF7, hR7, hB7, hs7⟩
    ·obtain rfl : i = l5.length := by omega
     have q1 : decide ((l5.length : Int) < (l5.length : Int)) = false := decide_eq_false (by omega)
     have hF5 := hR.out.F
     rw [List.take_length] at hF5
     have hF5 := Aside0.mk hF5
     have hro := (hB.out.block (w.heap.size + 1) (by omega)).trans hrx.out
     have o0 := (blk_cell hM.out.ho 0).trans rfl
     have o1 := (blk_cell hM.out.ho 1).trans rfl
     have o2 := (blk_cell hM.out.ho 2).trans rfl
     have o3 := (blk_cell hM.out.ho 3).trans rfl
     have o4 := (blk_cell hM.out.ho 4).trans rfl
     have o5 := (blk_cell hM.out.ho 5).trans rfl
     have r0 := (blk_cell hro 0).trans rfl
     have r1 := (blk_cell hro 1).trans rfl
     have r2 := (blk_cell hro 2).trans rfl
     have r3 := (blk_cell hro 3).trans rfl
     have r4 := (blk_cell hro 4).trans rfl
     have r5 := (blk_cell hro 5).trans rfl
     have y0 := blk_frozen hro 0
     have y1 := blk_frozen hro 1
     have y2 := blk_frozen hro 2
     have y3 := blk_frozen hro 3
     have y4 := blk_frozen hro 4
     have y5 := blk_frozen hro 5
     clear hi hk
     go_wp2
     refine bodyPost_ret (v := .agg #[.int .i64 f0, .string f1, .int .i64 f2, .slice A1 l3.length d1, .slice A l4.length c, .slice A2 l5.length c2]) (by simp [results, Tryd.results57, go_sem, *]) rfl ⟨A1, A, A2, d1, c, c2, rfl, ?_, ?_⟩
     ·have hFI : FIn wr (w.heap.size + 1 + 1) ⟨f0, f1, f2, l3, l4, l5⟩ A1 A A2 d1 c c2 := ⟨Kd.F_mono hM.out.hn (fun k hk => by have := hk.1; omega), hM.out.hd, Kd.F_mono hF.out (fun k hk => by have := hk.1; have := hM.out.hs; omega), hc4.out, Kd.F_mono hF5.out.1 (fun k hk => by have := hM.out.hs; have := hs12.out; omega), hF5.out.2⟩
      exact (((((((hFI.far (p := ⟨w.heap.size + 1, 0, none⟩) (Nat.lt_succ_self _) _).far (p := ⟨w.heap.size + 1, 1, none⟩) (Nat.lt_succ_self _) _).far (p := ⟨w.heap.size + 1, 2, none⟩) (Nat.lt_succ_self _) _).far (p := ⟨w.heap.size + 1, 3, none⟩) (Nat.lt_succ_self _) _).far (p := ⟨w.heap.size + 1, 4, none⟩) (Nat.lt_succ_self _) _).far (p := ⟨w.heap.size + 1, 5, none⟩) (Nat.lt_succ_self _) _)).mono (by omega)
     ·exact ((((((hBw.out.setCell (p := ⟨w.heap.size + 1, 0, none⟩) (Nat.le_succ _) _).setCell (p := ⟨w.heap.size + 1, 1, none⟩) (Nat.le_succ _) _).setCell (p := ⟨w.heap.size + 1, 2, none⟩) (Nat.le_succ _) _).setCell (p := ⟨w.heap.size + 1, 3, none⟩) (Nat.le_succ _) _).setCell (p := ⟨w.heap.size + 1, 4, none⟩) (Nat.le_succ _) _).setCell (p := ⟨w.heap.size + 1, 5, none⟩) (Nat.le_succ _) _)
theorem own_all : ∀ (m : Nat) (e : S33), cost e ≤ m → cn e ≤ 1000000000 → OWN e
 | 0, e, hc, _ => by have := cost_eq e; omega
 | m + 1, e, hc, hn => by
  have hcn := cn_eq e
  have h4 := len_cnL e.f4
  have h5 := len_cnA e.f5
  exact own_step e (by omega) (by omega) (by omega) (fun a ha => by have := cn_memA ha; omega) (fun x hx => own_all m x (by have := cost_mem hx; omega) (by have := cn_mem hx; omega)) (fun a ha => own_all m a.f4 (by have := cost_memA ha; omega) (by have := cn_memA ha; omega))
theorem same_all : ∀ (m : Nat) (e : S33), cost e ≤ m → cn e ≤ 1000000000 → SE e
 | 0, e, hc, _ => by have := cost_eq e; omega
 | m + 1, e, hc, hn => by
  have hcn := cn_eq e
  have h4 := len_cnL e.f4
  have h5 := len_cnA e.f5
  exact same_step e (by omega) (by omega) (by omega) (fun a ha => by have := cn_memA ha; omega) (fun x hx => same_all m x (by have := cost_mem hx; omega) (by have := cn_mem hx; omega)) (fun a ha => same_all m a.f4 (by have := cost_memA ha; omega) (by have := cn_memA ha; omega))
def CLN (s : ByteArray) (y e : S33) : Prop := ∀ (w : World) {A3 A4 A5 Y3 Y4 Y5 : Option Addr} {c3 c4 c5 z3 z4 z5 : Nat}, In w e A3 A4 A5 c3 c4 c5 → In w y Y3 Y4 Y5 z3 z4 z5 →
 Calls Tryd.prog 41 #[.agg #[.int .i64 e.f0, .string e.f1, .int .i64 e.f2, .slice A3 e.f3.length c3, .slice A4 e.f4.length c4, .slice A5 e.f5.length c5], .string s, .agg #[.int .i64 y.f0, .string y.f1, .int .i64 y.f2, .slice Y3 y.f3.length z3, .slice Y4 y.f4.length z4, .slice Y5 y.f5.length z5]] w fun r w' => ∃ B3 B4 B5 d3 d4 d5, r = .returned (.agg #[.int .i64 (cl s y e).f0, .string (cl s y e).f1, .int .i64 (cl s y e).f2, .slice B3 (cl s y e).f3.length d3, .slice B4 (cl s y e).f4.length d4, .slice B5 (cl s y e).f5.length d5]) ∧ FIn w' w.heap.size (cl s y e) B3 B4 B5 d3 d4 d5 ∧ Below w.heap.size w w'
theorem CLN.at {s : ByteArray} {y e z : S33} (h : CLN s y e) (hz : cl s y e = z) (w : World) {A3 A4 A5 Y3 Y4 Y5 : Option Addr} {c3 c4 c5 z3 z4 z5 : Nat} (i1 : In w e A3 A4 A5 c3 c4 c5) (i2 : In w y Y3 Y4 Y5 z3 z4 z5) :
 Calls Tryd.prog 41 #[.agg #[.int .i64 e.f0, .string e.f1, .int .i64 e.f2, .slice A3 e.f3.length c3, .slice A4 e.f4.length c4, .slice A5 e.f5.length c5], .string s, .agg #[.int .i64 y.f0, .string y.f1, .int .i64 y.f2, .slice Y3 y.f3.length z3, .slice Y4 y.f4.length z4, .slice Y5 y.f5.length z5]] w fun r w' => ∃ B3 B4 B5 d3 d4 d5, r = .returned (.agg #[.int .i64 z.f0, .string z.f1, .int .i64 z.f2, .slice B3 z.f3.length d3, .slice B4 z.f4.length d4, .slice B5 z.f5.length d5]) ∧ FIn w' w.heap.size z B3 B4 B5 d3 d4 d5 ∧ Below w.heap.size w w' := by
 subst hz
 exact h w i1 i2
theorem below6 {b : Nat} {W W1 : World} (h : Below b W W1) {q : Nat} (hq : b ≤ q) (v0 v1 v2 v3 v4 v5 : Value) : Below b W ((((((W1.setCell ⟨q, 0, none⟩ v0).setCell ⟨q, 1, none⟩ v1).setCell ⟨q, 2, none⟩ v2).setCell ⟨q, 3, none⟩ v3).setCell ⟨q, 4, none⟩ v4).setCell ⟨q, 5, none⟩ v5) :=
 (((((h.setCell (p := ⟨q, 0, none⟩) hq _).setCell (p := ⟨q, 1, none⟩) hq _).setCell (p := ⟨q, 2, none⟩) hq _).setCell (p := ⟨q, 3, none⟩) hq _).setCell (p := ⟨q, 4, none⟩) hq _).setCell (p := ⟨q, 5, none⟩) hq _
theorem FIn.far6 {W : World} {b : Nat} {e : S33} {A3 A4 A5 : Option Addr} {c3 c4 c5 : Nat} (h : FIn W b e A3 A4 A5 c3 c4 c5) {q : Nat} (hq : q < b) (v0 v1 v2 v3 v4 v5 : Value) : FIn ((((((W.setCell ⟨q, 0, none⟩ v0).setCell ⟨q, 1, none⟩ v1).setCell ⟨q, 2, none⟩ v2).setCell ⟨q, 3, none⟩ v3).setCell ⟨q, 4, none⟩ v4).setCell ⟨q, 5, none⟩ v5) b e A3 A4 A5 c3 c4 c5 :=
 (((((h.far (p := ⟨q, 0, none⟩) hq _).far (p := ⟨q, 1, none⟩) hq _).far (p := ⟨q, 2, none⟩) hq _).far (p := ⟨q, 3, none⟩) hq _).far (p := ⟨q, 4, none⟩) hq _).far (p := ⟨q, 5, none⟩) hq _
set_option maxHeartbeats 16000000 in
set_option maxRecDepth 100000 in
theorem part_calls {s : ByteArray} {y e z : S33} (k : Bool) (ho : OWN e) (hc : CLN s y e) (hz : (if k = true then e else cl s y e) = z) (w : World) {A3 A4 A5 Y3 Y4 Y5 : Option Addr} {c3 c4 c5 z3 z4 z5 : Nat} (i1 : In w e A3 A4 A5 c3 c4 c5) (i2 : In w y Y3 Y4 Y5 z3 z4 z5) :
 Calls Tryd.prog 59 #[.agg #[.int .i64 e.f0, .string e.f1, .int .i64 e.f2, .slice A3 e.f3.length c3, .slice A4 e.f4.length c4, .slice A5 e.f5.length c5], .string s, .agg #[.int .i64 y.f0, .string y.f1, .int .i64 y.f2, .slice Y3 y.f3.length z3, .slice Y4 y.f4.length z4, .slice Y5 y.f5.length z5], .bool k] w fun r w' => ∃ B3 B4 B5 d3 d4 d5, r = .returned (.agg #[.int .i64 z.f0, .string z.f1, .int .i64 z.f2, .slice B3 z.f3.length d3, .slice B4 z.f4.length d4, .slice B5 z.f5.length d5]) ∧ FIn w' w.heap.size z B3 B4 B5 d3 d4 d5 ∧ Below w.heap.size w w' := by
 have E : ∀ W : World, ∀ o : Obj, (W.alloc o).heap.size = W.heap.size + 1 := fun W o => Array.size_push _
 obtain ⟨W0, hW0⟩ : ∃ W0, ((w.alloc (.cells #[.int .i64 e.f0, .string e.f1, .int .i64 e.f2, .slice A3 e.f3.length c3, .slice A4 e.f4.length c4, .slice A5 e.f5.length c5] 33)).alloc (.cells #[.int .i64 y.f0, .string y.f1, .int .i64 y.f2, .slice Y3 y.f3.length z3, .slice Y4 y.f4.length z4, .slice Y5 y.f5.length z5] 33)).alloc (.cells #[.int .i64 0, .string ⟨#[]⟩, .int .i64 0, .slice none 0 0, .slice none 0 0, .slice none 0 0] 33) = W0 := ⟨_, rfl⟩
 have hB0 : Aside0 (Below w.heap.size w W0) := ⟨by rw [← hW0]; exact below_alloc (below_alloc (below_alloc (Below.refl _ _) _) _) _⟩
 have hbx : Aside0 (W0.heap[w.heap.size]? = some (.cells #[.int .i64 e.f0, .string e.f1, .int .i64 e.f2, .slice A3 e.f3.length c3, .slice A4 e.f4.length c4, .slice A5 e.f5.length c5] 33 (0, 0))) := ⟨by rw [← hW0]; exact (Below.heap_alloc _ _ _ (by rw [E, E]; omega)).trans ((Below.heap_alloc _ _ _ (by rw [E]; omega)).trans (blk_new w _))⟩
 have hby : Aside0 (W0.heap[w.heap.size + 1]? = some (.cells #[.int .i64 y.f0, .string y.f1, .int .i64 y.f2, .slice Y3 y.f3.length z3, .slice Y4 y.f4.length z4, .slice Y5 y.f5.length z5] 33 (0, 0))) := ⟨by rw [← hW0]; refine (Below.heap_alloc _ _ _ (by rw [E, E]; omega)).trans ?_; rw [← E w]; exact blk_new _ _⟩
 have hrx : Aside0 (W0.heap[w.heap.size + 1 + 1]? = some (.cells #[.int .i64 0, .string ⟨#[]⟩, .int .i64 0, .slice none 0 0, .slice none 0 0, .slice none 0 0] 33 (0, 0))) := ⟨by rw [← hW0]; rw [← E w]; rw [← E (w.alloc _)]; exact blk_new _ _⟩
 have hsz : Aside0 (W0.heap.size = w.heap.size + 1 + 1 + 1) := ⟨by rw [← hW0, E, E, E]⟩
 have k0 := (blk_cell hbx.out 0).trans rfl
 have k1 := (blk_cell hbx.out 1).trans rfl
 have k2 := (blk_cell hbx.out 2).trans rfl
 have k3 := (blk_cell hbx.out 3).trans rfl
 have k4 := (blk_cell hbx.out 4).trans rfl
 have k5 := (blk_cell hbx.out 5).trans rfl
 have b0 := (blk_cell hby.out 0).trans rfl
 have b1 := (blk_cell hby.out 1).trans rfl
 have b2 := (blk_cell hby.out 2).trans rfl
 have b3 := (blk_cell hby.out 3).trans rfl
 have b4 := (blk_cell hby.out 4).trans rfl
 have b5 := (blk_cell hby.out 5).trans rfl
 have hCo : e = z → Calls Tryd.prog 57 #[.agg #[.int .i64 e.f0, .string e.f1, .int .i64 e.f2, .slice A3 e.f3.length c3, .slice A4 e.f4.length c4, .slice A5 e.f5.length c5]] W0 fun r w' => ∃ B3 B4 B5 d3 d4 d5, r = .returned (.agg #[.int .i64 z.f0, .string z.f1, .int .i64 z.f2, .slice B3 z.f3.length d3, .slice B4 z.f4.length d4, .slice B5 z.f5.length d5]) ∧ FIn w' W0.heap.size z B3 B4 B5 d3 d4 d5 ∧ Below W0.heap.size W0 w' := by
  intro h
  rw [← h]
  exact ho.at W0 (i1.below hB0.out)
 have hCc := fun (h : cl s y e = z) => hc.at h W0 (i1.below hB0.out) (i2.below hB0.out)
 cases k with
 | true =>
  rw [if_pos rfl] at hz
  have CO := hCo hz
  clear hCo hCc i1 i2 ho hc hz
  go_enter Tryd.func59, Tryd.ntmps59
  have T1 : True := trivial
  go_wp2_with (first | (clear T1; go_at_call 57; (try rw [hW0]); go_loud (with_reducible refine CO.mono ?_); rintro e' w1 ⟨B3, B4, B5, d3, d4, d5, rfl, hF, hb1⟩; (have r0 := (blk_cell (blk_below hrx.out hb1) 0).trans rfl); (have r1 := (blk_cell (blk_below hrx.out hb1) 1).trans rfl); (have r2 := (blk_cell (blk_below hrx.out hb1) 2).trans rfl); (have r3 := (blk_cell (blk_below hrx.out hb1) 3).trans rfl); (have r4 := (blk_cell (blk_below hrx.out hb1) 4).trans rfl); (have r5 := (blk_cell (blk_below hrx.out hb1) 5).trans rfl); (have y0 := blk_frozen (blk_below hrx.out hb1) 0); (have y1 := blk_frozen (blk_below hrx.out hb1) 1); (have y2 := blk_frozen (blk_below hrx.out hb1) 2); (have y3 := blk_frozen (blk_below hrx.out hb1) 3); (have y4 := blk_frozen (blk_below hrx.out hb1) 4); (have y5 := blk_frozen (blk_below hrx.out hb1) 5); have HF := Aside0.mk hF; have HB := Aside0.mk hb1; have T2 : True := trivial; clear hF hb1; skip))
  clear hW0 k0 k1 k2 k3 k4 k5 b0 b1 b2 b3 b4 b5
  refine bodyPost_ret (v := .agg #[.int .i64 z.f0, .string z.f1, .int .i64 z.f2, .slice B3 z.f3.length d3, .slice B4 z.f4.length d4, .slice B5 z.f5.length d5]) (by simp [results, Tryd.results59, go_sem, *]) rfl ⟨B3, B4, B5, d3, d4, d5, rfl, ?_, ?_⟩
  ·exact (FIn.far6 (b := W0.heap.size) (q := w.heap.size + 1 + 1) (HF.out) (by have := hsz.out; omega) _ _ _ _ _ _).mono hB0.out.size
  ·exact below6 (q := w.heap.size + 1 + 1) (hB0.out.trans (HB.out.mono hB0.out.size)) (by omega) _ _ _ _ _ _
 | false =>
  rw [if_neg (by decide)] at hz
  have CO := hCc hz
  clear hCo hCc i1 i2 ho hc hz
  go_enter Tryd.func59, Tryd.ntmps59
  have T1 : True := trivial
  go_wp2_with (first | (clear T1; go_at_call 41; (try rw [hW0]); go_loud (with_reducible refine CO.mono ?_); rintro e' w1 ⟨B3, B4, B5, d3, d4, d5, rfl, hF, hb1⟩; (have r0 := (blk_cell (blk_below hrx.out hb1) 0).trans rfl); (have r1 := (blk_cell (blk_below hrx.out hb1) 1).trans rfl); (have r2 := (blk_cell (blk_below hrx.out hb1) 2).trans rfl); (have r3 := (blk_cell (blk_below hrx.out hb1) 3).trans rfl); (have r4 := (blk_cell (blk_below hrx.out hb1) 4).trans rfl); (have r5 := (blk_cell (blk_below hrx.out hb1) 5).trans rfl); (have y0 := blk_frozen (blk_below hrx.out hb1) 0); (have y1 := blk_frozen (blk_below hrx.out hb1) 1); (have y2 := blk_frozen (blk_below hrx.out hb1) 2); (have y3 := blk_frozen (blk_below hrx.out hb1) 3); (have y4 := blk_frozen (blk_below hrx.out hb1) 4); (have y5 := blk_frozen (blk_below hrx.out hb1) 5); have HF := Aside0.mk hF; have HB := Aside0.mk hb1; have T2 : True := trivial; clear hF hb1; skip))
  clear hW0 k0 k1 k2 k3 k4 k5 b0 b1 b2 b3 b4 b5
  refine bodyPost_ret (v := .agg #[.int .i64 z.f0, .string z.f1, .int .i64 z.f2, .slice B3 z.f3.length d3, .slice B4 z.f4.length d4, .slice B5 z.f5.length d5]) (by simp [results, Tryd.results59, go_sem, *]) rfl ⟨B3, B4, B5, d3, d4, d5, rfl, ?_, ?_⟩
  ·exact (FIn.far6 (b := W0.heap.size) (q := w.heap.size + 1 + 1) (HF.out) (by have := hsz.out; omega) _ _ _ _ _ _).mono hB0.out.size
  ·exact below6 (q := w.heap.size + 1 + 1) (hB0.out.trans (HB.out.mono hB0.out.size)) (by omega) _ _ _ _ _ _
theorem clL_map (s : ByteArray) (y : S33) : ∀ l : List S33, clL s y l = l.map (cl s y)
 | [] => by simp only [clL, List.map_nil]
 | e :: l => by simp only [clL, List.map_cons, clL_map s y l]
theorem clA_map (s : ByteArray) (y : S33) : ∀ l : List S40, clA s y l = l.map (fun a => ⟨a.f0, a.f1, a.f2, a.f3, if isIn a.f3 s = true then a.f4 else cl s y a.f4⟩)
 | [] => by simp only [clA, List.map_nil]
 | ⟨_, _, _, _, _⟩ :: l => by simp only [clA, List.map_cons, clA_map s y l]
set_option maxHeartbeats 16000000 in
set_option maxRecDepth 100000 in
theorem clone_step (s : ByteArray) (y e : S33) (hl3 : e.f3.length ≤ 1000000000) (hl4 : e.f4.length ≤ 1000000000) (hl5 : e.f5.length ≤ 1000000000) (ha3 : ∀ a ∈ e.f5, a.f3.length ≤ 1000000000) (hy : OWN y) (ho : ∀ x ∈ e.f4, OWN x) (hoa : ∀ a ∈ e.f5, OWN a.f4) (ih : ∀ x ∈ e.f4, CLN s y x) (iha : ∀ a ∈ e.f5, CLN s y a.f4) : CLN s y e := by
 intro w A3 A4 A5 Y3 Y4 Y5 c3 c4 c5 z3 z4 z5 i1 i2
 have E : ∀ W : World, ∀ o : Obj, (W.alloc o).heap.size = W.heap.size + 1 := fun W o => Array.size_push _
 obtain ⟨f0, f1, f2, l3, l4, l5⟩ := e
 dsimp only at hl3 hl4 hl5 ha3 ho hoa ih iha i1 i2 ⊢
 obtain ⟨W0, hW0⟩ : ∃ W0, ((w.alloc (.cells #[.int .i64 f0, .string f1, .int .i64 f2, .slice A3 l3.length c3, .slice A4 l4.length c4, .slice A5 l5.length c5] 33)).alloc (.cells #[.int .i64 y.f0, .string y.f1, .int .i64 y.f2, .slice Y3 y.f3.length z3, .slice Y4 y.f4.length z4, .slice Y5 y.f5.length z5] 33)).alloc (.cells #[.int .i64 0, .string ⟨#[]⟩, .int .i64 0, .slice none 0 0, .slice none 0 0, .slice none 0 0] 33) = W0 := ⟨_, rfl⟩
 have hB0 : Aside0 (Below w.heap.size w W0) := ⟨by rw [← hW0]; exact below_alloc (below_alloc (below_alloc (Below.refl _ _) _) _) _⟩
 have hbx : Aside0 (W0.heap[w.heap.size]? = some (.cells #[.int .i64 f0, .string f1, .int .i64 f2, .slice A3 l3.length c3, .slice A4 l4.length c4, .slice A5 l5.length c5] 33 (0, 0))) := ⟨by rw [← hW0]; exact (Below.heap_alloc _ _ _ (by rw [E, E]; omega)).trans ((Below.heap_alloc _ _ _ (by rw [E]; omega)).trans (blk_new w _))⟩
 have hby : Aside0 (W0.heap[w.heap.size + 1]? = some (.cells #[.int .i64 y.f0, .string y.f1, .int .i64 y.f2, .slice Y3 y.f3.length z3, .slice Y4 y.f4.length z4, .slice Y5 y.f5.length z5] 33 (0, 0))) := ⟨by rw [← hW0]; refine (Below.heap_alloc _ _ _ (by rw [E, E]; omega)).trans ?_; rw [← E w]; exact blk_new _ _⟩
 have hrx : Aside0 (W0.heap[w.heap.size + 1 + 1]? = some (.cells #[.int .i64 0, .string ⟨#[]⟩, .int .i64 0, .slice none 0 0, .slice none 0 0, .slice none 0 0] 33 (0, 0))) := ⟨by rw [← hW0]; rw [← E w]; rw [← E (w.alloc _)]; exact blk_new _ _⟩
 have hsz : Aside0 (W0.heap.size = w.heap.size + 1 + 1 + 1) := ⟨by rw [← hW0, E, E, E]⟩
 have k0 := (blk_cell hbx.out 0).trans rfl
 have k1 := (blk_cell hbx.out 1).trans rfl
 have k2 := (blk_cell hbx.out 2).trans rfl
 have k3 := (blk_cell hbx.out 3).trans rfl
 have k4 := (blk_cell hbx.out 4).trans rfl
 have k5 := (blk_cell hbx.out 5).trans rfl
 have b0 := (blk_cell hby.out 0).trans rfl
 have b1 := (blk_cell hby.out 1).trans rfl
 have b2 := (blk_cell hby.out 2).trans rfl
 have b3 := (blk_cell hby.out 3).trans rfl
 have b4 := (blk_cell hby.out 4).trans rfl
 have b5 := (blk_cell hby.out 5).trans rfl
 have CY := hy.at W0 (i2.below hB0.out)
 have CS0 : ∀ W, Below w.heap.size w W → _ := fun W hb => clone_c l3 hl3 rfl W (Kd.C_below i1.h3 hb) i1.m3
 obtain ⟨kp, hkp⟩ : ∃ b, isIn l3 s = b := ⟨_, rfl⟩
 have CC0 := Aside0.mk (fun (W : World) (hb : Below w.heap.size w W) => contains_g l3 hl3 rfl s hkp W (Kd.C_below i1.h3 hb) i1.m3)
 have i1 := Aside0.mk i1
 have i2 := Aside0.mk i2
 have hl := Aside0.mk (And.intro hl4 hl5)
 have hih := Aside0.mk ih
 have hiha := Aside0.mk iha
 have ho := Aside0.mk ho
 have hoa := Aside0.mk hoa
 have ha3 := Aside0.mk ha3
 have hkp := Aside0.mk hkp
 clear hl3 hl4 hl5 ih iha hy
 obtain ⟨p1, hp1⟩ : ∃ b, (f0 == 1) = b := ⟨_, rfl⟩
 obtain ⟨p2, hp2⟩ : ∃ b, (f1.toList == s.toList) = b := ⟨_, rfl⟩
 by_cases hc : p1 = true ∧ p2 = true
 ·obtain ⟨rfl, rfl⟩ := hc
  have hz : cl s y ⟨f0, f1, f2, l3, l4, l5⟩ = y := by
   rw [cl, if_pos ⟨eq_of_beq hp1, toList_eq.1 (eq_of_beq hp2)⟩]
  rw [hz]
  clear hz CS0 CC0
  have HO := Aside0.mk CY
  clear CY
  go_enter Tryd.func41, Tryd.ntmps41
  have T1 : True := trivial
  go_wp2_with (first | (clear T1; go_at_call 57; (try rw [hW0]); go_loud (with_reducible refine HO.out.mono ?_); rintro e' w1 ⟨B3, B4, B5, d3, d4, d5, rfl, hF, hb1⟩; (have r0 := (blk_cell (blk_below hrx.out hb1) 0).trans rfl); (have r1 := (blk_cell (blk_below hrx.out hb1) 1).trans rfl); (have r2 := (blk_cell (blk_below hrx.out hb1) 2).trans rfl); (have r3 := (blk_cell (blk_below hrx.out hb1) 3).trans rfl); (have r4 := (blk_cell (blk_below hrx.out hb1) 4).trans rfl); (have r5 := (blk_cell (blk_below hrx.out hb1) 5).trans rfl); (have y0 := blk_frozen (blk_below hrx.out hb1) 0); (have y1 := blk_frozen (blk_below hrx.out hb1) 1); (have y2 := blk_frozen (blk_below hrx.out hb1) 2); (have y3 := blk_frozen (blk_below hrx.out hb1) 3); (have y4 := blk_frozen (blk_below hrx.out hb1) 4); (have y5 := blk_frozen (blk_below hrx.out hb1) 5); have HF := Aside0.mk hF; have HB := Aside0.mk hb1; have T2 : True := trivial; clear hF hb1; skip))
  clear hW0 k0 k1 k2 k3 k4 k5 b0 b1 b2 b3 b4 b5
  refine bodyPost_ret (v := .agg #[.int .i64 y.f0, .string y.f1, .int .i64 y.f2, .slice B3 y.f3.length d3, .slice B4 y.f4.length d4, .slice B5 y.f5.length d5]) (by simp [results, Tryd.results41, go_sem, *]) rfl ⟨B3, B4, B5, d3, d4, d5, rfl, ?_, ?_⟩
  ·exact (FIn.far6 (b := W0.heap.size) (q := w.heap.size + 1 + 1) (HF.out) (by have := hsz.out; omega) _ _ _ _ _ _).mono hB0.out.size
  ·exact below6 (q := w.heap.size + 1 + 1) (hB0.out.trans (HB.out.mono hB0.out.size)) (by omega) _ _ _ _ _ _
 ·have hz : cl s y ⟨f0, f1, f2, l3, l4, l5⟩ = ⟨f0, f1, f2, l3, l4.map (fun x => if kp = true then x else cl s y x), l5.map (fun a => ⟨a.f0, a.f1, a.f2, a.f3, if isIn a.f3 s = true then a.f4 else cl s y a.f4⟩)⟩ := by
   rw [cl, if_neg (fun h => hc ⟨by rw [← hp1]; exact beq_iff_eq.2 h.1, by rw [← hp2]; exact beq_iff_eq.2 (toList_eq.2 h.2)⟩), clA_map, hkp.out]
   congr 1
   cases kp with
   | true => simp
   | false => simp [clL_map]
  rw [hz]
  clear hz CY
  obtain ⟨g, hg⟩ : ∃ g, (fun x : S33 => if kp = true then x else cl s y x) = g := ⟨_, rfl⟩
  obtain ⟨h, hh⟩ : ∃ h, (fun a : S40 => (⟨a.f0, a.f1, a.f2, a.f3, if isIn a.f3 s = true then a.f4 else cl s y a.f4⟩ : S40)) = h := ⟨_, rfl⟩
  rw [hg, hh]
  have hg := Aside0.mk hg
  have hh := Aside0.mk hh
  have hc1 : p1 = true → p2 = false := fun h1 => by cases p2 with | false => rfl | true => exact absurd ⟨h1, rfl⟩ hc
  clear hc
  obtain ⟨W1, hW1⟩ : ∃ W1, W0.alloc (.cells #[.int .i64 f0, .string f1, .int .i64 f2, .slice A3 l3.length c3, .slice A4 l4.length c4, .slice A5 l5.length c5] 33) = W1 := ⟨_, rfl⟩
  have hB01 : Aside0 (Below W0.heap.size W0 W1) := ⟨by rw [← hW1]; exact below_alloc (Below.refl _ _) _⟩
  have hB1 : Aside0 (Below w.heap.size w W1) := ⟨hB0.out.trans (hB01.out.mono hB0.out.size)⟩
  have hox : Aside0 (W1.heap[W0.heap.size]? = some (.cells #[.int .i64 f0, .string f1, .int .i64 f2, .slice A3 l3.length c3, .slice A4 l4.length c4, .slice A5 l5.length c5] 33 (0, 0))) := ⟨by rw [← hW1]; exact blk_new _ _⟩
  have hs1 : Aside0 (W1.heap.size = W0.heap.size + 1) := ⟨by rw [← hW1, E]⟩
  have kk0 := (blk_cell (blk_below hbx.out hB01.out) 0).trans rfl
  have kk1 := (blk_cell (blk_below hbx.out hB01.out) 1).trans rfl
  have kk2 := (blk_cell (blk_below hbx.out hB01.out) 2).trans rfl
  have kk3 := (blk_cell (blk_below hbx.out hB01.out) 3).trans rfl
  have kk4 := (blk_cell (blk_below hbx.out hB01.out) 4).trans rfl
  have kk5 := (blk_cell (blk_below hbx.out hB01.out) 5).trans rfl
  have CS := CS0 W1 hB1.out
  clear CS0
  cases p1
  case' true =>
   have hc2 := hc1 rfl
   subst hc2
  all_goals
   clear hc1
   go_enter Tryd.func41, Tryd.ntmps41
   have T1 : True := trivial
   go_wp2_with (first | (clear T1; go_at_call 58; (try rw [hW0]); (try rw [hW1]); go_loud (with_reducible refine CS.mono ?_); rintro e' w1 ⟨A1, d1, rfl, hd1, hF1, hb1⟩; clear kk0 kk1 kk2 kk3 kk4 kk5 k0 k1 k2 k3 k4 k5 b0 b1 b2 b3 b4 b5 CS; (have j3 := (blk_cell (blk_below hox.out hb1) 3).trans rfl; have fz3 := blk_frozen (blk_below hox.out hb1) 3); (have j4 := (blk_cell (blk_below hox.out hb1) 4).trans rfl; have fz4 := blk_frozen (blk_below hox.out hb1) 4); (have j5 := (blk_cell (blk_below hox.out hb1) 5).trans rfl; have fz5 := blk_frozen (blk_below hox.out hb1) 5); obtain ⟨s1, hs1'⟩ : ∃ s1, w1.heap.size = s1 := ⟨_, rfl⟩; obtain ⟨W2, hW2⟩ : ∃ W2, ((w1.setCell ⟨W0.heap.size, 3, none⟩ (.slice A1 l3.length d1)).setCell ⟨W0.heap.size, 4, none⟩ (.slice none 0 0)).setCell ⟨W0.heap.size, 5, none⟩ (.slice none 0 0) = W2 := ⟨_, rfl⟩; have hM2 : Aside0 (Mk W2 W0.heap.size s1 l3 A1 d1 #[.int .i64 f0, .string f1, .int .i64 f2, .slice A1 l3.length d1, .slice none 0 0, .slice none 0 0]) := ⟨by rw [← hW2]; exact (((⟨blk_below hox.out hb1, Kd.F_mono (Kd.F_bound hF1) (fun k hk => ⟨by have h1 := hk.1; have h2 := hs1.out; omega, by rw [← hs1']; exact hk.2⟩), ⟨by have h1 := hb1.size; have h2 := hs1.out; omega, Nat.le_of_eq hs1'.symm⟩, hd1⟩ : Mk w1 W0.heap.size s1 l3 A1 d1 #[.int .i64 f0, .string f1, .int .i64 f2, .slice A3 l3.length c3, .slice A4 l4.length c4, .slice A5 l5.length c5]).put 3 (.slice A1 l3.length d1) rfl).put 4 (.slice none 0 0) rfl).put 5 (.slice none 0 0) rfl⟩; have hB2 : Aside0 (Below W0.heap.size W0 W2) := ⟨by rw [← hW2]; exact ((((hB01.out.trans (hb1.mono hB01.out.size)).setCell (p := ⟨W0.heap.size, 3, none⟩) (Nat.le_refl _) _).setCell (p := ⟨W0.heap.size, 4, none⟩) (Nat.le_refl _) _).setCell (p := ⟨W0.heap.size, 5, none⟩) (Nat.le_refl _) _)⟩; have CC := CC0.out W2 (hB0.out.trans (hB2.out.mono hB0.out.size)); clear hF1 hb1 hs1'; (have kk0 := (blk_cell (blk_below hbx.out hB2.out) 0).trans rfl); (have kk1 := (blk_cell (blk_below hbx.out hB2.out) 1).trans rfl); (have kk2 := (blk_cell (blk_below hbx.out hB2.out) 2).trans rfl); (have kk3 := (blk_cell (blk_below hbx.out hB2.out) 3).trans rfl); (have kk4 := (blk_cell (blk_below hbx.out hB2.out) 4).trans rfl); (have kk5 := (blk_cell (blk_below hbx.out hB2.out) 5).trans rfl); have T2 : True := trivial) | (clear T2; go_at_call 32; (try rw [hW2]); go_loud (with_reducible refine CC.mono ?_); rintro e' w2 ⟨rfl, hb2⟩; clear kk0 kk1 kk2 kk3 kk4 kk5 j3 j4 j5 fz3 fz4 fz5 CC; have hM3 := Aside0.mk (hM2.out.below (hb2.mono hM2.out.hs.2)); have hB3 := Aside0.mk (hB2.out.trans (hb2.mono hB2.out.size)); clear hb2; have kk4 := (blk_cell (blk_below hbx.out hB3.out) 4).trans rfl; have T3 : True := trivial; skip))
   clear hW2 hM2 hB2 hW1 hW0 hox hs1 hB01
   go_loopg [38] (l4.length + 1) (fun kq v38 w' => ∃ (i c : Nat) (A : Option Addr), v38 = .int .i64 (i : Int) ∧ i + kq = l4.length + 1 ∧ 1 ≤ kq ∧ Aside0 (Mk w' W0.heap.size s1 l3 A1 d1 #[.int .i64 f0, .string f1, .int .i64 f2, .slice A1 l3.length d1, .slice A i c, .slice none 0 0]) ∧ Aside0 (NG k33 33 w' s1 A i c ((l4.map g).take i)) ∧ Aside0 (Below W0.heap.size W0 w'))
   case atStart => exact ⟨0, 0, none, rfl, by omega, by omega, hM3, ⟨NG.nil _ _⟩, hB3⟩
   case round =>
    clear hM3 hB3 kk4
    obtain ⟨i, c, A, rfl, hi, hk, hM, hR, hB⟩ := hrel
    have hO6 : Aside0 (W0.heap.size ≤ wr.heap.size ∧ W0.heap.size ≤ s1) := ⟨by have := hM.out.hs; omega⟩
    have hBw : Aside0 (Below w.heap.size w wr) := ⟨hB0.out.trans (hB.out.mono hB0.out.size)⟩
    by_cases hlt : i < l4.length
    ·have hxi : l4[i]? = some l4[i] := List.getElem?_eq_getElem hlt
     have hx := hih.out _ (List.getElem_mem hlt)
     have hxo := ho.out _ (List.getElem_mem hlt)
     generalize l4[i] = x at hxi hx hxo
     obtain ⟨z, hz⟩ : ∃ z, g x = z := ⟨_, rfl⟩
     have hzi : (l4.map g)[i]? = some z := by rw [List.getElem?_map, hxi]; exact congrArg some hz
     have hz' : (if kp = true then x else cl s y x) = z := by rw [← hz, ← hg.out]
     obtain ⟨ad, P3, q3, P4, q4, P5, q5, rfl, he, ie⟩ := In.of (Kd.C_below i1.out.h4 hBw.out) i hxi
     obtain ⟨e0, e1, e2, e3, e4, e5⟩ := he
     have CX := Aside0.mk (fun (W : World) (hb : Below wr.heap.size wr W) => part_calls kp hxo hx hz' W (ie.below hb) ((i2.out.below hBw.out).below hb))
     have p0 : (0 : Int) ≤ (i : Int) := by omega
     have p1 : (i : Int) < (l4.length : Int) := by omega
     have q1 : decide ((i : Int) < (l4.length : Int)) = true := decide_eq_true p1
     have hjn : Value.int .i64 (wrap64 ((i : Int) + 1)) = .int .i64 ((i + 1 : Nat) : Int) := by rw [wr1 i (by have := hl.out; omega)]
     have hi7 : i + 1 + (gk - 1) = l4.length + 1 ∧ 1 ≤ gk - 1 ∧ gk - 1 < gk := by omega
     have hms : Aside0 (i ≤ 100000000000) := ⟨by have := hl.out; omega⟩
     clear hx hxo ie hz hz' hxi
     have hzi := Aside0.mk hzi
     go_wp2
     obtain ⟨Wq, hWq⟩ : ∃ Wq, wr.alloc (.cells #[.int .i64 x.f0, .string x.f1, .int .i64 x.f2, .slice P3 x.f3.length q3, .slice P4 x.f4.length q4, .slice P5 x.f5.length q5] 33) = Wq := ⟨_, rfl⟩
     have hBq : Aside0 (Below wr.heap.size wr Wq) := ⟨by rw [← hWq]; exact below_alloc (Below.refl _ _) _⟩
     have hxq : Aside0 (Wq.heap[wr.heap.size]? = some (.cells #[.int .i64 x.f0, .string x.f1, .int .i64 x.f2, .slice P3 x.f3.length q3, .slice P4 x.f4.length q4, .slice P5 x.f5.length q5] 33 (0, 0))) := ⟨by rw [← hWq]; exact blk_new wr _⟩
     have hyq := Aside0.mk (blk_below (blk_below hby.out hB.out) hBq.out)
     have hMq := Aside0.mk (hM.out.below (hBq.out.mono hM.out.hs.2))
     have hRq := Aside0.mk (hR.out.below hBq.out)
     rw [hWq]
     clear hWq
     have HB_ : Below Wq.heap.size Wq Wq.drew := below_drew1 (Below.refl _ _)
     refine start_ (n := 11) (S := fun w' => w'.cell? ⟨W0.heap.size, 4, none⟩ = some (.slice A i c) ∧ w'.cell? ⟨wr.heap.size, 0, none⟩ = some (.int .i64 x.f0) ∧ w'.cell? ⟨wr.heap.size, 1, none⟩ = some (.string x.f1) ∧ w'.cell? ⟨wr.heap.size, 2, none⟩ = some (.int .i64 x.f2) ∧ w'.cell? ⟨wr.heap.size, 3, none⟩ = some (.slice P3 x.f3.length q3) ∧ w'.cell? ⟨wr.heap.size, 4, none⟩ = some (.slice P4 x.f4.length q4) ∧ w'.cell? ⟨wr.heap.size, 5, none⟩ = some (.slice P5 x.f5.length q5) ∧ w'.cell? ⟨w.heap.size + 1, 0, none⟩ = some (.int .i64 y.f0) ∧ w'.cell? ⟨w.heap.size + 1, 1, none⟩ = some (.string y.f1) ∧ w'.cell? ⟨w.heap.size + 1, 2, none⟩ = some (.int .i64 y.f2) ∧ w'.cell? ⟨w.heap.size + 1, 3, none⟩ = some (.slice Y3 y.f3.length z3) ∧ w'.cell? ⟨w.heap.size + 1, 4, none⟩ = some (.slice Y4 y.f4.length z4) ∧ w'.cell? ⟨w.heap.size + 1, 5, none⟩ = some (.slice Y5 y.f5.length z5)) (ds := [8, 10]) (bm 11 0) (by kernel_rfl) rfl rfl ⟨(blk_cell (blk_below hMq.out.ho HB_) 4).trans rfl, (blk_cell (blk_below hxq.out HB_) 0).trans rfl, (blk_cell (blk_below hxq.out HB_) 1).trans rfl, (blk_cell (blk_below hxq.out HB_) 2).trans rfl, (blk_cell (blk_below hxq.out HB_) 3).trans rfl, (blk_cell (blk_below hxq.out HB_) 4).trans rfl, (blk_cell (blk_below hxq.out HB_) 5).trans rfl, (blk_cell (blk_below hyq.out HB_) 0).trans rfl, (blk_cell (blk_below hyq.out HB_) 1).trans rfl, (blk_cell (blk_below hyq.out HB_) 2).trans rfl, (blk_cell (blk_below hyq.out HB_) 3).trans rfl, (blk_cell (blk_below hyq.out HB_) 4).trans rfl, (blk_cell (blk_below hyq.out HB_) 5).trans rfl⟩ (fun hHeld => ?_)
     generalize Wq.drew = W9 at *
     refine pure_ (i := 0) (N := some 42) (v := ?_) (a' := ?_) (bm 11 1) rfl rfl (by kernel_rfl) (fun _ _ _ h => h) (Or.inl ⟨by rfl, ?_⟩) ?_ ?_
     rotate_left
     ·intro w'
      go_simp
      with_reducible rfl
     rotate_left
     ·simp only [Act.put, sA, sB, sC, i64_w, i32_w]
      rfl
     refine pure_ (i := 3) (N := some 45) (v := ?_) (a' := ?_) (bm 11 9) rfl rfl (by kernel_rfl) (fun _ _ _ h => h) (Or.inl ⟨by rfl, ?_⟩) ?_ ?_
     rotate_left
     ·intro w'
      go_simp
      with_reducible rfl
     rotate_left
     ·simp only [Act.put, sA, sB, sC, i64_w, i32_w]
      rfl
     refine pure_ (i := 5) (N := some 47) (v := ?_) (a' := ?_) (bm 11 41) rfl rfl (by kernel_rfl) (fun _ _ _ h => h) (Or.inl ⟨by rfl, ?_⟩) ?_ ?_
     rotate_left
     ·intro w'
      go_simp
      with_reducible rfl
     rotate_left
     ·simp only [Act.put, sA, sB, sC, i64_w, i32_w]
      rfl
     refine take_ (i := 1) (N := some 43) (v := ?_) (a' := ?_) (bm 11 43) rfl rfl (by kernel_rfl) (fun _ _ _ h => h) (Or.inl ⟨by rfl, ?_⟩) hHeld ?_ ?_
     rotate_left
     ·rintro w' ⟨s0, s1, s2, s3, s4, s5, s6, s7, s8, s9, s10, s11, s12⟩
      go_simp
      with_reducible rfl
     rotate_left
     ·simp only [Act.put, sA, sB, sC, i64_w, i32_w]
      rfl
     refine take_ (i := 2) (N := some 44) (v := ?_) (a' := ?_) (bm 11 47) rfl rfl (by kernel_rfl) (fun _ _ _ h => h) (Or.inl ⟨by rfl, ?_⟩) hHeld ?_ ?_
     rotate_left
     ·rintro w' ⟨s0, s1, s2, s3, s4, s5, s6, s7, s8, s9, s10, s11, s12⟩
      go_simp
      with_reducible rfl
     rotate_left
     ·simp only [Act.put, sA, sB, sC, i64_w, i32_w]
      rfl
     refine take_ (i := 4) (N := some 46) (v := ?_) (a' := ?_) (bm 11 63) rfl rfl (by kernel_rfl) (fun _ _ _ h => h) (Or.inl ⟨by rfl, ?_⟩) hHeld ?_ ?_
     rotate_left
     ·rintro w' ⟨s0, s1, s2, s3, s4, s5, s6, s7, s8, s9, s10, s11, s12⟩
      go_simp
      with_reducible rfl
     rotate_left
     ·simp only [Act.put, sA, sB, sC, i64_w, i32_w]
      rfl
     refine one_ (i := 6) (N := some 48) (bm 11 127) rfl rfl (by kernel_rfl) (by decide) (fun K hK => ?_)
     refine goes_ Tryd.func59 (by kernel_rfl) rfl #[.agg #[.int .i64 x.f0, .string x.f1, .int .i64 x.f2, .slice P3 x.f3.length q3, .slice P4 x.f4.length q4, .slice P5 x.f5.length q5], .string s, .agg #[.int .i64 y.f0, .string y.f1, .int .i64 y.f2, .slice Y3 y.f3.length z3, .slice Y4 y.f4.length z4, .slice Y5 y.f5.length z5], .bool kp] (by rfl) rfl rfl (by simp only [List.map_toArray, List.map_cons, List.map_nil]; rfl) ?_
     (with_reducible refine (CX.out W9 (below_step hBq.out HB_)).mono ?_)
     rintro e w5 ⟨G3, G4, G5, g3, g4, g5, rfl, hG, hbq5⟩
     refine ⟨_, rfl, ?_⟩
     have HB5 := below_step HB_ hbq5
     have hM5 := Aside0.mk (hMq.out.below (HB5.mono hMq.out.hs.2))
     have hR5 := Aside0.mk (hRq.out.below HB5)
     refine hK.out _ _ ⟨(blk_cell (blk_below hMq.out.ho HB5) 4).trans rfl, (blk_cell (blk_below hxq.out HB5) 0).trans rfl, (blk_cell (blk_below hxq.out HB5) 1).trans rfl, (blk_cell (blk_below hxq.out HB5) 2).trans rfl, (blk_cell (blk_below hxq.out HB5) 3).trans rfl, (blk_cell (blk_below hxq.out HB5) 4).trans rfl, (blk_cell (blk_below hxq.out HB5) 5).trans rfl, (blk_cell (blk_below hyq.out HB5) 0).trans rfl, (blk_cell (blk_below hyq.out HB5) 1).trans rfl, (blk_cell (blk_below hyq.out HB5) 2).trans rfl, (blk_cell (blk_below hyq.out HB5) 3).trans rfl, (blk_cell (blk_below hyq.out HB5) 4).trans rfl, (blk_cell (blk_below hyq.out HB5) 5).trans rfl⟩ (fun hHeld => ?_)
     clear hK K
     refine norm_ (a' := ?_) ?_ ?_
     rotate_left
     ·show Act.put _ (some 48) _ = _
      simp only [Act.put, sA, sB, sC, i64_w, i32_w]
      rfl
     refine one_ (i := 7) (N := some 49) (bm 11 255) rfl rfl (by kernel_rfl) (by decide) (fun K hK => ?_)
     refine value_ (w1 := ?_) (v := ?_) (by rfl) rfl ?_ ?_
     rotate_left 2
     ·go_simp
      constructor
      ·rfl
      ·rfl
     have HB6 := below_alloc HB5 (.cells #[.int .i64 z.f0, .string z.f1, .int .i64 z.f2, .slice G3 z.f3.length g3, .slice G4 z.f4.length g4, .slice G5 z.f5.length g5] 33)
     refine hK.out _ _ ⟨(blk_cell (blk_below hMq.out.ho HB6) 4).trans rfl, (blk_cell (blk_below hxq.out HB6) 0).trans rfl, (blk_cell (blk_below hxq.out HB6) 1).trans rfl, (blk_cell (blk_below hxq.out HB6) 2).trans rfl, (blk_cell (blk_below hxq.out HB6) 3).trans rfl, (blk_cell (blk_below hxq.out HB6) 4).trans rfl, (blk_cell (blk_below hxq.out HB6) 5).trans rfl, (blk_cell (blk_below hyq.out HB6) 0).trans rfl, (blk_cell (blk_below hyq.out HB6) 1).trans rfl, (blk_cell (blk_below hyq.out HB6) 2).trans rfl, (blk_cell (blk_below hyq.out HB6) 3).trans rfl, (blk_cell (blk_below hyq.out HB6) 4).trans rfl, (blk_cell (blk_below hyq.out HB6) 5).trans rfl⟩ (fun hHeld => ?_)
     clear hK K
     refine norm_ (a' := ?_) ?_ ?_
     rotate_left
     ·show Act.put _ (some 49) _ = _
      simp only [Act.put, sA, sB, sC, i64_w, i32_w]
      rfl
     refine last_ (i := 8) (N := some 50) (bm 11 511) rfl rfl (by kernel_rfl) (by decide) (fun K hK => ?_)
     refine NG.app_step k33 (w0 := w5) s1 (by rfl) (.tmp 43) (.tmp 49) 30 33 (.agg #[.int .i64 0, .string ⟨#[]⟩, .int .i64 0, .slice none 0 0, .slice none 0 0, .slice none 0 0]) 104 rfl Tryd.underlying30 info33 rfl (by decide) (by decide) (by decide) (A := A) (n := i) (c := c) (xs := (l4.map g).take i) (p := z) (cs := [.int .i64 z.f0, .string z.f1, .int .i64 z.f2, .slice G3 z.f3.length g3, .slice G4 z.f4.length g4, .slice G5 z.f5.length g5]) (q := W9.heap.size) rfl rfl hR5.out hG.K ?_ ?_ (Below.refl _ _) ?_ ?_ ?_
     ·intro k hk; have h1 := NG.lt hRq.out k hk; have h2 := HB_.size; omega
     ·have h1 := hMq.out.hs; have h2 := HB_.size; omega
     ·have h1 := hMq.out.hs; have h2 := HB5.size; omega
     ·have h1 := hms.out; omega
     intro A6 c6 w6 hr6 hb6
     have hM6 := hM5.out.below hb6
     have hcz := (blk_cell hM6.ho 4).trans rfl
     have hfz := blk_frozen hM6.ho 4
     refine hK.out _ _ ?_
     clear hK K
     refine norm_ (a' := ?_) ?_ ?_
     rotate_left
     ·show Act.put _ (some 50) _ = _
      simp only [Act.put, sA, sB, sC, i64_w, i32_w]
      rfl
     refine pure_ (i := 9) (N := some 51) (v := ?_) (a' := ?_) (bm 11 1023) rfl rfl (by kernel_rfl) (fun _ _ _ h => h) (Or.inl ⟨by rfl, ?_⟩) ?_ ?_
     rotate_left
     ·intro w'
      go_simp
      with_reducible rfl
     rotate_left
     ·simp only [Act.put, sA, sB, sC, i64_w, i32_w]
      rfl
     refine last_ (i := 10) (N := none) (bm 11 2047) rfl rfl (by kernel_rfl) (by decide) (fun K hK => ?_)
     refine skip_ (w1 := ?_) (by rfl) rfl ?_ ?_
     rotate_left
     ·go_simp
      rfl
     refine hK.out _ _ ?_
     clear hK K
     refine done_ (by kernel_rfl) ?_
     clear hHeld
     obtain ⟨W7, hW7⟩ : ∃ W7, w6.setCell ⟨W0.heap.size, 4, none⟩ (.slice A6 (i + 1) c6) = W7 := ⟨_, rfl⟩
     have hM7 : Aside0 (Mk W7 W0.heap.size s1 l3 A1 d1 #[.int .i64 f0, .string f1, .int .i64 f2, .slice A1 l3.length d1, .slice A6 (i + 1) c6, .slice none 0 0]) := ⟨by rw [← hW7]; exact hM6.put 4 _ rfl⟩
     have hR7 : Aside0 (NG k33 33 W7 s1 A6 (i + 1) c6 ((l4.map g).take (i + 1))) := ⟨by rw [← hW7]; rw [take_snoc hzi.out] at hr6; exact hr6.far hM6.hs.1 _⟩
     have hB7 : Aside0 (Below W0.heap.size W0 W7) := ⟨by rw [← hW7]; exact (((hB.out.trans ((below_step hBq.out HB5).mono hO6.out.1)).trans (hb6.mono hO6.out.2)).setCell (p := ⟨W0.heap.size, 4, none⟩) (Nat.le_refl _) _)⟩
     rw [hW7]
     clear hW7 hr6 hb6 hM6 hcz hfz HB5 HB6 HB_
     go_wp2
     go_roundg (gk - 1)
     case measure => exact hi7.2.2
     case rel => exact ⟨i + 1, c6, A6, by first | exact hjn | rfl, hi7.1, hi7.2.1, hM7, hR7, hB7⟩
    ·obtain rfl : i = l4.length := by omega
     have q1 : decide ((l4.length : Int) < (l4.length : Int)) = false := decide_eq_false (by omega)
     have k5 := (blk_cell (blk_below hbx.out hB.out) 5).trans rfl
     have hF0 := hR.out.F
     rw [show (l4.map g).take l4.length = l4.map g from List.take_of_length_le (by rw [List.length_map]; exact Nat.le_refl _), List.length_map] at hF0
     obtain ⟨s2, hs2⟩ : ∃ s2, wr.heap.size = s2 := ⟨_, rfl⟩
     have hFm : Aside0 (Kd.F k33 wr (fun k => s1 ≤ k ∧ k < s2) A l4.length (l4.map g)) := ⟨by rw [← hs2]; exact Kd.F_bound hF0.1⟩
     have hc4 := Aside0.mk hF0.2
     have hs12 : Aside0 (s1 ≤ s2) := ⟨by rw [← hs2]; exact hM.out.hs.2⟩
     have hs22 : Aside0 (s2 ≤ wr.heap.size) := ⟨Nat.le_of_eq hs2.symm⟩
     clear hF0 hi hk hs2 hR
     go_wp2
     go_loopg [56] (l5.length + 1) (fun kq v56 w' => ∃ (i c2 : Nat) (A2 : Option Addr), v56 = .int .i64 (i : Int) ∧ i + kq = l5.length + 1 ∧ 1 ≤ kq ∧ Aside0 (Mk w' W0.heap.size s1 l3 A1 d1 #[.int .i64 f0, .string f1, .int .i64 f2, .slice A1 l3.length d1, .slice A l4.length c, .slice A2 i c2]) ∧ Aside0 (Kd.F k33 w' (fun k => s1 ≤ k ∧ k < s2) A l4.length (l4.map g)) ∧ Aside0 (NG k40 40 w' s2 A2 i c2 ((l5.map h).take i)) ∧ Aside0 (Below W0.heap.size W0 w') ∧ Aside0 (s2 ≤ w'.heap.size))
     case atStart => exact ⟨0, 0, none, rfl, by omega, by omega, hM, hFm, ⟨NG.nil _ _⟩, hB, hs22⟩
     case round =>
      clear hM hFm hB hs22 k5 hO6 hBw q1
      obtain ⟨i, c2, A2, rfl, hi, hk, hM, hF, hR, hB, hs2⟩ := hrel
      have hOs : Aside0 (W0.heap.size ≤ wr.heap.size) := ⟨by have := hM.out.hs; omega⟩
      have hOs2 : Aside0 (W0.heap.size ≤ s2) := ⟨by have h1 := hM.out.hs; have h2 := hs12.out; omega⟩
      have hBw : Aside0 (Below w.heap.size w wr) := ⟨hB0.out.trans (hB.out.mono hB0.out.size)⟩
      by_cases hlt : i < l5.length
      ·have hxi : l5[i]? = some l5[i] := List.getElem?_eq_getElem hlt
       have hx := hiha.out _ (List.getElem_mem hlt)
       have hx3 := ha3.out _ (List.getElem_mem hlt)
       have hxo := hoa.out _ (List.getElem_mem hlt)
       generalize l5[i] = a at hxi hx hx3 hxo
       obtain ⟨ka, hka⟩ : ∃ b, isIn a.f3 s = b := ⟨_, rfl⟩
       obtain ⟨z, hz⟩ : ∃ z, (if ka = true then a.f4 else cl s y a.f4) = z := ⟨_, rfl⟩
       have hzi : (l5.map h)[i]? = some ⟨a.f0, a.f1, a.f2, a.f3, z⟩ := by rw [List.getElem?_map, hxi, ← hh.out, ← hz, ← hka]; rfl
       obtain ⟨ad, P3, q3, P7, q7, P8, q8, P9, q9, rfl, ⟨e0, e1, e2, e3, e4, e5, e6, e7, e8, e9⟩, g3, g7, g8, g9, m3, m7, m8, m9⟩ := elem40c (Kd.C_below i1.out.h5 hBw.out) i hxi
       have p0 : (0 : Int) ≤ (i : Int) := by omega
       have p1 : (i : Int) < (l5.length : Int) := by omega
       have q1 : decide ((i : Int) < (l5.length : Int)) = true := decide_eq_true p1
       have hjn : Value.int .i64 (wrap64 ((i : Int) + 1)) = .int .i64 ((i + 1 : Nat) : Int) := by rw [wr1 i (by have := hl.out; omega)]
       have hi7 : i + 1 + (gk - 1) = l5.length + 1 ∧ 1 ≤ gk - 1 ∧ gk - 1 < gk := by omega
       have hms : Aside0 (i ≤ 100000000000) := ⟨by have := hl.out; omega⟩
       have CC := Aside0.mk (fun (W : World) (hb : Below wr.heap.size wr W) => contains_g a.f3 hx3 rfl s hka W (Kd.C_below g3 hb) m3)
       have CN := Aside0.mk (fun (W : World) (hb : Below wr.heap.size wr W) => clone_c a.f3 hx3 rfl W (Kd.C_below g3 hb) m3)
       have CX := Aside0.mk (fun (W : World) (hb : Below wr.heap.size wr W) => part_calls ka hxo hx hz W (In.below ⟨g7, m7, g8, m8, g9, m9⟩ hb) ((i2.out.below hBw.out).below hb))
       have hzi := Aside0.mk hzi
       clear g3 g7 g8 g9 m3 m7 m8 m9 hx hx3 hxo hka hz hxi
       go_wp2
       obtain ⟨Wq, hWq⟩ : ∃ Wq, wr.alloc (.cells #[.int .i64 a.f0, .string a.f1, .int .i64 a.f2, .slice P3 a.f3.length q3, .int .i64 a.f4.f0, .string a.f4.f1, .int .i64 a.f4.f2, .slice P7 a.f4.f3.length q7, .slice P8 a.f4.f4.length q8, .slice P9 a.f4.f5.length q9] 40) = Wq := ⟨_, rfl⟩
       have hBq : Aside0 (Below wr.heap.size wr Wq) := ⟨by rw [← hWq]; exact below_alloc (Below.refl _ _) _⟩
       have hxq : Aside0 (Wq.heap[wr.heap.size]? = some (.cells #[.int .i64 a.f0, .string a.f1, .int .i64 a.f2, .slice P3 a.f3.length q3, .int .i64 a.f4.f0, .string a.f4.f1, .int .i64 a.f4.f2, .slice P7 a.f4.f3.length q7, .slice P8 a.f4.f4.length q8, .slice P9 a.f4.f5.length q9] 40 (0, 0))) := ⟨by rw [← hWq]; exact blk_new wr _⟩
       have hyq := Aside0.mk (blk_below (blk_below hby.out hB.out) hBq.out)
       have hsq : Aside0 (Wq.heap.size = wr.heap.size + 1) := ⟨by rw [← hWq, E]⟩
       rw [hWq]
       clear hWq
       have HB_ : Below Wq.heap.size Wq Wq.drew := below_drew1 (Below.refl _ _)
       refine start_ (n := 11) (S := fun w' => w'.cell? ⟨wr.heap.size, 0, none⟩ = some (.int .i64 a.f0) ∧ w'.cell? ⟨wr.heap.size, 1, none⟩ = some (.string a.f1) ∧ w'.cell? ⟨wr.heap.size, 2, none⟩ = some (.int .i64 a.f2) ∧ w'.cell? ⟨wr.heap.size, 3, none⟩ = some (.slice P3 a.f3.length q3) ∧ w'.cell? ⟨wr.heap.size, 4, none⟩ = some (.int .i64 a.f4.f0) ∧ w'.cell? ⟨wr.heap.size, 5, none⟩ = some (.string a.f4.f1) ∧ w'.cell? ⟨wr.heap.size, 6, none⟩ = some (.int .i64 a.f4.f2) ∧ w'.cell? ⟨wr.heap.size, 7, none⟩ = some (.slice P7 a.f4.f3.length q7) ∧ w'.cell? ⟨wr.heap.size, 8, none⟩ = some (.slice P8 a.f4.f4.length q8) ∧ w'.cell? ⟨wr.heap.size, 9, none⟩ = some (.slice P9 a.f4.f5.length q9) ∧ w'.cell? ⟨w.heap.size + 1, 0, none⟩ = some (.int .i64 y.f0) ∧ w'.cell? ⟨w.heap.size + 1, 1, none⟩ = some (.string y.f1) ∧ w'.cell? ⟨w.heap.size + 1, 2, none⟩ = some (.int .i64 y.f2) ∧ w'.cell? ⟨w.heap.size + 1, 3, none⟩ = some (.slice Y3 y.f3.length z3) ∧ w'.cell? ⟨w.heap.size + 1, 4, none⟩ = some (.slice Y4 y.f4.length z4) ∧ w'.cell? ⟨w.heap.size + 1, 5, none⟩ = some (.slice Y5 y.f5.length z5)) (ds := [10]) (bm 11 0) (by kernel_rfl) rfl rfl ⟨(blk_cell (blk_below hxq.out HB_) 0).trans rfl, (blk_cell (blk_below hxq.out HB_) 1).trans rfl, (blk_cell (blk_below hxq.out HB_) 2).trans rfl, (blk_cell (blk_below hxq.out HB_) 3).trans rfl, (blk_cell (blk_below hxq.out HB_) 4).trans rfl, (blk_cell (blk_below hxq.out HB_) 5).trans rfl, (blk_cell (blk_below hxq.out HB_) 6).trans rfl, (blk_cell (blk_below hxq.out HB_) 7).trans rfl, (blk_cell (blk_below hxq.out HB_) 8).trans rfl, (blk_cell (blk_below hxq.out HB_) 9).trans rfl, (blk_cell (blk_below hyq.out HB_) 0).trans rfl, (blk_cell (blk_below hyq.out HB_) 1).trans rfl, (blk_cell (blk_below hyq.out HB_) 2).trans rfl, (blk_cell (blk_below hyq.out HB_) 3).trans rfl, (blk_cell (blk_below hyq.out HB_) 4).trans rfl, (blk_cell (blk_below hyq.out HB_) 5).trans rfl⟩ (fun hHeld => ?_)
       generalize Wq.drew = W9 at *
       refine pure_ (i := 0) (N := some 60) (v := ?_) (a' := ?_) (bm 11 1) rfl rfl (by kernel_rfl) (fun _ _ _ h => h) (Or.inl ⟨by rfl, ?_⟩) ?_ ?_
       rotate_left
       ·intro w'
        go_simp
        with_reducible rfl
       rotate_left
       ·simp only [Act.put, sA, sB, sC, i64_w, i32_w]
        rfl
       refine pure_ (i := 2) (N := some 62) (v := ?_) (a' := ?_) (bm 11 5) rfl rfl (by kernel_rfl) (fun _ _ _ h => h) (Or.inl ⟨by rfl, ?_⟩) ?_ ?_
       rotate_left
       ·intro w'
        go_simp
        with_reducible rfl
       rotate_left
       ·simp only [Act.put, sA, sB, sC, i64_w, i32_w]
        rfl
       refine pure_ (i := 4) (N := some 64) (v := ?_) (a' := ?_) (bm 11 21) rfl rfl (by kernel_rfl) (fun _ _ _ h => h) (Or.inl ⟨by rfl, ?_⟩) ?_ ?_
       rotate_left
       ·intro w'
        go_simp
        with_reducible rfl
       rotate_left
       ·simp only [Act.put, sA, sB, sC, i64_w, i32_w]
        rfl
       refine pure_ (i := 6) (N := some 66) (v := ?_) (a' := ?_) (bm 11 85) rfl rfl (by kernel_rfl) (fun _ _ _ h => h) (Or.inl ⟨by rfl, ?_⟩) ?_ ?_
       rotate_left
       ·intro w'
        go_simp
        with_reducible rfl
       rotate_left
       ·simp only [Act.put, sA, sB, sC, i64_w, i32_w]
        rfl
       refine take_ (i := 1) (N := some 61) (v := ?_) (a' := ?_) (bm 11 87) rfl rfl (by kernel_rfl) (fun _ _ _ h => h) (Or.inl ⟨by rfl, ?_⟩) hHeld ?_ ?_
       rotate_left
       ·rintro w' ⟨s0, s1, s2, s3, s4, s5, s6, s7, s8, s9, s10, s11, s12, s13, s14, s15⟩
        go_simp
        with_reducible rfl
       rotate_left
       ·simp only [Act.put, sA, sB, sC, i64_w, i32_w]
        rfl
       refine take_ (i := 3) (N := some 63) (v := ?_) (a' := ?_) (bm 11 95) rfl rfl (by kernel_rfl) (fun _ _ _ h => h) (Or.inl ⟨by rfl, ?_⟩) hHeld ?_ ?_
       rotate_left
       ·rintro w' ⟨s0, s1, s2, s3, s4, s5, s6, s7, s8, s9, s10, s11, s12, s13, s14, s15⟩
        go_simp
        with_reducible rfl
       rotate_left
       ·simp only [Act.put, sA, sB, sC, i64_w, i32_w]
        rfl
       refine take_ (i := 5) (N := some 65) (v := ?_) (a' := ?_) (bm 11 127) rfl rfl (by kernel_rfl) (fun _ _ _ h => h) (Or.inl ⟨by rfl, ?_⟩) hHeld ?_ ?_
       rotate_left
       ·rintro w' ⟨s0, s1, s2, s3, s4, s5, s6, s7, s8, s9, s10, s11, s12, s13, s14, s15⟩
        go_simp
        with_reducible rfl
       rotate_left
       ·simp only [Act.put, sA, sB, sC, i64_w, i32_w]
        rfl
       refine one_ (i := 7) (N := some 67) (bm 11 255) rfl rfl (by kernel_rfl) (by decide) (fun K hK => ?_)
       refine goes_ Tryd.func32 (by kernel_rfl) rfl #[.slice P3 a.f3.length q3, .string s] (by rfl) rfl rfl (by simp only [List.map_toArray, List.map_cons, List.map_nil]; rfl) ?_
       (with_reducible refine (CC.out W9 (below_step hBq.out HB_)).mono ?_)
       rintro e w3 ⟨rfl, hbq3⟩
       refine ⟨_, rfl, ?_⟩
       have HB3 := below_step HB_ hbq3
       refine hK.out _ _ ⟨(blk_cell (blk_below hxq.out HB3) 0).trans rfl, (blk_cell (blk_below hxq.out HB3) 1).trans rfl, (blk_cell (blk_below hxq.out HB3) 2).trans rfl, (blk_cell (blk_below hxq.out HB3) 3).trans rfl, (blk_cell (blk_below hxq.out HB3) 4).trans rfl, (blk_cell (blk_below hxq.out HB3) 5).trans rfl, (blk_cell (blk_below hxq.out HB3) 6).trans rfl, (blk_cell (blk_below hxq.out HB3) 7).trans rfl, (blk_cell (blk_below hxq.out HB3) 8).trans rfl, (blk_cell (blk_below hxq.out HB3) 9).trans rfl, (blk_cell (blk_below hyq.out HB3) 0).trans rfl, (blk_cell (blk_below hyq.out HB3) 1).trans rfl, (blk_cell (blk_below hyq.out HB3) 2).trans rfl, (blk_cell (blk_below hyq.out HB3) 3).trans rfl, (blk_cell (blk_below hyq.out HB3) 4).trans rfl, (blk_cell (blk_below hyq.out HB3) 5).trans rfl⟩ (fun hHeld => ?_)
       clear hK K
       refine norm_ (a' := ?_) ?_ ?_
       rotate_left
       ·show Act.put _ (some 67) _ = _
        simp only [Act.put, sA, sB, sC, i64_w, i32_w]
        rfl
       refine one_ (i := 8) (N := some 68) (bm 11 511) rfl rfl (by kernel_rfl) (by decide) (fun K hK => ?_)
       refine goes_ Tryd.func59 (by kernel_rfl) rfl #[.agg #[.int .i64 a.f4.f0, .string a.f4.f1, .int .i64 a.f4.f2, .slice P7 a.f4.f3.length q7, .slice P8 a.f4.f4.length q8, .slice P9 a.f4.f5.length q9], .string s, .agg #[.int .i64 y.f0, .string y.f1, .int .i64 y.f2, .slice Y3 y.f3.length z3, .slice Y4 y.f4.length z4, .slice Y5 y.f5.length z5], .bool ka] (by rfl) rfl rfl (by simp only [List.map_toArray, List.map_cons, List.map_nil]; rfl) ?_
       (with_reducible refine (CX.out w3 (below_step hBq.out HB3)).mono ?_)
       rintro e w5 ⟨G3, G4, G5, g3, g4, g5, rfl, hG, hbq5⟩
       refine ⟨_, rfl, ?_⟩
       have HB5 := below_step HB3 hbq5
       have hx5 := blk_below hxq.out HB5
       have hcz4 := (blk_cell hx5 4).trans rfl; have hfz4 := blk_frozen hx5 4
       have hcz5 := (blk_cell hx5 5).trans rfl; have hfz5 := blk_frozen hx5 5
       have hcz6 := (blk_cell hx5 6).trans rfl; have hfz6 := blk_frozen hx5 6
       have hcz7 := (blk_cell hx5 7).trans rfl; have hfz7 := blk_frozen hx5 7
       have hcz8 := (blk_cell hx5 8).trans rfl; have hfz8 := blk_frozen hx5 8
       have hcz9 := (blk_cell hx5 9).trans rfl; have hfz9 := blk_frozen hx5 9
       refine hK.out _ _ ⟨(blk_cell (blk_below hxq.out HB5) 0).trans rfl, (blk_cell (blk_below hxq.out HB5) 1).trans rfl, (blk_cell (blk_below hxq.out HB5) 2).trans rfl, (blk_cell (blk_below hxq.out HB5) 3).trans rfl, (blk_cell (blk_below hxq.out HB5) 4).trans rfl, (blk_cell (blk_below hxq.out HB5) 5).trans rfl, (blk_cell (blk_below hxq.out HB5) 6).trans rfl, (blk_cell (blk_below hxq.out HB5) 7).trans rfl, (blk_cell (blk_below hxq.out HB5) 8).trans rfl, (blk_cell (blk_below hxq.out HB5) 9).trans rfl, (blk_cell (blk_below hyq.out HB5) 0).trans rfl, (blk_cell (blk_below hyq.out HB5) 1).trans rfl, (blk_cell (blk_below hyq.out HB5) 2).trans rfl, (blk_cell (blk_below hyq.out HB5) 3).trans rfl, (blk_cell (blk_below hyq.out HB5) 4).trans rfl, (blk_cell (blk_below hyq.out HB5) 5).trans rfl⟩ (fun hHeld => ?_)
       clear hK K
       refine norm_ (a' := ?_) ?_ ?_
       rotate_left
       ·show Act.put _ (some 68) _ = _
        simp only [Act.put, sA, sB, sC, i64_w, i32_w]
        rfl
       refine pure_ (i := 9) (N := some 69) (v := ?_) (a' := ?_) (bm 11 1023) rfl rfl (by kernel_rfl) (fun _ _ _ h => h) (Or.inl ⟨by rfl, ?_⟩) ?_ ?_
       rotate_left
       ·intro w'
        go_simp
        with_reducible rfl
       rotate_left
       ·simp only [Act.put, sA, sB, sC, i64_w, i32_w]
        rfl
       refine last_ (i := 10) (N := none) (bm 11 2047) rfl rfl (by kernel_rfl) (by decide) (fun K hK => ?_)
       refine skip_ (w1 := ?_) (by rfl) rfl ?_ ?_
       rotate_left
       ·go_simp
        rfl
       refine hK.out _ _ ?_
       clear hK K
       refine done_ (by kernel_rfl) ?_
       clear hHeld
       obtain ⟨W8, hW8⟩ : ∃ W8, ((((((w5.setCell ⟨wr.heap.size, 4, none⟩ (.int .i64 z.f0)).setCell ⟨wr.heap.size, 5, none⟩ (.string z.f1)).setCell ⟨wr.heap.size, 6, none⟩ (.int .i64 z.f2)).setCell ⟨wr.heap.size, 7, none⟩ (.slice G3 z.f3.length g3)).setCell ⟨wr.heap.size, 8, none⟩ (.slice G4 z.f4.length g4)).setCell ⟨wr.heap.size, 9, none⟩ (.slice G5 z.f5.length g5)) = W8 := ⟨_, rfl⟩
       have hx8 : Aside0 (W8.heap[wr.heap.size]? = some (.cells #[.int .i64 a.f0, .string a.f1, .int .i64 a.f2, .slice P3 a.f3.length q3, .int .i64 z.f0, .string z.f1, .int .i64 z.f2, .slice G3 z.f3.length g3, .slice G4 z.f4.length g4, .slice G5 z.f5.length g5] 40 (0, 0))) := ⟨by rw [← hW8]; exact blk_put (blk_put (blk_put (blk_put (blk_put (blk_put (hx5) 4 _ rfl) 5 _ rfl) 6 _ rfl) 7 _ rfl) 8 _ rfl) 9 _ rfl⟩
       have hB8 : Aside0 (Below wr.heap.size wr W8) := ⟨by rw [← hW8]; exact (((((((below_step hBq.out HB5).setCell (p := ⟨wr.heap.size, 4, none⟩) (Nat.le_refl _) _).setCell (p := ⟨wr.heap.size, 5, none⟩) (Nat.le_refl _) _).setCell (p := ⟨wr.heap.size, 6, none⟩) (Nat.le_refl _) _).setCell (p := ⟨wr.heap.size, 7, none⟩) (Nat.le_refl _) _).setCell (p := ⟨wr.heap.size, 8, none⟩) (Nat.le_refl _) _).setCell (p := ⟨wr.heap.size, 9, none⟩) (Nat.le_refl _) _)⟩
       have hG8 : Aside0 (FIn W8 Wq.heap.size z G3 G4 G5 g3 g4 g5) := ⟨by rw [← hW8]; exact (((((((hG.mono (Nat.le_trans HB_.size hbq3.size)).far (p := ⟨wr.heap.size, 4, none⟩) (by have := hsq.out; show wr.heap.size < _; omega) _).far (p := ⟨wr.heap.size, 5, none⟩) (by have := hsq.out; show wr.heap.size < _; omega) _).far (p := ⟨wr.heap.size, 6, none⟩) (by have := hsq.out; show wr.heap.size < _; omega) _).far (p := ⟨wr.heap.size, 7, none⟩) (by have := hsq.out; show wr.heap.size < _; omega) _).far (p := ⟨wr.heap.size, 8, none⟩) (by have := hsq.out; show wr.heap.size < _; omega) _).far (p := ⟨wr.heap.size, 9, none⟩) (by have := hsq.out; show wr.heap.size < _; omega) _)⟩
       have hs8 : Aside0 (wr.heap.size < W8.heap.size ∧ Wq.heap.size ≤ W8.heap.size) := ⟨by rw [← hW8]; simp only [set_size]; have h1 := hsq.out; have h2 := HB5.size; omega⟩
       rw [hW8]
       clear hW8 hG hbq3 hbq5 HB3 HB5 HB_ hx5 hcz4 hfz4 hcz5 hfz5 hcz6 hfz6 hcz7 hfz7 hcz8 hfz8 hcz9 hfz9
       have CN8 := CN.out W8 hB8.out
       have m3 := (blk_cell hx8.out 3).trans rfl
       have T1 : True := trivial
       go_upto_region 16 with (first | (clear T1; go_at_call 58; go_loud (with_reducible refine CN8.mono ?_); rintro e w9 ⟨N1, n1, rfl, hn1, hN1, hb9⟩; have h93 := (blk_cell (blk_below hx8.out hb9) 3).trans rfl; have f93 := blk_frozen (blk_below hx8.out hb9) 3; clear m3 CN8))
       obtain ⟨Wa, hWa⟩ : ∃ Wa, w9.setCell ⟨wr.heap.size, 3, none⟩ (.slice N1 a.f3.length n1) = Wa := ⟨_, rfl⟩
       have hxa : Aside0 (Wa.heap[wr.heap.size]? = some (.cells #[.int .i64 a.f0, .string a.f1, .int .i64 a.f2, .slice N1 a.f3.length n1, .int .i64 z.f0, .string z.f1, .int .i64 z.f2, .slice G3 z.f3.length g3, .slice G4 z.f4.length g4, .slice G5 z.f5.length g5] 40 (0, 0))) := ⟨by rw [← hWa]; exact blk_put (blk_below hx8.out hb9) 3 _ rfl⟩
       have hBa : Aside0 (Below wr.heap.size wr Wa) := ⟨by rw [← hWa]; exact (below_step hB8.out hb9).setCell (p := ⟨wr.heap.size, 3, none⟩) (Nat.le_refl _) _⟩
       have hGa : Aside0 (FIn Wa Wq.heap.size z G3 G4 G5 g3 g4 g5) := ⟨by rw [← hWa]; exact (hG8.out.below hb9).far (p := ⟨wr.heap.size, 3, none⟩) (by have := hsq.out; show wr.heap.size < _; omega) _⟩
       have hNa : Aside0 (Kd.F Kd.string Wa (fun k => Wq.heap.size ≤ k) N1 a.f3.length a.f3) := ⟨by rw [← hWa]; exact Kd.F_far (Kd.F_mono hN1 (fun k hk => Nat.le_trans hs8.out.2 hk)) (fun k hk => by have := hsq.out; show k ≠ wr.heap.size; omega) _⟩
       rw [hWa]
       clear hWa hN1 hb9 h93 f93
       have hMa := Aside0.mk (hM.out.below (hBa.out.mono hM.out.hs.2))
       have hRa := Aside0.mk (hR.out.below hBa.out)
       have hFa := Aside0.mk (F_upto hF.out (fun k hk => hk.2) (hBa.out.mono hs2.out))
       have m0 := (blk_cell hxa.out 0).trans rfl
       have m1 := (blk_cell hxa.out 1).trans rfl
       have m2 := (blk_cell hxa.out 2).trans rfl
       have m3 := (blk_cell hxa.out 3).trans rfl
       have m4 := (blk_cell hxa.out 4).trans rfl
       have m5 := (blk_cell hxa.out 5).trans rfl
       have m6 := (blk_cell hxa.out 6).trans rfl
       have m7 := (blk_cell hxa.out 7).trans rfl
       have m8 := (blk_cell hxa.out 8).trans rfl
       have m9 := (blk_cell hxa.out 9).trans rfl
       have o5 := (blk_cell hMa.out.ho 5).trans rfl
       have T2 : True := trivial
       go_wp2_with (first | (clear T2; (with_reducible refine gate_builtin (b := .append) (xs := #[.tmp 75, .tmp 77]) rfl ?_); at_builtin; go_loud (refine NG.app k40 (w0 := Wa) s2 rfl (.tmp 75) (.tmp 77) 31 40 (.agg #[.int .i64 0, .string ⟨#[]⟩, .int .i64 0, .slice none 0 0, .int .i64 0, .string ⟨#[]⟩, .int .i64 0, .slice none 0 0, .slice none 0 0, .slice none 0 0]) 160 rfl Tryd.underlying31 info40 rfl (by decide) (by decide) (by decide) (A := A2) (n := i) (c := c2) (xs := (l5.map h).take i) (p := ⟨a.f0, a.f1, a.f2, a.f3, z⟩) (cs := [.int .i64 a.f0, .string a.f1, .int .i64 a.f2, .slice N1 a.f3.length n1, .int .i64 z.f0, .string z.f1, .int .i64 z.f2, .slice G3 z.f3.length g3, .slice G4 z.f4.length g4, .slice G5 z.f5.length g5]) (q := Wq.heap.size) rfl rfl hRa.out (hGa.out.K40 hNa.out hn1) ?qA ?qB (Below.refl _ _) ?qC ?qD ?_); (case qA => intro k hk; have h1 := NG.lt hR.out k hk; have h2 := hsq.out; omega); (case qB => have h1 := hs2.out; have h2 := hsq.out; omega); (case qC => have h1 := hs2.out; have h2 := hBa.out.size; omega); (case qD => have h1 := hms.out; omega); intro A6 c6 w6 hr6 hb6; have hb6 := Aside0.mk hb6; have hM6 := Aside0.mk (hMa.out.below (hb6.out.mono hs12.out)); have hcz := (blk_cell hM6.out.ho 5).trans rfl; have hfz := blk_frozen hM6.out.ho 5; have hM7 := Aside0.mk (hM6.out.put 5 (.slice A6 (i + 1) c6) rfl); have hR7 : Aside0 (NG k40 40 (w6.setCell ⟨W0.heap.size, 5, none⟩ (.slice A6 (i + 1) c6)) s2 A6 (i + 1) c6 ((l5.map h).take (i + 1))) := ⟨by rw [take_snoc hzi.out] at hr6; exact hr6.far (by have h1 := hM6.out.hs; have h2 := hs12.out; show W0.heap.size < _; omega) _⟩; have hF7 := Aside0.mk (Kd.F_far (p := ⟨W0.heap.size, 5, none⟩) (F_upto hFa.out (fun k hk => hk.2) hb6.out) (fun k hk => by have h1 := hM6.out.hs; show k ≠ W0.heap.size; omega) (.slice A6 (i + 1) c6)); have hB7 := Aside0.mk (((hB.out.trans (hBa.out.mono hOs.out)).trans (hb6.out.mono hOs2.out)).setCell (p := ⟨W0.heap.size, 5, none⟩) (Nat.le_refl _) (.slice A6 (i + 1) c6)); have hs7 : Aside0 (s2 ≤ (w6.setCell ⟨W0.heap.size, 5, none⟩ (.slice A6 (i + 1) c6)).heap.size) := ⟨by rw [set_size]; have h1 := hs2.out; have h2 := hBa.out.size; have h3 := hb6.out.size; omega⟩; clear hr6 m0 m1 m2 m3 m4 m5 m6 m7 m8 m9 o5; have T2 : True := trivial))
       go_roundg (gk - 1)
       case measure => exact hi7.2.2
       case rel => exact ⟨i + 1, c6, A6, by first | exact hjn | rfl, hi7.1, hi7.2.1, hM7, hF7, hR7, hB7, hs7⟩
      ·obtain rfl : i = l5.length := by omega
       have q1 : decide ((l5.length : Int) < (l5.length : Int)) = false := decide_eq_false (by omega)
       have hF5 := hR.out.F
       rw [show (l5.map h).take l5.length = l5.map h from List.take_of_length_le (by rw [List.length_map]; exact Nat.le_refl _), List.length_map] at hF5
       have hF5 := Aside0.mk hF5
       have hro := blk_below hrx.out hB.out
       have o0 := (blk_cell hM.out.ho 0).trans rfl
       have o1 := (blk_cell hM.out.ho 1).trans rfl
       have o2 := (blk_cell hM.out.ho 2).trans rfl
       have o3 := (blk_cell hM.out.ho 3).trans rfl
       have o4 := (blk_cell hM.out.ho 4).trans rfl
       have o5 := (blk_cell hM.out.ho 5).trans rfl
       have r0 := (blk_cell hro 0).trans rfl
       have r1 := (blk_cell hro 1).trans rfl
       have r2 := (blk_cell hro 2).trans rfl
       have r3 := (blk_cell hro 3).trans rfl
       have r4 := (blk_cell hro 4).trans rfl
       have r5 := (blk_cell hro 5).trans rfl
       have y0 := blk_frozen hro 0
       have y1 := blk_frozen hro 1
       have y2 := blk_frozen hro 2
       have y3 := blk_frozen hro 3
       have y4 := blk_frozen hro 4
       have y5 := blk_frozen hro 5
       clear hi hk
       go_wp2
       refine bodyPost_ret (v := .agg #[.int .i64 f0, .string f1, .int .i64 f2, .slice A1 l3.length d1, .slice A l4.length c, .slice A2 l5.length c2]) (by simp [results, Tryd.results41, go_sem, *]) rfl ⟨A1, A, A2, d1, c, c2, by simp only [List.length_map], ?_, ?_⟩
       ·have hFI : FIn wr W0.heap.size ⟨f0, f1, f2, l3, l4.map g, l5.map h⟩ A1 A A2 d1 c c2 := ⟨Kd.F_mono hM.out.hn (fun k hk => by have := hk.1; omega), hM.out.hd, by show Kd.F k33 _ _ _ (l4.map g).length _; rw [List.length_map]; exact Kd.F_mono hF.out (fun k hk => by have := hk.1; have := hM.out.hs; omega), by show (l4.map g).length ≤ _; rw [List.length_map]; exact hc4.out, by show Kd.F k40 _ _ _ (l5.map h).length _; rw [List.length_map]; exact Kd.F_mono hF5.out.1 (fun k hk => by have := hM.out.hs; have := hs12.out; omega), by show (l5.map h).length ≤ _; rw [List.length_map]; exact hF5.out.2⟩
        exact (FIn.far6 (b := W0.heap.size) (q := w.heap.size + 1 + 1) hFI (by have := hsz.out; omega) _ _ _ _ _ _).mono hB0.out.size
       ·exact below6 (q := w.heap.size + 1 + 1) hBw.out (by omega) _ _ _ _ _ _
theorem clone_all (s : ByteArray) (y : S33) (hy : OWN y) : ∀ (m : Nat) (e : S33), cost e ≤ m → cn e ≤ 1000000000 → CLN s y e
 | 0, e, hc, _ => by have := cost_eq e; omega
 | m + 1, e, hc, hn => by
  have hcn := cn_eq e
  have h4 := len_cnL e.f4
  have h5 := len_cnA e.f5
  exact clone_step s y e (by omega) (by omega) (by omega) (fun a ha => by have := cn_memA ha; omega) hy (fun x hx => own_all (cost x) x (Nat.le_refl _) (by have := cn_mem hx; omega)) (fun a ha => own_all (cost a.f4) a.f4 (Nat.le_refl _) (by have := cn_memA ha; omega)) (fun x hx => clone_all s y hy m x (by have := cost_mem hx; omega) (by have := cn_mem hx; omega)) (fun a ha => clone_all s y hy m a.f4 (by have := cost_memA ha; omega) (by have := cn_memA ha; omega))
theorem cost_pos (e : S33) : 1 ≤ cost e := by have := cost_eq e; omega
theorem mul_up (a c : Nat) (hc : 1 ≤ c) : a ≤ a * c := Nat.le_mul_of_pos_right _ hc
mutual
theorem cost_cl (x : ByteArray) (y : S33) : ∀ e : S33, cost (cl x y e) ≤ cost e * cost y
 | ⟨op, nm, n, ns, l, al⟩ => by
  have hc := cost_pos y
  rw [cl]
  split
  ·simp only [cost]
   have := mul_up (cost y) (1 + 2 * ns.length + costL l + costA al) (by omega)
   rw [Nat.mul_comm] at this
   exact this
  ·simp only [cost]
   have h2 := costA_cl x y al
   have h3 := mul_up (1 + 2 * ns.length) (cost y) hc
   have h1 : costL (if isIn ns x = true then l else clL x y l) ≤ costL l * cost y := by
    split
    ·exact mul_up _ _ hc
    ·exact costL_cl x y l
   rw [Nat.add_mul, Nat.add_mul]
   omega
theorem costL_cl (x : ByteArray) (y : S33) : ∀ l : List S33, costL (clL x y l) ≤ costL l * cost y
 | [] => by simp [clL, costL]
 | e :: l => by
  simp only [clL, costL]
  have h1 := cost_cl x y e
  have h2 := costL_cl x y l
  rw [Nat.add_mul]
  omega
theorem costA_cl (x : ByteArray) (y : S33) : ∀ l : List S40, costA (clA x y l) ≤ costA l * cost y
 | [] => by simp [clA, costA]
 | ⟨_, _, _, ns, e⟩ :: l => by
  have hc := cost_pos y
  simp only [clA, costA]
  have h1 : cost (if isIn ns x = true then e else cl x y e) ≤ cost e * cost y := by
   split
   ·exact mul_up _ _ hc
   ·exact cost_cl x y e
  have h2 := costA_cl x y l
  have h3 := mul_up (2 * ns.length) (cost y) hc
  rw [Nat.add_mul, Nat.add_mul]
  omega
end
theorem expr_m (e : S33) (hw : RW e) (most : Int) (h0 : 0 ≤ most) (h1 : most ≤ 1000) : ∃ b, (b = true → (cn e : Int) ≤ most) ∧ ∀ (w : World) {A3 A4 A5 : Option Addr} {c3 c4 c5 : Nat}, In w e A3 A4 A5 c3 c4 c5 → Calls Tryd.prog 13 #[.agg #[.int .i64 e.f0, .string e.f1, .int .i64 e.f2, .slice A3 e.f3.length c3, .slice A4 e.f4.length c4, .slice A5 e.f5.length c5], .int .i64 most] w fun x w' => x = .returned (.bool b) ∧ Below w.heap.size w w' := by
 obtain ⟨b, hb, hc⟩ := small_tot e hw most h0 h1
 exact ⟨b, hc, fun w A3 A4 A5 c3 c4 c5 h => gristmillmake_Expr.calls _ _ _ _ A3 c3 e.f3 A4 c4 e.f4 A5 c5 e.f5 most b w h.h3 h.m3 h.h4 h.m4 h.h5 h.m5 hb⟩
set_option maxHeartbeats 4000000 in
set_option maxRecDepth 100000 in
theorem valid_s (e : S33) (hwf : WF e) (w : World) (hg : GG w) {A3 A4 A5 : Option Addr} {c3 c4 c5 : Nat} (i : In w e A3 A4 A5 c3 c4 c5) :
  Calls Tryd.prog 14 #[.agg #[.int .i64 e.f0, .string e.f1, .int .i64 e.f2, .slice A3 e.f3.length c3, .slice A4 e.f4.length c4, .slice A5 e.f5.length c5]] w fun r w' => ∃ b : Bool, r = .returned (.bool b) ∧ (b = true → Shp e) ∧ Below w.heap.size w w' := by
 by_cases hs : Shp e
 ·refine (valid_c e hwf w hg i.h3 i.m3 i.h4 i.m4 i.h5 i.m5).mono ?_
  rintro r w' ⟨b, rfl, hb⟩
  exact ⟨b, rfl, fun _ => hs, hb⟩
 ·obtain ⟨W0, hW0⟩ : ∃ W0, w.alloc (.cells #[.int .i64 e.f0, .string e.f1, .int .i64 e.f2, .slice A3 e.f3.length c3, .slice A4 e.f4.length c4, .slice A5 e.f5.length c5] 33) = W0 := ⟨_, rfl⟩
  have hB0 : Aside0 (Below w.heap.size w W0) := ⟨by rw [← hW0]; exact below_alloc (Below.refl _ _) _⟩
  have hbx : Aside0 (W0.heap[w.heap.size]? = some (.cells #[.int .i64 e.f0, .string e.f1, .int .i64 e.f2, .slice A3 e.f3.length c3, .slice A4 e.f4.length c4, .slice A5 e.f5.length c5] 33 (0, 0))) := ⟨by rw [← hW0]; exact blk_new w _⟩
  have i0 := i.below hB0.out
  have CV := (validExpr_all (cost e) e (Nat.le_refl _) hwf).at W0 i0.h3 i0.m3 i0.h4 i0.m4 i0.h5 i0.m5
  have k0 := (blk_cell hbx.out 0).trans rfl
  have k1 := (blk_cell hbx.out 1).trans rfl
  have k2 := (blk_cell hbx.out 2).trans rfl
  have k3 := (blk_cell hbx.out 3).trans rfl
  have k4 := (blk_cell hbx.out 4).trans rfl
  have k5 := (blk_cell hbx.out 5).trans rfl
  obtain ⟨f0, f1, f2, f3, f4, f5⟩ := e
  dsimp only at *
  clear hwf i i0
  have hs := Aside0.mk hs
  go_enter Tryd.func14, Tryd.ntmps14
  go_wp2_with (first | (go_at_call 35; (try rw [hW0]); go_loud (with_reducible refine CV.mono ?_); rintro r w2 ⟨v, rfl, hv, hb2⟩; have HB2 := Aside0.mk hb2; have qv : (v == 0) = false := (beq_eq_false_iff_ne.2 (fun h => hs.out (hv h))); clear CV hb2 hv))
  go_ret
  exact ⟨_, rfl, (fun h => by cases h), hB0.out.trans (HB2.out.mono hB0.out.size)⟩
set_option maxHeartbeats 8000000 in
set_option maxRecDepth 100000 in
theorem subst_calls {s : ByteArray} {y e z : S33} (hc : CLN s y e) (hz : cl s y e = z) (w : World) {A3 A4 A5 Y3 Y4 Y5 : Option Addr} {c3 c4 c5 z3 z4 z5 : Nat} (i1 : In w e A3 A4 A5 c3 c4 c5) (i2 : In w y Y3 Y4 Y5 z3 z4 z5) :
  Calls Tryd.prog 23 #[.agg #[.int .i64 e.f0, .string e.f1, .int .i64 e.f2, .slice A3 e.f3.length c3, .slice A4 e.f4.length c4, .slice A5 e.f5.length c5], .string s, .agg #[.int .i64 y.f0, .string y.f1, .int .i64 y.f2, .slice Y3 y.f3.length z3, .slice Y4 y.f4.length z4, .slice Y5 y.f5.length z5]] w fun r w' => ∃ B3 B4 B5 d3 d4 d5, r = .returned (.agg #[.int .i64 z.f0, .string z.f1, .int .i64 z.f2, .slice B3 z.f3.length d3, .slice B4 z.f4.length d4, .slice B5 z.f5.length d5]) ∧ FIn w' w.heap.size z B3 B4 B5 d3 d4 d5 ∧ Below w.heap.size w w' := by
 have E : ∀ W : World, ∀ o : Obj, (W.alloc o).heap.size = W.heap.size + 1 := fun W o => Array.size_push _
 obtain ⟨W0, hW0⟩ : ∃ W0, ((w.alloc (.cells #[.int .i64 e.f0, .string e.f1, .int .i64 e.f2, .slice A3 e.f3.length c3, .slice A4 e.f4.length c4, .slice A5 e.f5.length c5] 33)).alloc (.cells #[.int .i64 y.f0, .string y.f1, .int .i64 y.f2, .slice Y3 y.f3.length z3, .slice Y4 y.f4.length z4, .slice Y5 y.f5.length z5] 33)).alloc (.cells #[.int .i64 0, .string ⟨#[]⟩, .int .i64 0, .slice none 0 0, .slice none 0 0, .slice none 0 0] 33) = W0 := ⟨_, rfl⟩
 have hB0 : Aside0 (Below w.heap.size w W0) := ⟨by rw [← hW0]; exact below_alloc (below_alloc (below_alloc (Below.refl _ _) _) _) _⟩
 have hbx : Aside0 (W0.heap[w.heap.size]? = some (.cells #[.int .i64 e.f0, .string e.f1, .int .i64 e.f2, .slice A3 e.f3.length c3, .slice A4 e.f4.length c4, .slice A5 e.f5.length c5] 33 (0, 0))) := ⟨by rw [← hW0]; exact (Below.heap_alloc _ _ _ (by rw [E, E]; omega)).trans ((Below.heap_alloc _ _ _ (by rw [E]; omega)).trans (blk_new w _))⟩
 have hby : Aside0 (W0.heap[w.heap.size + 1]? = some (.cells #[.int .i64 y.f0, .string y.f1, .int .i64 y.f2, .slice Y3 y.f3.length z3, .slice Y4 y.f4.length z4, .slice Y5 y.f5.length z5] 33 (0, 0))) := ⟨by rw [← hW0]; refine (Below.heap_alloc _ _ _ (by rw [E, E]; omega)).trans ?_; rw [← E w]; exact blk_new _ _⟩
 have hrx : Aside0 (W0.heap[w.heap.size + 1 + 1]? = some (.cells #[.int .i64 0, .string ⟨#[]⟩, .int .i64 0, .slice none 0 0, .slice none 0 0, .slice none 0 0] 33 (0, 0))) := ⟨by rw [← hW0]; rw [← E w]; rw [← E (w.alloc _)]; exact blk_new _ _⟩
 have hsz : Aside0 (W0.heap.size = w.heap.size + 1 + 1 + 1) := ⟨by rw [← hW0, E, E, E]⟩
 have k0 := (blk_cell hbx.out 0).trans rfl
 have k1 := (blk_cell hbx.out 1).trans rfl
 have k2 := (blk_cell hbx.out 2).trans rfl
 have k3 := (blk_cell hbx.out 3).trans rfl
 have k4 := (blk_cell hbx.out 4).trans rfl
 have k5 := (blk_cell hbx.out 5).trans rfl
 have b0 := (blk_cell hby.out 0).trans rfl
 have b1 := (blk_cell hby.out 1).trans rfl
 have b2 := (blk_cell hby.out 2).trans rfl
 have b3 := (blk_cell hby.out 3).trans rfl
 have b4 := (blk_cell hby.out 4).trans rfl
 have b5 := (blk_cell hby.out 5).trans rfl
 have CC := hc.at hz W0 (i1.below hB0.out) (i2.below hB0.out)
 clear hc hz i1 i2
 go_enter Tryd.func23, Tryd.ntmps23
 have T1 : True := trivial
 go_wp2_with (first | (clear T1; go_at_call 41; (try rw [hW0]); go_loud (with_reducible refine CC.mono ?_); rintro e' w1 ⟨B3, B4, B5, d3, d4, d5, rfl, hF, hb1⟩; (have r0 := (blk_cell (blk_below hrx.out hb1) 0).trans rfl); (have r1 := (blk_cell (blk_below hrx.out hb1) 1).trans rfl); (have r2 := (blk_cell (blk_below hrx.out hb1) 2).trans rfl); (have r3 := (blk_cell (blk_below hrx.out hb1) 3).trans rfl); (have r4 := (blk_cell (blk_below hrx.out hb1) 4).trans rfl); (have r5 := (blk_cell (blk_below hrx.out hb1) 5).trans rfl); (have y0 := blk_frozen (blk_below hrx.out hb1) 0); (have y1 := blk_frozen (blk_below hrx.out hb1) 1); (have y2 := blk_frozen (blk_below hrx.out hb1) 2); (have y3 := blk_frozen (blk_below hrx.out hb1) 3); (have y4 := blk_frozen (blk_below hrx.out hb1) 4); (have y5 := blk_frozen (blk_below hrx.out hb1) 5); have HF := Aside0.mk hF; have HB := Aside0.mk hb1; have T2 : True := trivial; clear hF hb1; skip))
 clear hW0 k0 k1 k2 k3 k4 k5 b0 b1 b2 b3 b4 b5
 refine bodyPost_ret (v := .agg #[.int .i64 z.f0, .string z.f1, .int .i64 z.f2, .slice B3 z.f3.length d3, .slice B4 z.f4.length d4, .slice B5 z.f5.length d5]) (by simp [results, Tryd.results23, go_sem, *]) rfl ⟨B3, B4, B5, d3, d4, d5, rfl, ?_, ?_⟩
 ·exact (FIn.far6 (b := W0.heap.size) (q := w.heap.size + 1 + 1) (HF.out) (by have := hsz.out; omega) _ _ _ _ _ _).mono hB0.out.size
 ·exact below6 (q := w.heap.size + 1 + 1) (hB0.out.trans (HB.out.mono hB0.out.size)) (by omega) _ _ _ _ _ _
set_option maxHeartbeats 8000000 in
set_option maxRecDepth 100000 in
theorem rename_calls {s t : ByteArray} {e z : S33} (hc : CLN s (exV t) e) (hz : cl s (exV t) e = z) (w : World) {A3 A4 A5 : Option Addr} {c3 c4 c5 : Nat} (i1 : In w e A3 A4 A5 c3 c4 c5) :
  Calls Tryd.prog 24 #[.agg #[.int .i64 e.f0, .string e.f1, .int .i64 e.f2, .slice A3 e.f3.length c3, .slice A4 e.f4.length c4, .slice A5 e.f5.length c5], .string s, .string t] w fun r w' => ∃ B3 B4 B5 d3 d4 d5, r = .returned (.agg #[.int .i64 z.f0, .string z.f1, .int .i64 z.f2, .slice B3 z.f3.length d3, .slice B4 z.f4.length d4, .slice B5 z.f5.length d5]) ∧ FIn w' w.heap.size z B3 B4 B5 d3 d4 d5 ∧ Below w.heap.size w w' := by
 have E : ∀ W : World, ∀ o : Obj, (W.alloc o).heap.size = W.heap.size + 1 := fun W o => Array.size_push _
 obtain ⟨W0, hW0⟩ : ∃ W0, (w.alloc (.cells #[.int .i64 e.f0, .string e.f1, .int .i64 e.f2, .slice A3 e.f3.length c3, .slice A4 e.f4.length c4, .slice A5 e.f5.length c5] 33)).alloc (.cells #[.int .i64 0, .string ⟨#[]⟩, .int .i64 0, .slice none 0 0, .slice none 0 0, .slice none 0 0] 33) = W0 := ⟨_, rfl⟩
 have hB0 : Aside0 (Below w.heap.size w W0) := ⟨by rw [← hW0]; exact below_alloc (below_alloc (Below.refl _ _) _) _⟩
 have hbx : Aside0 (W0.heap[w.heap.size]? = some (.cells #[.int .i64 e.f0, .string e.f1, .int .i64 e.f2, .slice A3 e.f3.length c3, .slice A4 e.f4.length c4, .slice A5 e.f5.length c5] 33 (0, 0))) := ⟨by rw [← hW0]; exact (Below.heap_alloc _ _ _ (by rw [E]; omega)).trans (blk_new w _)⟩
 have hrx : Aside0 (W0.heap[w.heap.size + 1]? = some (.cells #[.int .i64 0, .string ⟨#[]⟩, .int .i64 0, .slice none 0 0, .slice none 0 0, .slice none 0 0] 33 (0, 0))) := ⟨by rw [← hW0]; rw [← E w]; exact blk_new _ _⟩
 have hsz : Aside0 (W0.heap.size = w.heap.size + 1 + 1) := ⟨by rw [← hW0, E, E]⟩
 have k0 := (blk_cell hbx.out 0).trans rfl
 have k1 := (blk_cell hbx.out 1).trans rfl
 have k2 := (blk_cell hbx.out 2).trans rfl
 have k3 := (blk_cell hbx.out 3).trans rfl
 have k4 := (blk_cell hbx.out 4).trans rfl
 have k5 := (blk_cell hbx.out 5).trans rfl
 have CC := hc.at hz W0 (i1.below hB0.out) (Y3 := none) (Y4 := none) (Y5 := none) (z3 := 0) (z4 := 0) (z5 := 0) ⟨Kd.C_nil _ _, Nat.le_refl _, Kd.C_nil _ _, Nat.le_refl _, Kd.C_nil _ _, Nat.le_refl _⟩
 simp only [exV, List.length_nil] at CC
 clear hc hz i1
 go_enter Tryd.func24, Tryd.ntmps24
 have T1 : True := trivial
 go_wp2_with (first | (clear T1; go_at_call 41; (try rw [hW0]); go_loud (with_reducible refine CC.mono ?_); rintro e' w1 ⟨B3, B4, B5, d3, d4, d5, rfl, hF, hb1⟩; (have r0 := (blk_cell (blk_below hrx.out hb1) 0).trans rfl); (have r1 := (blk_cell (blk_below hrx.out hb1) 1).trans rfl); (have r2 := (blk_cell (blk_below hrx.out hb1) 2).trans rfl); (have r3 := (blk_cell (blk_below hrx.out hb1) 3).trans rfl); (have r4 := (blk_cell (blk_below hrx.out hb1) 4).trans rfl); (have r5 := (blk_cell (blk_below hrx.out hb1) 5).trans rfl); (have y0 := blk_frozen (blk_below hrx.out hb1) 0); (have y1 := blk_frozen (blk_below hrx.out hb1) 1); (have y2 := blk_frozen (blk_below hrx.out hb1) 2); (have y3 := blk_frozen (blk_below hrx.out hb1) 3); (have y4 := blk_frozen (blk_below hrx.out hb1) 4); (have y5 := blk_frozen (blk_below hrx.out hb1) 5); have HF := Aside0.mk hF; have HB := Aside0.mk hb1; have T2 : True := trivial; clear hF hb1; skip))
 clear hW0 k0 k1 k2 k3 k4 k5
 refine bodyPost_ret (v := .agg #[.int .i64 z.f0, .string z.f1, .int .i64 z.f2, .slice B3 z.f3.length d3, .slice B4 z.f4.length d4, .slice B5 z.f5.length d5]) (by simp [results, Tryd.results24, go_sem, *]) rfl ⟨B3, B4, B5, d3, d4, d5, rfl, ?_, ?_⟩
 ·exact (FIn.far6 (b := W0.heap.size) (q := w.heap.size + 1) (HF.out) (by have := hsz.out; omega) _ _ _ _ _ _).mono hB0.out.size
 ·exact below6 (q := w.heap.size + 1) (hB0.out.trans (HB.out.mono hB0.out.size)) (by omega) _ _ _ _ _ _
theorem bound_g (e : S33) (hok : okE e = true) (hc : cost e ≤ 100000000000) {f0 f2 : Int} {f1 : ByteArray} {n3 n4 n5 m : Nat} {r : List ByteArray} (h0 : e.f0 = f0) (h1 : e.f1 = f1) (h2 : e.f2 = f2) (hn3 : e.f3.length = n3) (hn4 : e.f4.length = n4) (hn5 : e.f5.length = n5) (hr : bx e [] = r) (hm : r.length = m) (w : World) {A3 A4 A5 : Option Addr} {c3 c4 c5 : Nat} (h3 : Kd.C Kd.string w A3 n3 e.f3) (h4 : Kd.C k33 w A4 n4 e.f4) (h5 : Kd.C k40 w A5 n5 e.f5) :
  Calls Tryd.prog 21 #[.agg #[.int .i64 f0, .string f1, .int .i64 f2, .slice A3 n3 c3, .slice A4 n4 c4, .slice A5 n5 c5]] w fun x w' => ∃ A c, x = .returned (.slice A m c) ∧ m ≤ c ∧ Kd.C Kd.string w' A m r ∧ Below w.heap.size w w' := by
 subst h0 h1 h2 hn3 hn4 hn5 hr hm
 refine (bound0_calls e w hok hc h3 h4 h5).mono ?_
 rintro x w' ⟨v, rfl, hR, hb⟩
 obtain ⟨A, c, rfl⟩ := Kd.R_slice hR
 exact ⟨A, c, rfl, (Kd.R_reads' hR).2.1, (Kd.R_reads' hR).2.2, hb⟩
end Go.Proofs.YtmoeekidmkhkoaaDoor.FreeA
