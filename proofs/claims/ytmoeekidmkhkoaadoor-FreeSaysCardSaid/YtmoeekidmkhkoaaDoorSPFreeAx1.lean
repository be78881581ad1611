/- For each Go function that the laws of this group reach: a plain function with the same answers, and the proof that the call comes to them wherever the plain function has an answer. No other condition. (Laid by a program of this session.) -/
import Derived.Test.YtmoeekidmkhkoaaDoorSPFreeAx0
import Derived.Test.YtmoeekidmkhkoaaDoorSExt
namespace Go.Proofs.YtmoeekidmkhkoaaDoor.PFreeA
open Go.RowKit Go.Proofs.YtmoeekidmkhkoaaDoorW.PrintWords Go.Proofs.YtmoeekidmkhkoaaDoorW.PrintLast Go.Proofs.YtmoeekidmkhkoaaDoorW.PrintMore Go.Proofs.YtmoeekidmkhkoaaDoor.Ext
attribute [local go_sem] max2_int min2_int max_two min_two max_three min_three max_four min_four   -- for this text's walks alone
set_option linter.unusedVariables false
set_option linter.unusedSimpArgs false
mutual
def gristmillmake_expr.j0 : Nat → Int → Int → Bool → Int → ByteArray → Int → List ByteArray → List (S33) → List (S40) → Option (Int)
 | 0, _, _, _, _, _, _, _, _, _ => none
 | k + 1, x1, x2, x27, x102000, x102001, x102002, x102003, x102004, x102005 => if x27 = true then (some (-1)) else (gristmillmake_expr.l0 k x1 x2 0 x102000 x102001 x102002 x102003 x102004 x102005)
def gristmillmake_expr.l0 : Nat → Int → Int → Int → Int → ByteArray → Int → List ByteArray → List (S33) → List (S40) → Option (Int)
 | 0, _, _, _, _, _, _, _, _, _ => none
 | k + 1, x1, x2, x7, x102000, x102001, x102002, x102003, x102004, x102005 => if x7 < (x102003.length : Int) then (if 0 ≤ x7 then (if ((rdOf ByteArray.empty x102003 x7).size : Int) > 60 then (some (-1)) else (gristmillmake_expr.l0 k x1 x2 (wrap64 (x7 + 1)) x102000 x102001 x102002 x102003 x102004 x102005)) else (none)) else (gristmillmake_expr.l1 k x1 x2 0 x102000 x102001 x102002 x102003 x102004 x102005)
def gristmillmake_expr.j3 : Nat → Int → Int → Int → ByteArray → Int → List ByteArray → List (S33) → List (S40) → Option (Int)
 | 0, _, _, _, _, _, _, _, _ => none
 | k + 1, x1, x2, x102000, x102001, x102002, x102003, x102004, x102005 => gristmillmake_expr.l2 k x1 x2 0 x102000 x102001 x102002 x102003 x102004 x102005
def gristmillmake_expr.l2 : Nat → Int → Int → Int → Int → ByteArray → Int → List ByteArray → List (S33) → List (S40) → Option (Int)
 | 0, _, _, _, _, _, _, _, _, _ => none
 | k + 1, x1, x2, x9, x102000, x102001, x102002, x102003, x102004, x102005 => if x9 < (x102005.length : Int) then (if x1 ≥ 0 then (if 0 ≤ x9 then ((gristmillmake_expr.f k ((rd_T40 x102005 x9).f4.f0) ((rd_T40 x102005 x9).f4.f1) ((rd_T40 x102005 x9).f4.f2) ((rd_T40 x102005 x9).f4.f3) ((rd_T40 x102005 x9).f4.f4) ((rd_T40 x102005 x9).f4.f5) (wrap64 ((wrap64 (x1 - 1)) - (((rd_T40 x102005 x9).f3).length : Int))) (wrap64 (x2 + 1))).bind fun t107 => (gristmillmake_expr.l2 k t107 x2 (wrap64 (x9 + 1)) x102000 x102001 x102002 x102003 x102004 x102005)) else (none)) else (some x1)) else (some x1)
def gristmillmake_expr.l1 : Nat → Int → Int → Int → Int → ByteArray → Int → List ByteArray → List (S33) → List (S40) → Option (Int)
 | 0, _, _, _, _, _, _, _, _, _ => none
 | k + 1, x1, x2, x8, x102000, x102001, x102002, x102003, x102004, x102005 => if x8 < (x102004.length : Int) then (if x1 ≥ 0 then (if 0 ≤ x8 then ((gristmillmake_expr.f k ((rd_T33 x102004 x8).f0) ((rd_T33 x102004 x8).f1) ((rd_T33 x102004 x8).f2) ((rd_T33 x102004 x8).f3) ((rd_T33 x102004 x8).f4) ((rd_T33 x102004 x8).f5) x1 (wrap64 (x2 + 1))).bind fun t104 => (gristmillmake_expr.l1 k t104 x2 (wrap64 (x8 + 1)) x102000 x102001 x102002 x102003 x102004 x102005)) else (none)) else (gristmillmake_expr.j3 k x1 x2 x102000 x102001 x102002 x102003 x102004 x102005)) else (gristmillmake_expr.j3 k x1 x2 x102000 x102001 x102002 x102003 x102004 x102005)
def gristmillmake_expr.f : Nat → Int → ByteArray → Int → List ByteArray → List (S33) → List (S40) → Int → Int → Option (Int)
 | 0, _, _, _, _, _, _, _, _ => none
 | k + 1, a0_0, a0_1, a0_2, l0_3, l0_4, l0_5, a1, a2 => if a2 > 30 then (gristmillmake_expr.j0 k (wrap64 ((wrap64 (a1 - 1)) - (l0_3.length : Int))) a2 true a0_0 a0_1 a0_2 l0_3 l0_4 l0_5) else (if (wrap64 ((wrap64 (a1 - 1)) - (l0_3.length : Int))) < 0 then (gristmillmake_expr.j0 k (wrap64 ((wrap64 (a1 - 1)) - (l0_3.length : Int))) a2 true a0_0 a0_1 a0_2 l0_3 l0_4 l0_5) else (gristmillmake_expr.j0 k (wrap64 ((wrap64 (a1 - 1)) - (l0_3.length : Int))) a2 (decide ((a0_1.size : Int) > 60)) a0_0 a0_1 a0_2 l0_3 l0_4 l0_5))
end
theorem gristmillmake_expr.mono_l : ∀ k, (∀ y0 y1 y2 y3 y4 y5 y6 y7, LeO (gristmillmake_expr.f k y0 y1 y2 y3 y4 y5 y6 y7) (gristmillmake_expr.f (k + 1) y0 y1 y2 y3 y4 y5 y6 y7)) ∧ (∀ y0 y1 y2 y3 y4 y5 y6 y7 y8, LeO (gristmillmake_expr.j0 k y0 y1 y2 y3 y4 y5 y6 y7 y8) (gristmillmake_expr.j0 (k + 1) y0 y1 y2 y3 y4 y5 y6 y7 y8)) ∧ (∀ y0 y1 y2 y3 y4 y5 y6 y7 y8, LeO (gristmillmake_expr.l0 k y0 y1 y2 y3 y4 y5 y6 y7 y8) (gristmillmake_expr.l0 (k + 1) y0 y1 y2 y3 y4 y5 y6 y7 y8)) ∧ (∀ y0 y1 y2 y3 y4 y5 y6 y7, LeO (gristmillmake_expr.j3 k y0 y1 y2 y3 y4 y5 y6 y7) (gristmillmake_expr.j3 (k + 1) y0 y1 y2 y3 y4 y5 y6 y7)) ∧ (∀ y0 y1 y2 y3 y4 y5 y6 y7 y8, LeO (gristmillmake_expr.l2 k y0 y1 y2 y3 y4 y5 y6 y7 y8) (gristmillmake_expr.l2 (k + 1) y0 y1 y2 y3 y4 y5 y6 y7 y8)) ∧ (∀ y0 y1 y2 y3 y4 y5 y6 y7 y8, LeO (gristmillmake_expr.l1 k y0 y1 y2 y3 y4 y5 y6 y7 y8) (gristmillmake_expr.l1 (k + 1) y0 y1 y2 y3 y4 y5 y6 y7 y8))
 | 0 => ⟨fun _ _ _ _ _ _ _ _ r h => by simp [gristmillmake_expr.f] at h, fun _ _ _ _ _ _ _ _ _ r h => by simp [gristmillmake_expr.j0] at h, fun _ _ _ _ _ _ _ _ _ r h => by simp [gristmillmake_expr.l0] at h, fun _ _ _ _ _ _ _ _ r h => by simp [gristmillmake_expr.j3] at h, fun _ _ _ _ _ _ _ _ _ r h => by simp [gristmillmake_expr.l2] at h, fun _ _ _ _ _ _ _ _ _ r h => by simp [gristmillmake_expr.l1] at h⟩
 | k + 1 => by
  obtain ⟨ih0, ih1, ih2, ih3, ih4, ih5⟩ := gristmillmake_expr.mono_l k
  refine ⟨?_, ?_, ?_, ?_, ?_, ?_⟩
  ·intro y0 y1 y2 y3 y4 y5 y6 y7
   unfold gristmillmake_expr.f
   repeat' first
   | (with_reducible exact ih0 _ _ _ _ _ _ _ _)
   | (with_reducible exact ih1 _ _ _ _ _ _ _ _ _)
   | (with_reducible exact ih2 _ _ _ _ _ _ _ _ _)
   | (with_reducible exact ih3 _ _ _ _ _ _ _ _)
   | (with_reducible exact ih4 _ _ _ _ _ _ _ _ _)
   | (with_reducible exact ih5 _ _ _ _ _ _ _ _ _)
   | (with_reducible exact LeO.refl _)
   | (with_reducible exact LeO.none _)
   | (with_reducible refine LeO.ite ?_ ?_)
   | (with_reducible refine LeO.bind ?_ (fun _ => ?_))
   | exact ih0 _ _ _ _ _ _ _ _
   | exact ih1 _ _ _ _ _ _ _ _ _
   | exact ih2 _ _ _ _ _ _ _ _ _
   | exact ih3 _ _ _ _ _ _ _ _
   | exact ih4 _ _ _ _ _ _ _ _ _
   | exact ih5 _ _ _ _ _ _ _ _ _
   | exact LeO.none _
   | refine LeO.ite ?_ ?_
   | refine LeO.bind ?_ (fun _ => ?_)
  ·intro y0 y1 y2 y3 y4 y5 y6 y7 y8
   unfold gristmillmake_expr.j0
   repeat' first
   | (with_reducible exact ih0 _ _ _ _ _ _ _ _)
   | (with_reducible exact ih1 _ _ _ _ _ _ _ _ _)
   | (with_reducible exact ih2 _ _ _ _ _ _ _ _ _)
   | (with_reducible exact ih3 _ _ _ _ _ _ _ _)
   | (with_reducible exact ih4 _ _ _ _ _ _ _ _ _)
   | (with_reducible exact ih5 _ _ _ _ _ _ _ _ _)
   | (with_reducible exact LeO.refl _)
   | (with_reducible exact LeO.none _)
   | (with_reducible refine LeO.ite ?_ ?_)
   | (with_reducible refine LeO.bind ?_ (fun _ => ?_))
   | exact ih0 _ _ _ _ _ _ _ _
   | exact ih1 _ _ _ _ _ _ _ _ _
   | exact ih2 _ _ _ _ _ _ _ _ _
   | exact ih3 _ _ _ _ _ _ _ _
   | exact ih4 _ _ _ _ _ _ _ _ _
   | exact ih5 _ _ _ _ _ _ _ _ _
   | exact LeO.none _
   | refine LeO.ite ?_ ?_
   | refine LeO.bind ?_ (fun _ => ?_)
  ·intro y0 y1 y2 y3 y4 y5 y6 y7 y8
   unfold gristmillmake_expr.l0
   repeat' first
   | (with_reducible exact ih0 _ _ _ _ _ _ _ _)
   | (with_reducible exact ih1 _ _ _ _ _ _ _ _ _)
   | (with_reducible exact ih2 _ _ _ _ _ _ _ _ _)
   | (with_reducible exact ih3 _ _ _ _ _ _ _ _)
   | (with_reducible exact ih4 _ _ _ _ _ _ _ _ _)
   | (with_reducible exact ih5 _ _ _ _ _ _ _ _ _)
   | (with_reducible exact LeO.refl _)
   | (with_reducible exact LeO.none _)
   | (with_reducible refine LeO.ite ?_ ?_)
   | (with_reducible refine LeO.bind ?_ (fun _ => ?_))
   | exact ih0 _ _ _ _ _ _ _ _
   | exact ih1 _ _ _ _ _ _ _ _ _
   | exact ih2 _ _ _ _ _ _ _ _ _
   | exact ih3 _ _ _ _ _ _ _ _
   | exact ih4 _ _ _ _ _ _ _ _ _
   | exact ih5 _ _ _ _ _ _ _ _ _
   | exact LeO.none _
   | refine LeO.ite ?_ ?_
   | refine LeO.bind ?_ (fun _ => ?_)
  ·intro y0 y1 y2 y3 y4 y5 y6 y7
   unfold gristmillmake_expr.j3
   repeat' first
   | (with_reducible exact ih0 _ _ _ _ _ _ _ _)
   | (with_reducible exact ih1 _ _ _ _ _ _ _ _ _)
   | (with_reducible exact ih2 _ _ _ _ _ _ _ _ _)
   | (with_reducible exact ih3 _ _ _ _ _ _ _ _)
   | (with_reducible exact ih4 _ _ _ _ _ _ _ _ _)
   | (with_reducible exact ih5 _ _ _ _ _ _ _ _ _)
   | (with_reducible exact LeO.refl _)
   | (with_reducible exact LeO.none _)
   | (with_reducible refine LeO.ite ?_ ?_)
   | (with_reducible refine LeO.bind ?_ (fun _ => ?_))
   | exact ih0 _ _ _ _ _ _ _ _
   | exact ih1 _ _ _ _ _ _ _ _ _
   | exact ih2 _ _ _ _ _ _ _ _ _
   | exact ih3 _ _ _ _ _ _ _ _
   | exact ih4 _ _ _ _ _ _ _ _ _
   | exact ih5 _ _ _ _ _ _ _ _ _
   | exact LeO.none _
   | refine LeO.ite ?_ ?_
   | refine LeO.bind ?_ (fun _ => ?_)
  ·intro y0 y1 y2 y3 y4 y5 y6 y7 y8
   unfold gristmillmake_expr.l2
   repeat' first
   | (with_reducible exact ih0 _ _ _ _ _ _ _ _)
   | (with_reducible exact ih1 _ _ _ _ _ _ _ _ _)
   | (with_reducible exact ih2 _ _ _ _ _ _ _ _ _)
   | (with_reducible exact ih3 _ _ _ _ _ _ _ _)
   | (with_reducible exact ih4 _ _ _ _ _ _ _ _ _)
   | (with_reducible exact ih5 _ _ _ _ _ _ _ _ _)
   | (with_reducible exact LeO.refl _)
   | (with_reducible exact LeO.none _)
   | (with_reducible refine LeO.ite ?_ ?_)
   | (with_reducible refine LeO.bind ?_ (fun _ => ?_))
   | exact ih0 _ _ _ _ _ _ _ _
   | exact ih1 _ _ _ _ _ _ _ _ _
   | exact ih2 _ _ _ _ _ _ _ _ _
   | exact ih3 _ _ _ _ _ _ _ _
   | exact ih4 _ _ _ _ _ _ _ _ _
   | exact ih5 _ _ _ _ _ _ _ _ _
   | exact LeO.none _
   | refine LeO.ite ?_ ?_
   | refine LeO.bind ?_ (fun _ => ?_)
  ·intro y0 y1 y2 y3 y4 y5 y6 y7 y8
   unfold gristmillmake_expr.l1
   repeat' first
   | (with_reducible exact ih0 _ _ _ _ _ _ _ _)
   | (with_reducible exact ih1 _ _ _ _ _ _ _ _ _)
   | (with_reducible exact ih2 _ _ _ _ _ _ _ _ _)
   | (with_reducible exact ih3 _ _ _ _ _ _ _ _)
   | (with_reducible exact ih4 _ _ _ _ _ _ _ _ _)
   | (with_reducible exact ih5 _ _ _ _ _ _ _ _ _)
   | (with_reducible exact LeO.refl _)
   | (with_reducible exact LeO.none _)
   | (with_reducible refine LeO.ite ?_ ?_)
   | (with_reducible refine LeO.bind ?_ (fun _ => ?_))
   | exact ih0 _ _ _ _ _ _ _ _
   | exact ih1 _ _ _ _ _ _ _ _ _
   | exact ih2 _ _ _ _ _ _ _ _ _
   | exact ih3 _ _ _ _ _ _ _ _
   | exact ih4 _ _ _ _ _ _ _ _ _
   | exact ih5 _ _ _ _ _ _ _ _ _
   | exact LeO.none _
   | refine LeO.ite ?_ ?_
   | refine LeO.bind ?_ (fun _ => ?_)
theorem gristmillmake_expr.mono : ∀ a0 a1 a2 a3 a4 a5 a6 a7 k, LeO (gristmillmake_expr.f k a0 a1 a2 a3 a4 a5 a6 a7) (gristmillmake_expr.f (k + 1) a0 a1 a2 a3 a4 a5 a6 a7) := by
 intro a0 a1 a2 a3 a4 a5 a6 a7 k
 obtain ⟨ih0, ih1, ih2, ih3, ih4, ih5⟩ := gristmillmake_expr.mono_l k
 exact ih0 a0 a1 a2 a3 a4 a5 a6 a7
def gristmillmake_expr.T16 : Bool × List (List Nat × List Nat) := (true, [([], []), ([0], [0]), ([], []), ([1, 2], [1, 2]), ([3], [3]), ([4], [4]), ([], []), ([6], [6]), ([], []), ([8], [8]), ([], []), ([9, 10], [9, 10]), ([11], [11]), ([12], [12]), ([13], [13]), ([7, 14], [7, 14]), ([], []), ([16], [16]), ([5, 15, 17], [5, 15, 17]), ([18, 18, 0, 1, 2, 3, 4, 5, 6, 7, 8, 9, 10, 11, 12, 13, 14, 15, 16, 17, 18], [6, 18])])
def gristmillmake_expr.B16 : List Nat := [0, 1, 0, 7, 15, 31, 0, 64, 0, 256, 0, 1792, 3840, 7936, 16128, 32704, 0, 65536, 262143, 524287]
theorem gristmillmake_expr.tab16 : rtab .any (opsOf Tryd.f34 16) = gristmillmake_expr.T16 := by kernel_rfl
theorem gristmillmake_expr.bits16 : waitsOk gristmillmake_expr.T16.2 gristmillmake_expr.B16 = true := by kernel_rfl
set_option maxHeartbeats 8000000 in
set_option maxRecDepth 100000 in
theorem gristmillmake_expr.calls (k : Nat) : ∀ (a0_0 : Int) (a0_1 : ByteArray) (a0_2 : Int) (A0_3 : Option Addr) (c0_3 : Nat) (l0_3 : List ByteArray) (A0_4 : Option Addr) (c0_4 : Nat) (l0_4 : List (S33)) (A0_5 : Option Addr) (c0_5 : Nat) (l0_5 : List (S40)) (a1 : Int) (a2 : Int) (r : Int) (w : World) (hr0_3 : Kd.C Kd.string w A0_3 l0_3.length l0_3) (hc0_3 : l0_3.length ≤ c0_3) (hr0_4 : Kd.C k33 w A0_4 l0_4.length l0_4) (hc0_4 : l0_4.length ≤ c0_4) (hr0_5 : Kd.C k40 w A0_5 l0_5.length l0_5) (hc0_5 : l0_5.length ≤ c0_5) (h : gristmillmake_expr.f k a0_0 a0_1 a0_2 l0_3 l0_4 l0_5 a1 a2 = some r),
  Calls Tryd.prog 34 #[.agg #[.int .i64 a0_0, .string a0_1, .int .i64 a0_2, .slice A0_3 l0_3.length c0_3, .slice A0_4 l0_4.length c0_4, .slice A0_5 l0_5.length c0_5], .int .i64 a1, .int .i64 a2] w fun e w' => e = .returned (.int .i64 r) ∧ Below w.heap.size w w' := by
 induction k using Nat.strongRecOn with
 | _ k ih =>
 intro a0_0 a0_1 a0_2 A0_3 c0_3 l0_3 A0_4 c0_4 l0_4 A0_5 c0_5 l0_5 a1 a2 r w hr0_3 hc0_3 hr0_4 hc0_4 hr0_5 hc0_5 h
 cases k with
 | zero => exact absurd h (by simp [gristmillmake_expr.f])
 | succ k =>
 simp only [gristmillmake_expr.f] at h
 have hu33 := Tryd.underlying33
 have HR0_3 := Aside0.mk hr0_3
 have HC0_3 := Aside0.mk hc0_3
 clear hr0_3 hc0_3
 have HR0_4 := Aside0.mk hr0_4
 have HC0_4 := Aside0.mk hc0_4
 clear hr0_4 hc0_4
 have HR0_5 := Aside0.mk hr0_5
 have HC0_5 := Aside0.mk hc0_5
 clear hr0_5 hc0_5
 have HB := Aside0.mk (Below.refl w.heap.size w)
 have H : (if a2 > 30 then (gristmillmake_expr.j0 k (wrap64 ((wrap64 (a1 - 1)) - (l0_3.length : Int))) a2 true a0_0 a0_1 a0_2 l0_3 l0_4 l0_5) else (if (wrap64 ((wrap64 (a1 - 1)) - (l0_3.length : Int))) < 0 then (gristmillmake_expr.j0 k (wrap64 ((wrap64 (a1 - 1)) - (l0_3.length : Int))) a2 true a0_0 a0_1 a0_2 l0_3 l0_4 l0_5) else (gristmillmake_expr.j0 k (wrap64 ((wrap64 (a1 - 1)) - (l0_3.length : Int))) a2 (decide ((a0_1.size : Int) > 60)) a0_0 a0_1 a0_2 l0_3 l0_4 l0_5))) = some r := h
 clear h
 have HC4 := Aside0.mk H
 clear H
 go_enter Tryd.func34, Tryd.ntmps34
 go_upto_region 2 with (first | ((with_reducible refine gate_dst (N := 3) rfl ?_); (try (refine gate_guard (by rfl) ?_; dsimp only)); refine box_event ?hg (N := 3) ?hd (cs := #[.int .i64 a0_0, .string a0_1, .int .i64 a0_2, .slice A0_3 l0_3.length c0_3, .slice A0_4 l0_4.length c0_4, .slice A0_5 l0_5.length c0_5]) (t := 33) ?hr ?_; (case hd => rfl); (case hg => rfl); (case hr => first | (go_simp; done) | (go_simp; rfl)); intro gb101 hg w5 hbox hb; have n0_ := Aside0.mk (below_step (by repeat (first | (with_reducible first | exact HB.out | apply below_alloc | apply pw_below_drewN | apply below_drew1) | exact HB.out)) hb); have n1_ := Aside0.mk (hbox); have n2_ := Aside0.mk ((by rw [hg]; exact (below_size (by repeat (first | (with_reducible first | exact HB.out | apply below_alloc | apply pw_below_drewN | apply below_drew1) | exact HB.out))) : w.heap.size ≤ gb101)); have n3_ := Aside0.mk ((by rw [hg]; exact (below_size (by repeat (first | (with_reducible first | exact HB.out | apply below_alloc | apply pw_below_drewN | apply below_drew1) | exact HB.out))) : w.heap.size ≤ gb101)); clear HB; have HB := n0_; have BK101 := n1_; have GW101 := n2_; have GE101 := n3_; clear n0_ n1_ n2_ n3_; clear hb hbox hg; have hcz6_0 : w5.cell? ⟨gb101, 0, none⟩ = some (.int .i64 a0_0) := (blk_cell BK101.out 0).trans rfl; have hcz6_1 : w5.cell? ⟨gb101, 1, none⟩ = some (.string a0_1) := (blk_cell BK101.out 1).trans rfl; have hcz6_2 : w5.cell? ⟨gb101, 2, none⟩ = some (.int .i64 a0_2) := (blk_cell BK101.out 2).trans rfl; have hcz6_3 : w5.cell? ⟨gb101, 3, none⟩ = some (.slice A0_3 l0_3.length c0_3) := (blk_cell BK101.out 3).trans rfl; have hcz6_4 : w5.cell? ⟨gb101, 4, none⟩ = some (.slice A0_4 l0_4.length c0_4) := (blk_cell BK101.out 4).trans rfl; have hcz6_5 : w5.cell? ⟨gb101, 5, none⟩ = some (.slice A0_5 l0_5.length c0_5) := (blk_cell BK101.out 5).trans rfl; have hfz6_0 := blk_frozen BK101.out 0; have hfz6_1 := blk_frozen BK101.out 1; have hfz6_2 := blk_frozen BK101.out 2; have hfz6_3 := blk_frozen BK101.out 3; have hfz6_4 := blk_frozen BK101.out 4; have hfz6_5 := blk_frozen BK101.out 5))
 (try simp only [Act.put, List.setIfInBounds_toArray, List.set_cons_zero, List.set_cons_succ])
 go_cut [27] (fun v27 wc => ∃ (kq : Nat) (x27_3 : Bool), v27 = .bool x27_3 ∧ Aside0 (gristmillmake_expr.j0 kq (wrap64 ((wrap64 (a1 - 1)) - (l0_3.length : Int))) a2 x27_3 a0_0 a0_1 a0_2 l0_3 l0_4 l0_5 = some r) ∧ Aside0 (kq ≤ k) ∧ Aside0 (wc.heap[gb101]? = some (.cells #[.int .i64 a0_0, .string a0_1, .int .i64 a0_2, (.slice A0_3 l0_3.length c0_3), (.slice A0_4 l0_4.length c0_4), (.slice A0_5 l0_5.length c0_5)] 33 (0, 0))) ∧ Aside0 (Below w.heap.size w wc))
 case first => as_aux_lemma =>
  (try simp only [List.append_eq, List.cons_append, List.nil_append])
  have H := HC4.out
  clear HC4
  by_cases c7 : a2 > 30
  ·rw [if_pos c7] at H
   have c7b0 : decide (30 < a2) = true := decide_eq_true c7
   clear c7
   (first | rw [c7b0] | (simp only [i64_w, i32_w]; rw [c7b0]) | skip)
   have H' := Aside0.mk H
   clear H
   go_wp2
   go_meet
   case rel => exact ⟨_, (true), (by first | rfl | (simp; done) | (simp [*]; done)), H', ⟨by first | omega | exact Nat.le_refl _⟩, ⟨by (with_reducible repeat (first | refine blk_drewN ?_ _ | refine blk_drew ?_ | refine blk_alloc ?_ _)); exact BK101.out⟩, ⟨by repeat (first | (with_reducible first | exact HB.out | apply below_alloc | apply pw_below_drewN | apply below_drew1 | refine below_set ?_ GE101.out) | exact HB.out)⟩⟩
  ·rw [if_neg c7] at H
   have c7b0 : decide (30 < a2) = false := decide_eq_false c7
   clear c7
   (first | rw [c7b0] | (simp only [i64_w, i32_w]; rw [c7b0]) | skip)
   by_cases c8 : (wrap64 ((wrap64 (a1 - 1)) - (l0_3.length : Int))) < 0
   ·rw [if_pos c8] at H
    have c8b0 : decide ((wrap64 ((wrap64 (a1 - 1)) - (l0_3.length : Int))) < 0) = true := decide_eq_true c8
    clear c8
    have H' := Aside0.mk H
    clear H
    go_wp2
    go_meet
    case rel => exact ⟨_, (true), (by first | rfl | (simp; done) | (simp [*]; done)), H', ⟨by first | omega | exact Nat.le_refl _⟩, ⟨by (with_reducible repeat (first | refine blk_drewN ?_ _ | refine blk_drew ?_ | refine blk_alloc ?_ _)); exact BK101.out⟩, ⟨by repeat (first | (with_reducible first | exact HB.out | apply below_alloc | apply pw_below_drewN | apply below_drew1 | refine below_set ?_ GE101.out) | exact HB.out)⟩⟩
   ·rw [if_neg c8] at H
    have c8b0 : decide ((wrap64 ((wrap64 (a1 - 1)) - (l0_3.length : Int))) < 0) = false := decide_eq_false c8
    clear c8
    have H' := Aside0.mk H
    clear H
    have hcz9_0 : w5.cell? ⟨gb101, 0, none⟩ = some (.int .i64 a0_0) := (blk_cell BK101.out 0).trans rfl
    have hcz9_1 : w5.cell? ⟨gb101, 1, none⟩ = some (.string a0_1) := (blk_cell BK101.out 1).trans rfl
    have hcz9_2 : w5.cell? ⟨gb101, 2, none⟩ = some (.int .i64 a0_2) := (blk_cell BK101.out 2).trans rfl
    have hcz9_3 : w5.cell? ⟨gb101, 3, none⟩ = some (.slice A0_3 l0_3.length c0_3) := (blk_cell BK101.out 3).trans rfl
    have hcz9_4 : w5.cell? ⟨gb101, 4, none⟩ = some (.slice A0_4 l0_4.length c0_4) := (blk_cell BK101.out 4).trans rfl
    have hcz9_5 : w5.cell? ⟨gb101, 5, none⟩ = some (.slice A0_5 l0_5.length c0_5) := (blk_cell BK101.out 5).trans rfl
    have hfz9_0 := blk_frozen BK101.out 0
    have hfz9_1 := blk_frozen BK101.out 1
    have hfz9_2 := blk_frozen BK101.out 2
    have hfz9_3 := blk_frozen BK101.out 3
    have hfz9_4 := blk_frozen BK101.out 4
    have hfz9_5 := blk_frozen BK101.out 5
    go_wp2
    go_meet
    case rel => exact ⟨_, (decide ((a0_1.size : Int) > 60)), (by first | rfl | (simp; done) | (simp [*]; done)), H', ⟨by first | omega | exact Nat.le_refl _⟩, ⟨by (with_reducible repeat (first | refine blk_drewN ?_ _ | refine blk_drew ?_ | refine blk_alloc ?_ _)); exact BK101.out⟩, ⟨by repeat (first | (with_reducible first | exact HB.out | apply below_alloc | apply pw_below_drewN | apply below_drew1 | refine below_set ?_ GE101.out) | exact HB.out)⟩⟩
 case rest =>
  clear HC4
  try clear p2
  try clear c3
  try clear p6
  try clear c7
  try clear c7b0
  try clear c8
  try clear c8b0
  try clear hcz6_0
  try clear hcz6_1
  try clear hcz6_2
  try clear hcz6_3
  try clear hcz6_4
  try clear hcz6_5
  try clear hcz9_0
  try clear hcz9_1
  try clear hcz9_2
  try clear hcz9_3
  try clear hcz9_4
  try clear hcz9_5
  try clear hfz6_0
  try clear hfz6_1
  try clear hfz6_2
  try clear hfz6_3
  try clear hfz6_4
  try clear hfz6_5
  try clear hfz9_0
  try clear hfz9_1
  try clear hfz9_2
  try clear hfz9_3
  try clear hfz9_4
  try clear hfz9_5
  obtain ⟨kq, x27_3, rfl, HA, HJ3, BK101, HB⟩ := hcut
  cases kq with
  | zero => exact absurd HA.out (by simp [gristmillmake_expr.j0])
  | succ kj3 =>
   have H := HA.out
   clear HA
   simp only [gristmillmake_expr.j0] at H
   by_cases c10 : x27_3 = true
   ·subst c10
    have H1 : (some (-1)) = some r := by rw [if_pos rfl] at H; exact H
    clear H
    have H := H1
    clear H1
    obtain rfl := Option.some.inj H
    go_wp2
    go_ret
    exact ⟨by first | rfl | (simp [errW_none, errW_some] <;> rfl) | (simp [*, errW_none, errW_some] <;> rfl) | (simp [errW_none, errW_some] <;> (rw [Bool.eq_iff_iff]; simp; done)), by repeat (first | (with_reducible first | exact HB.out | apply below_alloc | apply pw_below_drewN | apply below_drew1 | refine below_set ?_ GE101.out) | exact HB.out)⟩
   ·replace c10 := Bool.eq_false_iff.mpr c10
    subst c10
    have H1 : (gristmillmake_expr.l0 kj3 (wrap64 ((wrap64 (a1 - 1)) - (l0_3.length : Int))) a2 0 a0_0 a0_1 a0_2 l0_3 l0_4 l0_5) = some r := by rw [if_neg (show ¬ (false = true) by decide)] at H; exact H
    clear H
    have H := H1
    clear H1
    have H' := Aside0.mk H
    clear H
    go_wp2
    go_loopg [7] kj3 (fun kq v7 w' => ∃ (x7_2 : Int), v7 = .int .i64 x7_2 ∧ Aside0 (gristmillmake_expr.l0 kq (wrap64 ((wrap64 (a1 - 1)) - (l0_3.length : Int))) a2 x7_2 a0_0 a0_1 a0_2 l0_3 l0_4 l0_5 = some r) ∧ Aside0 (kq ≤ kj3) ∧ Aside0 (w'.heap[gb101]? = some (.cells #[.int .i64 a0_0, .string a0_1, .int .i64 a0_2, (.slice A0_3 l0_3.length c0_3), (.slice A0_4 l0_4.length c0_4), (.slice A0_5 l0_5.length c0_5)] 33 (0, 0))) ∧ Aside0 (Below w.heap.size w w'))
    case atStart => exact ⟨(0), (by first | rfl | (simp; done) | (simp [*]; done)), H', ⟨Nat.le_refl _⟩, ⟨by (with_reducible repeat (first | refine blk_drewN ?_ _ | refine blk_drew ?_ | refine blk_alloc ?_ _)); exact BK101.out⟩, ⟨by repeat (first | (with_reducible first | exact HB.out | apply below_alloc | apply pw_below_drewN | apply below_drew1 | refine below_set ?_ GE101.out) | exact HB.out)⟩⟩
    case round =>
     clear H'
     try clear c1
     try clear p2
     try clear c3
     try clear p6
     try clear c7
     try clear c7b0
     try clear c8
     try clear c8b0
     try clear c10
     try clear hcz6_0
     try clear hcz6_1
     try clear hcz6_2
     try clear hcz6_3
     try clear hcz6_4
     try clear hcz6_5
     try clear hcz9_0
     try clear hcz9_1
     try clear hcz9_2
     try clear hcz9_3
     try clear hcz9_4
     try clear hcz9_5
     try clear hfz6_0
     try clear hfz6_1
     try clear hfz6_2
     try clear hfz6_3
     try clear hfz6_4
     try clear hfz6_5
     try clear hfz9_0
     try clear hfz9_1
     try clear hfz9_2
     try clear hfz9_3
     try clear hfz9_4
     try clear hfz9_5
     try clear p2
     try clear p6
     obtain ⟨x7_2, rfl, HA, HK2, BK101, HB⟩ := hrel
     cases gk with
     | zero => exact absurd HA.out (by simp [gristmillmake_expr.l0])
     | succ k2 =>
      have H := HA.out
      clear HA
      simp only [gristmillmake_expr.l0] at H
      by_cases c11 : x7_2 < (l0_3.length : Int)
      ·rw [if_pos c11] at H
       have c11b0 : decide (x7_2 < (l0_3.length : Int)) = true := decide_eq_true c11
       clear c11
       by_cases c12 : 0 ≤ x7_2
       ·rw [if_pos c12] at H
        have c12b0 : decide (0 ≤ x7_2) = true := decide_eq_true c12
        clear c12
        by_cases c13 : ((rdOf ByteArray.empty l0_3 x7_2).size : Int) > 60
        ·rw [if_pos c13] at H
         have c13b0 : decide (60 < ((rdOf ByteArray.empty l0_3 x7_2).size : Int)) = true := decide_eq_true c13
         have c13b1 : decide (60 < (rdOf ByteArray.empty l0_3 x7_2).size) = true := decide_eq_true (by omega)
         clear c13
         obtain rfl := Option.some.inj H
         have hcz14_0 : wr.cell? ⟨gb101, 0, none⟩ = some (.int .i64 a0_0) := (blk_cell BK101.out 0).trans rfl
         have hcz14_1 : wr.cell? ⟨gb101, 1, none⟩ = some (.string a0_1) := (blk_cell BK101.out 1).trans rfl
         have hcz14_2 : wr.cell? ⟨gb101, 2, none⟩ = some (.int .i64 a0_2) := (blk_cell BK101.out 2).trans rfl
         have hcz14_3 : wr.cell? ⟨gb101, 3, none⟩ = some (.slice A0_3 l0_3.length c0_3) := (blk_cell BK101.out 3).trans rfl
         have hcz14_4 : wr.cell? ⟨gb101, 4, none⟩ = some (.slice A0_4 l0_4.length c0_4) := (blk_cell BK101.out 4).trans rfl
         have hcz14_5 : wr.cell? ⟨gb101, 5, none⟩ = some (.slice A0_5 l0_5.length c0_5) := (blk_cell BK101.out 5).trans rfl
         have hfz14_0 := blk_frozen BK101.out 0
         have hfz14_1 := blk_frozen BK101.out 1
         have hfz14_2 := blk_frozen BK101.out 2
         have hfz14_3 := blk_frozen BK101.out 3
         have hfz14_4 := blk_frozen BK101.out 4
         have hfz14_5 := blk_frozen BK101.out 5
         have p102 : 0 ≤ (x7_2 : Int) := of_decide_eq_true (by first | (with_reducible assumption) | assumption)
         have q102 : x7_2 < (l0_3.length : Int) := of_decide_eq_true (by first | (with_reducible assumption) | assumption)
         obtain ⟨ad102, e102, hx102_0⟩ := Kd.at_string HR0_3.out x7_2 p102 q102
         cases e102
         replace hx102_0 := (HB.out.cell (World.block_lt_of_cell? w _ hx102_0)).trans hx102_0
         replace p102 := eq_true p102
         replace q102 := eq_true q102
         go_wp2
         go_ret
         exact ⟨by first | rfl | (simp [errW_none, errW_some] <;> rfl) | (simp [*, errW_none, errW_some] <;> rfl) | (simp [errW_none, errW_some] <;> (rw [Bool.eq_iff_iff]; simp; done)), by repeat (first | (with_reducible first | exact HB.out | apply below_alloc | apply pw_below_drewN | apply below_drew1 | refine below_set ?_ GE101.out) | exact HB.out)⟩
        ·rw [if_neg c13] at H
         have c13b0 : decide (60 < ((rdOf ByteArray.empty l0_3 x7_2).size : Int)) = false := decide_eq_false c13
         have c13b1 : decide (60 < (rdOf ByteArray.empty l0_3 x7_2).size) = false := decide_eq_false (by omega)
         clear c13
         have H' := Aside0.mk H
         clear H
         have hcz15_0 : wr.cell? ⟨gb101, 0, none⟩ = some (.int .i64 a0_0) := (blk_cell BK101.out 0).trans rfl
         have hcz15_1 : wr.cell? ⟨gb101, 1, none⟩ = some (.string a0_1) := (blk_cell BK101.out 1).trans rfl
         have hcz15_2 : wr.cell? ⟨gb101, 2, none⟩ = some (.int .i64 a0_2) := (blk_cell BK101.out 2).trans rfl
         have hcz15_3 : wr.cell? ⟨gb101, 3, none⟩ = some (.slice A0_3 l0_3.length c0_3) := (blk_cell BK101.out 3).trans rfl
         have hcz15_4 : wr.cell? ⟨gb101, 4, none⟩ = some (.slice A0_4 l0_4.length c0_4) := (blk_cell BK101.out 4).trans rfl
         have hcz15_5 : wr.cell? ⟨gb101, 5, none⟩ = some (.slice A0_5 l0_5.length c0_5) := (blk_cell BK101.out 5).trans rfl
         have hfz15_0 := blk_frozen BK101.out 0
         have hfz15_1 := blk_frozen BK101.out 1
         have hfz15_2 := blk_frozen BK101.out 2
         have hfz15_3 := blk_frozen BK101.out 3
         have hfz15_4 := blk_frozen BK101.out 4
         have hfz15_5 := blk_frozen BK101.out 5
         have p102 : 0 ≤ (x7_2 : Int) := of_decide_eq_true (by first | (with_reducible assumption) | assumption)
         have q102 : x7_2 < (l0_3.length : Int) := of_decide_eq_true (by first | (with_reducible assumption) | assumption)
         obtain ⟨ad102, e102, hx102_0⟩ := Kd.at_string HR0_3.out x7_2 p102 q102
         cases e102
         replace hx102_0 := (HB.out.cell (World.block_lt_of_cell? w _ hx102_0)).trans hx102_0
         replace p102 := eq_true p102
         replace q102 := eq_true q102
         go_wp2
         go_roundg k2
         case measure => have := HJ3.out; have := HK2.out; omega
         case rel => exact ⟨(wrap64 (x7_2 + 1)), (by first | rfl | (simp; done) | (simp [*]; done)), H', ⟨by have := HJ3.out; have := HK2.out; omega⟩, ⟨by (with_reducible repeat (first | refine blk_drewN ?_ _ | refine blk_drew ?_ | refine blk_alloc ?_ _)); exact BK101.out⟩, ⟨by repeat (first | (with_reducible first | exact HB.out | apply below_alloc | apply pw_below_drewN | apply below_drew1 | refine below_set ?_ GE101.out) | exact HB.out)⟩⟩
       ·rw [if_neg c12] at H
        exact absurd H (by simp)
      ·rw [if_neg c11] at H
       have c11b0 : decide (x7_2 < (l0_3.length : Int)) = false := decide_eq_false c11
       clear c11
       have HC16 := Aside0.mk H
       clear H
       have hcz17_0 : wr.cell? ⟨gb101, 0, none⟩ = some (.int .i64 a0_0) := (blk_cell BK101.out 0).trans rfl
       have hcz17_1 : wr.cell? ⟨gb101, 1, none⟩ = some (.string a0_1) := (blk_cell BK101.out 1).trans rfl
       have hcz17_2 : wr.cell? ⟨gb101, 2, none⟩ = some (.int .i64 a0_2) := (blk_cell BK101.out 2).trans rfl
       have hcz17_3 : wr.cell? ⟨gb101, 3, none⟩ = some (.slice A0_3 l0_3.length c0_3) := (blk_cell BK101.out 3).trans rfl
       have hcz17_4 : wr.cell? ⟨gb101, 4, none⟩ = some (.slice A0_4 l0_4.length c0_4) := (blk_cell BK101.out 4).trans rfl
       have hcz17_5 : wr.cell? ⟨gb101, 5, none⟩ = some (.slice A0_5 l0_5.length c0_5) := (blk_cell BK101.out 5).trans rfl
       have hfz17_0 := blk_frozen BK101.out 0
       have hfz17_1 := blk_frozen BK101.out 1
       have hfz17_2 := blk_frozen BK101.out 2
       have hfz17_3 := blk_frozen BK101.out 3
       have hfz17_4 := blk_frozen BK101.out 4
       have hfz17_5 := blk_frozen BK101.out 5
       go_upto_block 2 with (fail)
       go_cut [1] (fun v1 wc => ∃ (kq : Nat) (x1_15 : Int), v1 = .int .i64 x1_15 ∧ Aside0 (gristmillmake_expr.j3 kq x1_15 a2 a0_0 a0_1 a0_2 l0_3 l0_4 l0_5 = some r) ∧ Aside0 (kq ≤ k2) ∧ Aside0 (wc.heap[gb101]? = some (.cells #[.int .i64 a0_0, .string a0_1, .int .i64 a0_2, (.slice A0_3 l0_3.length c0_3), (.slice A0_4 l0_4.length c0_4), (.slice A0_5 l0_5.length c0_5)] 33 (0, 0))) ∧ Aside0 (Below w.heap.size w wc))
       case first => as_aux_lemma =>
        (try simp only [List.append_eq, List.cons_append, List.nil_append])
        have H := HC16.out
        clear HC16
        have H' := Aside0.mk H
        clear H
        go_wp2
        go_loopg [1, 8] k2 (fun kq v1 v8 w' => ∃ (x1_3 : Int) (x8_3 : Int), v1 = .int .i64 x1_3 ∧ v8 = .int .i64 x8_3 ∧ Aside0 (gristmillmake_expr.l1 kq x1_3 a2 x8_3 a0_0 a0_1 a0_2 l0_3 l0_4 l0_5 = some r) ∧ Aside0 (kq ≤ k2) ∧ Aside0 (w'.heap[gb101]? = some (.cells #[.int .i64 a0_0, .string a0_1, .int .i64 a0_2, (.slice A0_3 l0_3.length c0_3), (.slice A0_4 l0_4.length c0_4), (.slice A0_5 l0_5.length c0_5)] 33 (0, 0))) ∧ Aside0 (Below w.heap.size w w'))
        case atStart => exact ⟨((wrap64 ((wrap64 (a1 - 1)) - (l0_3.length : Int)))), (0), (by first | rfl | (simp; done) | (simp [*]; done)), (by first | rfl | (simp; done) | (simp [*]; done)), H', ⟨Nat.le_refl _⟩, ⟨by (with_reducible repeat (first | refine blk_drewN ?_ _ | refine blk_drew ?_ | refine blk_alloc ?_ _)); exact BK101.out⟩, ⟨by repeat (first | (with_reducible first | exact HB.out | apply below_alloc | apply pw_below_drewN | apply below_drew1 | refine below_set ?_ GE101.out) | exact HB.out)⟩⟩
        case round =>
         clear H'
         try clear c1
         try clear p1
         try clear q1
         try clear hx1
         try clear p2
         try clear c3
         try clear p6
         try clear c7
         try clear c7b0
         try clear c8
         try clear c8b0
         try clear c10
         try clear p10
         try clear q10
         try clear hx10
         try clear c11
         try clear c11b0
         try clear c12
         try clear c12b0
         try clear c13
         try clear c13b0
         try clear c13b1
         try clear hcz14_0
         try clear hcz14_1
         try clear hcz14_2
         try clear hcz14_3
         try clear hcz14_4
         try clear hcz14_5
         try clear hcz15_0
         try clear hcz15_1
         try clear hcz15_2
         try clear hcz15_3
         try clear hcz15_4
         try clear hcz15_5
         try clear hcz17_0
         try clear hcz17_1
         try clear hcz17_2
         try clear hcz17_3
         try clear hcz17_4
         try clear hcz17_5
         try clear hcz6_0
         try clear hcz6_1
         try clear hcz6_2
         try clear hcz6_3
         try clear hcz6_4
         try clear hcz6_5
         try clear hcz9_0
         try clear hcz9_1
         try clear hcz9_2
         try clear hcz9_3
         try clear hcz9_4
         try clear hcz9_5
         try clear hfz14_0
         try clear hfz14_1
         try clear hfz14_2
         try clear hfz14_3
         try clear hfz14_4
         try clear hfz14_5
         try clear hfz15_0
         try clear hfz15_1
         try clear hfz15_2
         try clear hfz15_3
         try clear hfz15_4
         try clear hfz15_5
         try clear hfz17_0
         try clear hfz17_1
         try clear hfz17_2
         try clear hfz17_3
         try clear hfz17_4
         try clear hfz17_5
         try clear hfz6_0
         try clear hfz6_1
         try clear hfz6_2
         try clear hfz6_3
         try clear hfz6_4
         try clear hfz6_5
         try clear hfz9_0
         try clear hfz9_1
         try clear hfz9_2
         try clear hfz9_3
         try clear hfz9_4
         try clear hfz9_5
         try clear hx102_0
         try clear p102
         try clear p2
         try clear p6
         try clear q102
         obtain ⟨x1_3, x8_3, rfl, rfl, HA, HK3, BK101, HB⟩ := hrel
         cases gk with
         | zero => exact absurd HA.out (by simp [gristmillmake_expr.l1])
         | succ k3 =>
          have H := HA.out
          clear HA
          simp only [gristmillmake_expr.l1] at H
          by_cases c18 : x8_3 < (l0_4.length : Int)
          ·rw [if_pos c18] at H
           have c18b0 : decide (x8_3 < (l0_4.length : Int)) = true := decide_eq_true c18
           clear c18
           (first | rw [c18b0] | (simp only [i64_w, i32_w]; rw [c18b0]) | skip)
           by_cases c19 : x1_3 ≥ 0
           ·rw [if_pos c19] at H
            have c19b0 : decide (0 ≤ x1_3) = true := decide_eq_true c19
            clear c19
            by_cases c20 : 0 ≤ x8_3
            ·rw [if_pos c20] at H
             have c20b0 : decide (0 ≤ x8_3) = true := decide_eq_true c20
             clear c20
             replace H := Option.bind_eq_some_iff.mp H
             obtain ⟨t104, A210, H⟩ := H
             replace H : (gristmillmake_expr.l1 k3 t104 a2 (wrap64 (x8_3 + 1)) a0_0 a0_1 a0_2 l0_3 l0_4 l0_5) = some r := H
             have A21 := Aside0.mk A210
             clear A210
             have H' := Aside0.mk H
             clear H
             have hcz22_0 : wr.cell? ⟨gb101, 0, none⟩ = some (.int .i64 a0_0) := (blk_cell BK101.out 0).trans rfl
             have hcz22_1 : wr.cell? ⟨gb101, 1, none⟩ = some (.string a0_1) := (blk_cell BK101.out 1).trans rfl
             have hcz22_2 : wr.cell? ⟨gb101, 2, none⟩ = some (.int .i64 a0_2) := (blk_cell BK101.out 2).trans rfl
             have hcz22_3 : wr.cell? ⟨gb101, 3, none⟩ = some (.slice A0_3 l0_3.length c0_3) := (blk_cell BK101.out 3).trans rfl
             have hcz22_4 : wr.cell? ⟨gb101, 4, none⟩ = some (.slice A0_4 l0_4.length c0_4) := (blk_cell BK101.out 4).trans rfl
             have hcz22_5 : wr.cell? ⟨gb101, 5, none⟩ = some (.slice A0_5 l0_5.length c0_5) := (blk_cell BK101.out 5).trans rfl
             have hfz22_0 := blk_frozen BK101.out 0
             have hfz22_1 := blk_frozen BK101.out 1
             have hfz22_2 := blk_frozen BK101.out 2
             have hfz22_3 := blk_frozen BK101.out 3
             have hfz22_4 := blk_frozen BK101.out 4
             have hfz22_5 := blk_frozen BK101.out 5
             have p103 : 0 ≤ (x8_3 : Int) := of_decide_eq_true (by first | (with_reducible assumption) | assumption)
             have q103 : x8_3 < (l0_4.length : Int) := of_decide_eq_true (by first | (with_reducible assumption) | assumption)
             obtain ⟨ad103, A103_3, c103_3, A103_4, c103_4, A103_5, c103_5, e103, hx103_0, hx103_1, hx103_2, hx103_3, hx103_4, hx103_5, hl103_3, hi103_3, hl103_4, hi103_4, hl103_5, hi103_5⟩ := at_T33 HR0_4.out x8_3 p103 q103
             cases e103
             replace hx103_0 := (HB.out.cell (World.block_lt_of_cell? w _ hx103_0)).trans hx103_0
             replace hx103_1 := (HB.out.cell (World.block_lt_of_cell? w _ hx103_1)).trans hx103_1
             replace hx103_2 := (HB.out.cell (World.block_lt_of_cell? w _ hx103_2)).trans hx103_2
             replace hx103_3 := (HB.out.cell (World.block_lt_of_cell? w _ hx103_3)).trans hx103_3
             replace hx103_4 := (HB.out.cell (World.block_lt_of_cell? w _ hx103_4)).trans hx103_4
             replace hx103_5 := (HB.out.cell (World.block_lt_of_cell? w _ hx103_5)).trans hx103_5
             have HR103_3 := Aside0.mk hi103_3
             have HC103_3 := Aside0.mk hl103_3
             clear hi103_3 hl103_3
             have HR103_4 := Aside0.mk hi103_4
             have HC103_4 := Aside0.mk hl103_4
             clear hi103_4 hl103_4
             have HR103_5 := Aside0.mk hi103_5
             have HC103_5 := Aside0.mk hl103_5
             clear hi103_5 hl103_5
             replace p103 := eq_true p103
             replace q103 := eq_true q103
             go_wp2_with (first | ((with_reducible refine gate_callee (f := 34) rfl ?_); refine goesL_ (some 61) rfl rfl Tryd.func34 (by kernel_rfl) rfl #[.agg #[.int .i64 ((rd_T33 l0_4 x8_3).f0), .string ((rd_T33 l0_4 x8_3).f1), .int .i64 ((rd_T33 l0_4 x8_3).f2), .slice A103_3 ((rd_T33 l0_4 x8_3).f3).length c103_3, .slice A103_4 ((rd_T33 l0_4 x8_3).f4).length c103_4, .slice A103_5 ((rd_T33 l0_4 x8_3).f5).length c103_5], .int .i64 x1_3, .int .i64 (wrap64 (a2 + 1))] rfl (by (try simp only [List.map_toArray, List.map_cons, List.map_nil]); first | done | rfl | (simp only [List.length_drop, List.length_take]; rfl)) ?_; (with_reducible refine (ih k3 (by have := HJ3.out; have := HK2.out; have := HK3.out; omega) ((rd_T33 l0_4 x8_3).f0) ((rd_T33 l0_4 x8_3).f1) ((rd_T33 l0_4 x8_3).f2) _ _ ((rd_T33 l0_4 x8_3).f3) _ _ ((rd_T33 l0_4 x8_3).f4) _ _ ((rd_T33 l0_4 x8_3).f5) x1_3 (wrap64 (a2 + 1)) t104 _ ?side1 ?side2 ?side3 ?side4 ?side5 ?side6 A21.out).mono ?_); (case side1 => repeat (first | exact (Kd.C_below HR103_3.out HB.out) | (with_reducible refine Kd.C_alloc ?_ _) | (with_reducible refine Kd.C_drewN ?_ _) | (with_reducible refine Kd.C_drew ?_))); (case side2 => exact HC103_3.out); (case side3 => repeat (first | exact (Kd.C_below HR103_4.out HB.out) | (with_reducible refine Kd.C_alloc ?_ _) | (with_reducible refine Kd.C_drewN ?_ _) | (with_reducible refine Kd.C_drew ?_))); (case side4 => exact HC103_4.out); (case side5 => repeat (first | exact (Kd.C_below HR103_5.out HB.out) | (with_reducible refine Kd.C_alloc ?_ _) | (with_reducible refine Kd.C_drewN ?_ _) | (with_reducible refine Kd.C_drew ?_))); (case side6 => exact HC103_5.out); rintro e w23 ⟨rfl, hb⟩; refine ⟨_, rfl, ?_⟩; have n0_ := Aside0.mk (blk_below (g := gb101) (o := .cells #[.int .i64 a0_0, .string a0_1, .int .i64 a0_2, .slice A0_3 l0_3.length c0_3, .slice (some ad103) l0_4.length c0_4, .slice A0_5 l0_5.length c0_5] 33 (0, 0)) (by (with_reducible repeat (first | refine blk_drewN ?_ _ | refine blk_drew ?_ | refine blk_alloc ?_ _)); exact BK101.out) hb); have n1_ := Aside0.mk (below_step (by repeat (first | (with_reducible first | exact HB.out | apply below_alloc | apply pw_below_drewN | apply below_drew1 | refine below_set ?_ GE101.out) | exact HB.out)) hb); clear BK101; clear HB; have BK101 := n0_; have HB := n1_; clear n0_ n1_; (try clear hb); (try clear hb2); (try clear hk); (try clear hi)))
             go_roundg k3
             case measure => have := HJ3.out; have := HK2.out; have := HK3.out; omega
             case rel => exact ⟨(t104), (wrap64 (x8_3 + 1)), (by first | rfl | (simp; done) | (simp [*]; done)), (by first | rfl | (simp; done) | (simp [*]; done)), H', ⟨by have := HJ3.out; have := HK2.out; have := HK3.out; omega⟩, ⟨by (with_reducible repeat (first | refine blk_drewN ?_ _ | refine blk_drew ?_ | refine blk_alloc ?_ _)); exact BK101.out⟩, ⟨by repeat (first | (with_reducible first | exact HB.out | apply below_alloc | apply pw_below_drewN | apply below_drew1 | refine below_set ?_ GE101.out) | exact HB.out)⟩⟩
            ·rw [if_neg c20] at H
             exact absurd H (by simp)
           ·rw [if_neg c19] at H
            have c19b0 : decide (0 ≤ x1_3) = false := decide_eq_false c19
            clear c19
            have H' := Aside0.mk H
            clear H
            have hcz24_0 : wr.cell? ⟨gb101, 0, none⟩ = some (.int .i64 a0_0) := (blk_cell BK101.out 0).trans rfl
            have hcz24_1 : wr.cell? ⟨gb101, 1, none⟩ = some (.string a0_1) := (blk_cell BK101.out 1).trans rfl
            have hcz24_2 : wr.cell? ⟨gb101, 2, none⟩ = some (.int .i64 a0_2) := (blk_cell BK101.out 2).trans rfl
            have hcz24_3 : wr.cell? ⟨gb101, 3, none⟩ = some (.slice A0_3 l0_3.length c0_3) := (blk_cell BK101.out 3).trans rfl
            have hcz24_4 : wr.cell? ⟨gb101, 4, none⟩ = some (.slice A0_4 l0_4.length c0_4) := (blk_cell BK101.out 4).trans rfl
            have hcz24_5 : wr.cell? ⟨gb101, 5, none⟩ = some (.slice A0_5 l0_5.length c0_5) := (blk_cell BK101.out 5).trans rfl
            have hfz24_0 := blk_frozen BK101.out 0
            have hfz24_1 := blk_frozen BK101.out 1
            have hfz24_2 := blk_frozen BK101.out 2
            have hfz24_3 := blk_frozen BK101.out 3
            have hfz24_4 := blk_frozen BK101.out 4
            have hfz24_5 := blk_frozen BK101.out 5
            go_wp2
            go_meet
            case rel => exact ⟨_, (x1_3), (by first | rfl | (simp; done) | (simp [*]; done)), H', ⟨by have := HJ3.out; have := HK2.out; have := HK3.out; first | omega | exact Nat.le_refl _⟩, ⟨by (with_reducible repeat (first | refine blk_drewN ?_ _ | refine blk_drew ?_ | refine blk_alloc ?_ _)); exact BK101.out⟩, ⟨by repeat (first | (with_reducible first | exact HB.out | apply below_alloc | apply pw_below_drewN | apply below_drew1 | refine below_set ?_ GE101.out) | exact HB.out)⟩⟩
          ·rw [if_neg c18] at H
           have c18b0 : decide (x8_3 < (l0_4.length : Int)) = false := decide_eq_false c18
           clear c18
           (first | rw [c18b0] | (simp only [i64_w, i32_w]; rw [c18b0]) | skip)
           have H' := Aside0.mk H
           clear H
           have hcz25_0 : wr.cell? ⟨gb101, 0, none⟩ = some (.int .i64 a0_0) := (blk_cell BK101.out 0).trans rfl
           have hcz25_1 : wr.cell? ⟨gb101, 1, none⟩ = some (.string a0_1) := (blk_cell BK101.out 1).trans rfl
           have hcz25_2 : wr.cell? ⟨gb101, 2, none⟩ = some (.int .i64 a0_2) := (blk_cell BK101.out 2).trans rfl
           have hcz25_3 : wr.cell? ⟨gb101, 3, none⟩ = some (.slice A0_3 l0_3.length c0_3) := (blk_cell BK101.out 3).trans rfl
           have hcz25_4 : wr.cell? ⟨gb101, 4, none⟩ = some (.slice A0_4 l0_4.length c0_4) := (blk_cell BK101.out 4).trans rfl
           have hcz25_5 : wr.cell? ⟨gb101, 5, none⟩ = some (.slice A0_5 l0_5.length c0_5) := (blk_cell BK101.out 5).trans rfl
           have hfz25_0 := blk_frozen BK101.out 0
           have hfz25_1 := blk_frozen BK101.out 1
           have hfz25_2 := blk_frozen BK101.out 2
           have hfz25_3 := blk_frozen BK101.out 3
           have hfz25_4 := blk_frozen BK101.out 4
           have hfz25_5 := blk_frozen BK101.out 5
           go_wp2
           go_meet
           case rel => exact ⟨_, (x1_3), (by first | rfl | (simp; done) | (simp [*]; done)), H', ⟨by have := HJ3.out; have := HK2.out; have := HK3.out; first | omega | exact Nat.le_refl _⟩, ⟨by (with_reducible repeat (first | refine blk_drewN ?_ _ | refine blk_drew ?_ | refine blk_alloc ?_ _)); exact BK101.out⟩, ⟨by repeat (first | (with_reducible first | exact HB.out | apply below_alloc | apply pw_below_drewN | apply below_drew1 | refine below_set ?_ GE101.out) | exact HB.out)⟩⟩
       case rest =>
        clear HC16
        try clear c1
        try clear p1
        try clear q1
        try clear hx1
        try clear c2
        try clear p2
        try clear c3
        try clear p6
        try clear c7
        try clear c7b0
        try clear c8
        try clear c8b0
        try clear c10
        try clear p10
        try clear q10
        try clear hx10
        try clear c11
        try clear c11b0
        try clear c12
        try clear c12b0
        try clear c13
        try clear c13b0
        try clear c13b1
        try clear c18
        try clear c18b0
        try clear c19
        try clear c19b0
        try clear c20
        try clear c20b0
        try clear hcz14_0
        try clear hcz14_1
        try clear hcz14_2
        try clear hcz14_3
        try clear hcz14_4
        try clear hcz14_5
        try clear hcz15_0
        try clear hcz15_1
        try clear hcz15_2
        try clear hcz15_3
        try clear hcz15_4
        try clear hcz15_5
        try clear hcz17_0
        try clear hcz17_1
        try clear hcz17_2
        try clear hcz17_3
        try clear hcz17_4
        try clear hcz17_5
        try clear hcz22_0
        try clear hcz22_1
        try clear hcz22_2
        try clear hcz22_3
        try clear hcz22_4
        try clear hcz22_5
        try clear hcz24_0
        try clear hcz24_1
        try clear hcz24_2
        try clear hcz24_3
        try clear hcz24_4
        try clear hcz24_5
        try clear hcz25_0
        try clear hcz25_1
        try clear hcz25_2
        try clear hcz25_3
        try clear hcz25_4
        try clear hcz25_5
        try clear hcz6_0
        try clear hcz6_1
        try clear hcz6_2
        try clear hcz6_3
        try clear hcz6_4
        try clear hcz6_5
        try clear hcz9_0
        try clear hcz9_1
        try clear hcz9_2
        try clear hcz9_3
        try clear hcz9_4
        try clear hcz9_5
        try clear hfz14_0
        try clear hfz14_1
        try clear hfz14_2
        try clear hfz14_3
        try clear hfz14_4
        try clear hfz14_5
        try clear hfz15_0
        try clear hfz15_1
        try clear hfz15_2
        try clear hfz15_3
        try clear hfz15_4
        try clear hfz15_5
        try clear hfz17_0
        try clear hfz17_1
        try clear hfz17_2
        try clear hfz17_3
        try clear hfz17_4
        try clear hfz17_5
        try clear hfz22_0
        try clear hfz22_1
        try clear hfz22_2
        try clear hfz22_3
        try clear hfz22_4
        try clear hfz22_5
        try clear hfz24_0
        try clear hfz24_1
        try clear hfz24_2
        try clear hfz24_3
        try clear hfz24_4
        try clear hfz24_5
        try clear hfz25_0
        try clear hfz25_1
        try clear hfz25_2
        try clear hfz25_3
        try clear hfz25_4
        try clear hfz25_5
        try clear hfz6_0
        try clear hfz6_1
        try clear hfz6_2
        try clear hfz6_3
        try clear hfz6_4
        try clear hfz6_5
        try clear hfz9_0
        try clear hfz9_1
        try clear hfz9_2
        try clear hfz9_3
        try clear hfz9_4
        try clear hfz9_5
        try clear hx102_0
        try clear hx103_0
        try clear hx103_1
        try clear hx103_2
        try clear hx103_3
        try clear hx103_4
        try clear hx103_5
        try clear p1
        try clear p10
        try clear p102
        try clear p103
        try clear p2
        try clear p6
        try clear q1
        try clear q10
        try clear q102
        try clear q103
        obtain ⟨kq, x1_15, rfl, HA, HJ15, BK101, HB⟩ := hcut
        cases kq with
        | zero => exact absurd HA.out (by simp [gristmillmake_expr.j3])
        | succ kj15 =>
         have H := HA.out
         clear HA
         simp only [gristmillmake_expr.j3] at H
         have H' := Aside0.mk H
         clear H
         go_wp2
         go_loopg [1, 9] kj15 (fun kq v1 v9 w' => ∃ (x1_4 : Int) (x9_4 : Int), v1 = .int .i64 x1_4 ∧ v9 = .int .i64 x9_4 ∧ Aside0 (gristmillmake_expr.l2 kq x1_4 a2 x9_4 a0_0 a0_1 a0_2 l0_3 l0_4 l0_5 = some r) ∧ Aside0 (kq ≤ kj15) ∧ Aside0 (w'.heap[gb101]? = some (.cells #[.int .i64 a0_0, .string a0_1, .int .i64 a0_2, (.slice A0_3 l0_3.length c0_3), (.slice A0_4 l0_4.length c0_4), (.slice A0_5 l0_5.length c0_5)] 33 (0, 0))) ∧ Aside0 (Below w.heap.size w w'))
         case atStart => exact ⟨(x1_15), (0), (by first | rfl | (simp; done) | (simp [*]; done)), (by first | rfl | (simp; done) | (simp [*]; done)), H', ⟨Nat.le_refl _⟩, ⟨by (with_reducible repeat (first | refine blk_drewN ?_ _ | refine blk_drew ?_ | refine blk_alloc ?_ _)); exact BK101.out⟩, ⟨by repeat (first | (with_reducible first | exact HB.out | apply below_alloc | apply pw_below_drewN | apply below_drew1 | refine below_set ?_ GE101.out) | exact HB.out)⟩⟩
         case round =>
          clear H'
          try clear c1
          try clear p1
          try clear q1
          try clear hx1
          try clear c2
          try clear p2
          try clear c3
          try clear p6
          try clear c7
          try clear c7b0
          try clear c8
          try clear c8b0
          try clear c10
          try clear p10
          try clear q10
          try clear hx10
          try clear c11
          try clear c11b0
          try clear c12
          try clear c12b0
          try clear c13
          try clear c13b0
          try clear c13b1
          try clear c18
          try clear c18b0
          try clear c19
          try clear c19b0
          try clear c20
          try clear c20b0
          try clear hcz14_0
          try clear hcz14_1
          try clear hcz14_2
          try clear hcz14_3
          try clear hcz14_4
          try clear hcz14_5
          try clear hcz15_0
          try clear hcz15_1
          try clear hcz15_2
          try clear hcz15_3
          try clear hcz15_4
          try clear hcz15_5
          try clear hcz17_0
          try clear hcz17_1
          try clear hcz17_2
          try clear hcz17_3
          try clear hcz17_4
          try clear hcz17_5
          try clear hcz22_0
          try clear hcz22_1
          try clear hcz22_2
          try clear hcz22_3
          try clear hcz22_4
          try clear hcz22_5
          try clear hcz24_0
          try clear hcz24_1
          try clear hcz24_2
          try clear hcz24_3
          try clear hcz24_4
          try clear hcz24_5
          try clear hcz25_0
          try clear hcz25_1
          try clear hcz25_2
          try clear hcz25_3
          try clear hcz25_4
          try clear hcz25_5
          try clear hcz6_0
          try clear hcz6_1
          try clear hcz6_2
          try clear hcz6_3
          try clear hcz6_4
          try clear hcz6_5
          try clear hcz9_0
          try clear hcz9_1
          try clear hcz9_2
          try clear hcz9_3
          try clear hcz9_4
          try clear hcz9_5
          try clear hfz14_0
          try clear hfz14_1
          try clear hfz14_2
          try clear hfz14_3
          try clear hfz14_4
          try clear hfz14_5
          try clear hfz15_0
          try clear hfz15_1
          try clear hfz15_2
          try clear hfz15_3
          try clear hfz15_4
          try clear hfz15_5
          try clear hfz17_0
          try clear hfz17_1
          try clear hfz17_2
          try clear hfz17_3
          try clear hfz17_4
          try clear hfz17_5
          try clear hfz22_0
          try clear hfz22_1
          try clear hfz22_2
          try clear hfz22_3
          try clear hfz22_4
          try clear hfz22_5
          try clear hfz24_0
          try clear hfz24_1
          try clear hfz24_2
          try clear hfz24_3
          try clear hfz24_4
          try clear hfz24_5
          try clear hfz25_0
          try clear hfz25_1
          try clear hfz25_2
          try clear hfz25_3
          try clear hfz25_4
          try clear hfz25_5
          try clear hfz6_0
          try clear hfz6_1
          try clear hfz6_2
          try clear hfz6_3
          try clear hfz6_4
          try clear hfz6_5
          try clear hfz9_0
          try clear hfz9_1
          try clear hfz9_2
          try clear hfz9_3
          try clear hfz9_4
          try clear hfz9_5
          try clear hx102_0
          try clear hx103_0
          try clear hx103_1
          try clear hx103_2
          try clear hx103_3
          try clear hx103_4
          try clear hx103_5
          try clear p1
          try clear p10
          try clear p102
          try clear p103
          try clear p2
          try clear p6
          try clear q1
          try clear q10
          try clear q102
          try clear q103
          obtain ⟨x1_4, x9_4, rfl, rfl, HA, HK4, BK101, HB⟩ := hrel
          cases gk with
          | zero => exact absurd HA.out (by simp [gristmillmake_expr.l2])
          | succ k4 =>
           have H := HA.out
           clear HA
           simp only [gristmillmake_expr.l2] at H
           by_cases c26 : x9_4 < (l0_5.length : Int)
           ·rw [if_pos c26] at H
            have c26b0 : decide (x9_4 < (l0_5.length : Int)) = true := decide_eq_true c26
            clear c26
            by_cases c27 : x1_4 ≥ 0
            ·rw [if_pos c27] at H
             have c27b0 : decide (0 ≤ x1_4) = true := decide_eq_true c27
             clear c27
             by_cases c28 : 0 ≤ x9_4
             ·rw [if_pos c28] at H
              have c28b0 : decide (0 ≤ x9_4) = true := decide_eq_true c28
              clear c28
              replace H := Option.bind_eq_some_iff.mp H
              obtain ⟨t107, A290, H⟩ := H
              replace H : (gristmillmake_expr.l2 k4 t107 a2 (wrap64 (x9_4 + 1)) a0_0 a0_1 a0_2 l0_3 l0_4 l0_5) = some r := H
              have A29 := Aside0.mk A290
              clear A290
              have H' := Aside0.mk H
              clear H
              have hcz30_0 : wr.cell? ⟨gb101, 0, none⟩ = some (.int .i64 a0_0) := (blk_cell BK101.out 0).trans rfl
              have hcz30_1 : wr.cell? ⟨gb101, 1, none⟩ = some (.string a0_1) := (blk_cell BK101.out 1).trans rfl
              have hcz30_2 : wr.cell? ⟨gb101, 2, none⟩ = some (.int .i64 a0_2) := (blk_cell BK101.out 2).trans rfl
              have hcz30_3 : wr.cell? ⟨gb101, 3, none⟩ = some (.slice A0_3 l0_3.length c0_3) := (blk_cell BK101.out 3).trans rfl
              have hcz30_4 : wr.cell? ⟨gb101, 4, none⟩ = some (.slice A0_4 l0_4.length c0_4) := (blk_cell BK101.out 4).trans rfl
              have hcz30_5 : wr.cell? ⟨gb101, 5, none⟩ = some (.slice A0_5 l0_5.length c0_5) := (blk_cell BK101.out 5).trans rfl
              have hfz30_0 := blk_frozen BK101.out 0
              have hfz30_1 := blk_frozen BK101.out 1
              have hfz30_2 := blk_frozen BK101.out 2
              have hfz30_3 := blk_frozen BK101.out 3
              have hfz30_4 := blk_frozen BK101.out 4
              have hfz30_5 := blk_frozen BK101.out 5
              try go_wp2
              have n0_ := Aside0.mk (blk_drew BK101.out)
              have n1_ := Aside0.mk (below_drew1 HB.out)
              clear BK101
              clear HB
              have BK101 := n0_
              have HB := n1_
              clear n0_ n1_
              have p105 : 0 ≤ (x9_4 : Int) := of_decide_eq_true (by first | (with_reducible assumption) | assumption)
              have q105 : x9_4 < (l0_5.length : Int) := of_decide_eq_true (by first | (with_reducible assumption) | assumption)
              obtain ⟨ad105, A105_3, c105_3, A105_7, c105_7, A105_8, c105_8, A105_9, c105_9, e105, hx105_0, hx105_1, hx105_2, hx105_3, hx105_4, hx105_5, hx105_6, hx105_7, hx105_8, hx105_9, hl105_3, hi105_3, hl105_7, hi105_7, hl105_8, hi105_8, hl105_9, hi105_9⟩ := at_T40 HR0_5.out x9_4 p105 q105
              have hw105_9 := hx105_9
              have hw105_8 := hx105_8
              have hw105_7 := hx105_7
              have hw105_6 := hx105_6
              have hw105_5 := hx105_5
              have hw105_4 := hx105_4
              have hw105_3 := hx105_3
              have hw105_2 := hx105_2
              have hw105_1 := hx105_1
              have hw105_0 := hx105_0
              cases e105
              replace hx105_0 := (HB.out.cell (World.block_lt_of_cell? w _ hx105_0)).trans hx105_0
              replace hx105_1 := (HB.out.cell (World.block_lt_of_cell? w _ hx105_1)).trans hx105_1
              replace hx105_2 := (HB.out.cell (World.block_lt_of_cell? w _ hx105_2)).trans hx105_2
              replace hx105_3 := (HB.out.cell (World.block_lt_of_cell? w _ hx105_3)).trans hx105_3
              replace hx105_4 := (HB.out.cell (World.block_lt_of_cell? w _ hx105_4)).trans hx105_4
              replace hx105_5 := (HB.out.cell (World.block_lt_of_cell? w _ hx105_5)).trans hx105_5
              replace hx105_6 := (HB.out.cell (World.block_lt_of_cell? w _ hx105_6)).trans hx105_6
              replace hx105_7 := (HB.out.cell (World.block_lt_of_cell? w _ hx105_7)).trans hx105_7
              replace hx105_8 := (HB.out.cell (World.block_lt_of_cell? w _ hx105_8)).trans hx105_8
              replace hx105_9 := (HB.out.cell (World.block_lt_of_cell? w _ hx105_9)).trans hx105_9
              have HR105_3 := Aside0.mk hi105_3
              have HC105_3 := Aside0.mk hl105_3
              clear hi105_3 hl105_3
              have HR105_7 := Aside0.mk hi105_7
              have HC105_7 := Aside0.mk hl105_7
              clear hi105_7 hl105_7
              have HR105_8 := Aside0.mk hi105_8
              have HC105_8 := Aside0.mk hl105_8
              clear hi105_8 hl105_8
              have HR105_9 := Aside0.mk hi105_9
              have HC105_9 := Aside0.mk hl105_9
              clear hi105_9 hl105_9
              replace p105 := eq_true p105
              replace q105 := eq_true q105
              have p106 : 0 ≤ (x9_4 : Int) := of_decide_eq_true (by first | (with_reducible assumption) | assumption)
              have q106 : x9_4 < (l0_5.length : Int) := of_decide_eq_true (by first | (with_reducible assumption) | assumption)
              obtain ⟨ad106, A106_3, c106_3, A106_7, c106_7, A106_8, c106_8, A106_9, c106_9, e106, hx106_0, hx106_1, hx106_2, hx106_3, hx106_4, hx106_5, hx106_6, hx106_7, hx106_8, hx106_9, hl106_3, hi106_3, hl106_7, hi106_7, hl106_8, hi106_8, hl106_9, hi106_9⟩ := at_T40 HR0_5.out x9_4 p106 q106
              have hw106_9 := hx106_9
              have hw106_8 := hx106_8
              have hw106_7 := hx106_7
              have hw106_6 := hx106_6
              have hw106_5 := hx106_5
              have hw106_4 := hx106_4
              have hw106_3 := hx106_3
              have hw106_2 := hx106_2
              have hw106_1 := hx106_1
              have hw106_0 := hx106_0
              obtain rfl : ad105 = ad106 := (by injection e106)
              replace hx106_0 := (HB.out.cell (World.block_lt_of_cell? w _ hx106_0)).trans hx106_0
              replace hx106_1 := (HB.out.cell (World.block_lt_of_cell? w _ hx106_1)).trans hx106_1
              replace hx106_2 := (HB.out.cell (World.block_lt_of_cell? w _ hx106_2)).trans hx106_2
              replace hx106_3 := (HB.out.cell (World.block_lt_of_cell? w _ hx106_3)).trans hx106_3
              replace hx106_4 := (HB.out.cell (World.block_lt_of_cell? w _ hx106_4)).trans hx106_4
              replace hx106_5 := (HB.out.cell (World.block_lt_of_cell? w _ hx106_5)).trans hx106_5
              replace hx106_6 := (HB.out.cell (World.block_lt_of_cell? w _ hx106_6)).trans hx106_6
              replace hx106_7 := (HB.out.cell (World.block_lt_of_cell? w _ hx106_7)).trans hx106_7
              replace hx106_8 := (HB.out.cell (World.block_lt_of_cell? w _ hx106_8)).trans hx106_8
              replace hx106_9 := (HB.out.cell (World.block_lt_of_cell? w _ hx106_9)).trans hx106_9
              have HR106_3 := Aside0.mk hi106_3
              have HC106_3 := Aside0.mk hl106_3
              clear hi106_3 hl106_3
              have HR106_7 := Aside0.mk hi106_7
              have HC106_7 := Aside0.mk hl106_7
              clear hi106_7 hl106_7
              have HR106_8 := Aside0.mk hi106_8
              have HC106_8 := Aside0.mk hl106_8
              clear hi106_8 hl106_8
              have HR106_9 := Aside0.mk hi106_9
              have HC106_9 := Aside0.mk hl106_9
              clear hi106_9 hl106_9
              replace p106 := eq_true p106
              replace q106 := eq_true q106
              have ea_ := Option.some.inj (hx105_3.symm.trans hx106_3)
              injection ea_ with ea_ en_ ec_
              subst ea_
              subst ec_
              clear en_
              have ea_ := Option.some.inj (hx105_7.symm.trans hx106_7)
              injection ea_ with ea_ en_ ec_
              subst ea_
              subst ec_
              clear en_
              have ea_ := Option.some.inj (hx105_8.symm.trans hx106_8)
              injection ea_ with ea_ en_ ec_
              subst ea_
              subst ec_
              clear en_
              have ea_ := Option.some.inj (hx105_9.symm.trans hx106_9)
              injection ea_ with ea_ en_ ec_
              subst ea_
              subst ec_
              clear en_
              refine start_ (n := 20) (S := fun w' => w'.cell? ⟨gb101, 0, none⟩ = some (.int .i64 a0_0) ∧ w'.cell? ⟨gb101, 1, none⟩ = some (.string a0_1) ∧ w'.cell? ⟨gb101, 2, none⟩ = some (.int .i64 a0_2) ∧ w'.cell? ⟨gb101, 3, none⟩ = some (.slice A0_3 l0_3.length c0_3) ∧ w'.cell? ⟨gb101, 4, none⟩ = some (.slice A0_4 l0_4.length c0_4) ∧ w'.cell? ⟨gb101, 5, none⟩ = some (.slice (some ad105) l0_5.length c0_5) ∧ w'.cell? (ad105.add ((x9_4).toNat * 10)) = some (.int .i64 ((rd_T40 l0_5 x9_4).f0)) ∧ w'.cell? ⟨(ad105.add ((x9_4).toNat * 10)).block, (ad105.add ((x9_4).toNat * 10)).off + 1, none⟩ = some (.string ((rd_T40 l0_5 x9_4).f1)) ∧ w'.cell? ⟨(ad105.add ((x9_4).toNat * 10)).block, (ad105.add ((x9_4).toNat * 10)).off + 2, none⟩ = some (.int .i64 ((rd_T40 l0_5 x9_4).f2)) ∧ w'.cell? ⟨(ad105.add ((x9_4).toNat * 10)).block, (ad105.add ((x9_4).toNat * 10)).off + 3, none⟩ = some (.slice A105_3 ((rd_T40 l0_5 x9_4).f3).length c105_3) ∧ w'.cell? ⟨(ad105.add ((x9_4).toNat * 10)).block, (ad105.add ((x9_4).toNat * 10)).off + 4, none⟩ = some (.int .i64 ((rd_T40 l0_5 x9_4).f4.f0)) ∧ w'.cell? ⟨(ad105.add ((x9_4).toNat * 10)).block, (ad105.add ((x9_4).toNat * 10)).off + 5, none⟩ = some (.string ((rd_T40 l0_5 x9_4).f4.f1)) ∧ w'.cell? ⟨(ad105.add ((x9_4).toNat * 10)).block, (ad105.add ((x9_4).toNat * 10)).off + 6, none⟩ = some (.int .i64 ((rd_T40 l0_5 x9_4).f4.f2)) ∧ w'.cell? ⟨(ad105.add ((x9_4).toNat * 10)).block, (ad105.add ((x9_4).toNat * 10)).off + 7, none⟩ = some (.slice A105_7 ((rd_T40 l0_5 x9_4).f4.f3).length c105_7) ∧ w'.cell? ⟨(ad105.add ((x9_4).toNat * 10)).block, (ad105.add ((x9_4).toNat * 10)).off + 8, none⟩ = some (.slice A105_8 ((rd_T40 l0_5 x9_4).f4.f4).length c105_8) ∧ w'.cell? ⟨(ad105.add ((x9_4).toNat * 10)).block, (ad105.add ((x9_4).toNat * 10)).off + 9, none⟩ = some (.slice A105_9 ((rd_T40 l0_5 x9_4).f4.f5).length c105_9) ∧ w'.cell? (ad105.add ((x9_4).toNat * 10)) = some (.int .i64 ((rd_T40 l0_5 x9_4).f0)) ∧ w'.cell? ⟨(ad105.add ((x9_4).toNat * 10)).block, (ad105.add ((x9_4).toNat * 10)).off + 1, none⟩ = some (.string ((rd_T40 l0_5 x9_4).f1)) ∧ w'.cell? ⟨(ad105.add ((x9_4).toNat * 10)).block, (ad105.add ((x9_4).toNat * 10)).off + 2, none⟩ = some (.int .i64 ((rd_T40 l0_5 x9_4).f2)) ∧ w'.cell? ⟨(ad105.add ((x9_4).toNat * 10)).block, (ad105.add ((x9_4).toNat * 10)).off + 3, none⟩ = some (.slice A105_3 ((rd_T40 l0_5 x9_4).f3).length c105_3) ∧ w'.cell? ⟨(ad105.add ((x9_4).toNat * 10)).block, (ad105.add ((x9_4).toNat * 10)).off + 4, none⟩ = some (.int .i64 ((rd_T40 l0_5 x9_4).f4.f0)) ∧ w'.cell? ⟨(ad105.add ((x9_4).toNat * 10)).block, (ad105.add ((x9_4).toNat * 10)).off + 5, none⟩ = some (.string ((rd_T40 l0_5 x9_4).f4.f1)) ∧ w'.cell? ⟨(ad105.add ((x9_4).toNat * 10)).block, (ad105.add ((x9_4).toNat * 10)).off + 6, none⟩ = some (.int .i64 ((rd_T40 l0_5 x9_4).f4.f2)) ∧ w'.cell? ⟨(ad105.add ((x9_4).toNat * 10)).block, (ad105.add ((x9_4).toNat * 10)).off + 7, none⟩ = some (.slice A105_7 ((rd_T40 l0_5 x9_4).f4.f3).length c105_7) ∧ w'.cell? ⟨(ad105.add ((x9_4).toNat * 10)).block, (ad105.add ((x9_4).toNat * 10)).off + 8, none⟩ = some (.slice A105_8 ((rd_T40 l0_5 x9_4).f4.f4).length c105_8) ∧ w'.cell? ⟨(ad105.add ((x9_4).toNat * 10)).block, (ad105.add ((x9_4).toNat * 10)).off + 9, none⟩ = some (.slice A105_9 ((rd_T40 l0_5 x9_4).f4.f5).length c105_9)) (ds := []) (bm 20 0) (by kernel_rfl) rfl rfl ⟨(blk_cell BK101.out 0).trans rfl, (blk_cell BK101.out 1).trans rfl, (blk_cell BK101.out 2).trans rfl, (blk_cell BK101.out 3).trans rfl, (blk_cell BK101.out 4).trans rfl, (blk_cell BK101.out 5).trans rfl, ((HB.out.cell (World.block_lt_of_cell? w _ hw105_0)).trans hw105_0), ((HB.out.cell (World.block_lt_of_cell? w _ hw105_1)).trans hw105_1), ((HB.out.cell (World.block_lt_of_cell? w _ hw105_2)).trans hw105_2), ((HB.out.cell (World.block_lt_of_cell? w _ hw105_3)).trans hw105_3), ((HB.out.cell (World.block_lt_of_cell? w _ hw105_4)).trans hw105_4), ((HB.out.cell (World.block_lt_of_cell? w _ hw105_5)).trans hw105_5), ((HB.out.cell (World.block_lt_of_cell? w _ hw105_6)).trans hw105_6), ((HB.out.cell (World.block_lt_of_cell? w _ hw105_7)).trans hw105_7), ((HB.out.cell (World.block_lt_of_cell? w _ hw105_8)).trans hw105_8), ((HB.out.cell (World.block_lt_of_cell? w _ hw105_9)).trans hw105_9), ((HB.out.cell (World.block_lt_of_cell? w _ hw106_0)).trans hw106_0), ((HB.out.cell (World.block_lt_of_cell? w _ hw106_1)).trans hw106_1), ((HB.out.cell (World.block_lt_of_cell? w _ hw106_2)).trans hw106_2), ((HB.out.cell (World.block_lt_of_cell? w _ hw106_3)).trans hw106_3), ((HB.out.cell (World.block_lt_of_cell? w _ hw106_4)).trans hw106_4), ((HB.out.cell (World.block_lt_of_cell? w _ hw106_5)).trans hw106_5), ((HB.out.cell (World.block_lt_of_cell? w _ hw106_6)).trans hw106_6), ((HB.out.cell (World.block_lt_of_cell? w _ hw106_7)).trans hw106_7), ((HB.out.cell (World.block_lt_of_cell? w _ hw106_8)).trans hw106_8), ((HB.out.cell (World.block_lt_of_cell? w _ hw106_9)).trans hw106_9)⟩ (fun hHeld => ?_); refine with_tabW gristmillmake_expr.tab16 gristmillmake_expr.bits16 (fun HT_ HW_ => ?_)
              generalize wr.drew = w31 at BK101 HB HR105_3 HR105_7 HR105_8 HR105_9 HR106_3 HR106_7 HR106_8 HR106_9 hx105_0 hx105_1 hx105_2 hx105_3 hx105_4 hx105_5 hx105_6 hx105_7 hx105_8 hx105_9 hx106_0 hx106_1 hx106_2 hx106_3 hx106_4 hx106_5 hx106_6 hx106_7 hx106_8 hx106_9 hHeld ⊢
              refine pure_ (i := 0) (N := some 73) (v := ?_) (a' := ?_) (bm 20 1) rfl rfl (any_of HT_.out (by kernel_rfl)) (fun _ _ _ h => h) (Or.inl ⟨by rfl, ?_⟩) ?_ ?_
              rotate_left
              ·intro w'
               go_simp
               with_reducible rfl
              rotate_left
              ·simp only [Act.put, sA, sB, sC, i64_w, i32_w]
               rfl
              refine pure_ (i := 2) (N := some 75) (v := ?_) (a' := ?_) (bm 20 5) rfl rfl (any_of HT_.out (by kernel_rfl)) (fun _ _ _ h => h) (Or.inl ⟨by rfl, ?_⟩) ?_ ?_
              rotate_left
              ·intro w'
               go_simp
               with_reducible rfl
              rotate_left
              ·simp only [Act.put, sA, sB, sC, i64_w, i32_w]
               rfl
              refine pure_ (i := 6) (N := some 79) (v := ?_) (a' := ?_) (bm 20 69) rfl rfl (any_of HT_.out (by kernel_rfl)) (fun _ _ _ h => h) (Or.inl ⟨by rfl, ?_⟩) ?_ ?_
              rotate_left
              ·intro w'
               go_simp
               with_reducible rfl
              rotate_left
              ·simp only [Act.put, sA, sB, sC, i64_w, i32_w]
               rfl
              refine pure_ (i := 7) (N := some 80) (v := ?_) (a' := ?_) (bm 20 197) rfl rfl (any_of HT_.out (by kernel_rfl)) (fun _ _ _ h => h) (Or.inl ⟨by rfl, ?_⟩) ?_ ?_
              rotate_left
              ·intro w'
               go_simp
               with_reducible rfl
              rotate_left
              ·simp only [Act.put, sA, sB, sC, i64_w, i32_w]
               rfl
              refine pure_ (i := 8) (N := some 81) (v := ?_) (a' := ?_) (bm 20 453) rfl rfl (any_of HT_.out (by kernel_rfl)) (fun _ _ _ h => h) (Or.inl ⟨by rfl, ?_⟩) ?_ ?_
              rotate_left
              ·intro w'
               go_simp
               with_reducible rfl
              rotate_left
              ·simp only [Act.put, sA, sB, sC, i64_w, i32_w]
               rfl
              refine pure_ (i := 10) (N := some 83) (v := ?_) (a' := ?_) (bm 20 1477) rfl rfl (any_of HT_.out (by kernel_rfl)) (fun _ _ _ h => h) (Or.inl ⟨by rfl, ?_⟩) ?_ ?_
              rotate_left
              ·intro w'
               go_simp
               with_reducible rfl
              rotate_left
              ·simp only [Act.put, sA, sB, sC, i64_w, i32_w]
               rfl
              refine pure_ (i := 16) (N := some 89) (v := ?_) (a' := ?_) (bm 20 67013) rfl rfl (any_of HT_.out (by kernel_rfl)) (fun _ _ _ h => h) (Or.inl ⟨by rfl, ?_⟩) ?_ ?_
              rotate_left
              ·intro w'
               go_simp
               with_reducible rfl
              rotate_left
              ·simp only [Act.put, sA, sB, sC, i64_w, i32_w]
               rfl
              refine pure_ (i := 17) (N := some 90) (v := ?_) (a' := ?_) (bm 20 198085) rfl rfl (any_of HT_.out (by kernel_rfl)) (fun _ _ _ h => h) (Or.inl ⟨by rfl, ?_⟩) ?_ ?_
              rotate_left
              ·intro w'
               go_simp
               with_reducible rfl
              rotate_left
              ·simp only [Act.put, sA, sB, sC, i64_w, i32_w]
               rfl
              refine take_ (i := 1) (N := some 74) (v := ?_) (a' := ?_) (bm 20 198087) rfl rfl (take_ofW HT_.out HW_.out (by kernel_rfl)) (fun _ _ _ h => h) (Or.inl ⟨by rfl, ?_⟩) hHeld ?_ ?_
              rotate_left
              ·rintro w' ⟨s0, s1, s2, s3, s4, s5, s6, s7, s8, s9, s10, s11, s12, s13, s14, s15, s16, s17, s18, s19, s20, s21, s22, s23, s24, s25⟩
               go_simp
               with_reducible rfl
              rotate_left
              ·simp only [Act.put, sA, sB, sC, i64_w, i32_w]
               rfl
              refine pure_ (i := 3) (N := some 76) (v := ?_) (a' := ?_) (bm 20 198095) rfl rfl (any_of HT_.out (by kernel_rfl)) (fun _ _ _ h => h) (Or.inl ⟨by rfl, ?_⟩) ?_ ?_
              rotate_left
              ·intro w'
               go_simp
               with_reducible rfl
              rotate_left
              ·simp only [Act.put, sA, sB, sC, i64_w, i32_w]
               rfl
              refine pure_ (i := 4) (N := some 77) (v := ?_) (a' := ?_) (bm 20 198111) rfl rfl (any_of HT_.out (by kernel_rfl)) (fun _ _ _ h => h) (Or.inl ⟨by rfl, ?_⟩) ?_ ?_
              rotate_left
              ·intro w'
               go_simp
               with_reducible rfl
              rotate_left
              ·simp only [Act.put, sA, sB, sC, i64_w, i32_w]
               rfl
              refine take_ (i := 5) (N := some 78) (v := ?_) (a' := ?_) (bm 20 198143) rfl rfl (take_ofW HT_.out HW_.out (by kernel_rfl)) (fun _ _ _ h => h) (Or.inl ⟨by rfl, ?_⟩) hHeld ?_ ?_
              rotate_left
              ·rintro w' ⟨s0, s1, s2, s3, s4, s5, s6, s7, s8, s9, s10, s11, s12, s13, s14, s15, s16, s17, s18, s19, s20, s21, s22, s23, s24, s25⟩
               go_simp
               with_reducible rfl
              rotate_left
              ·simp only [Act.put, sA, sB, sC, i64_w, i32_w]
               rfl
              refine take_ (i := 9) (N := some 82) (v := ?_) (a' := ?_) (bm 20 198655) rfl rfl (take_ofW HT_.out HW_.out (by kernel_rfl)) (fun _ _ _ h => h) (Or.inl ⟨by rfl, ?_⟩) hHeld ?_ ?_
              rotate_left
              ·rintro w' ⟨s0, s1, s2, s3, s4, s5, s6, s7, s8, s9, s10, s11, s12, s13, s14, s15, s16, s17, s18, s19, s20, s21, s22, s23, s24, s25⟩
               go_simp
               with_reducible rfl
              rotate_left
              ·simp only [Act.put, sA, sB, sC, i64_w, i32_w]
               rfl
              refine pure_ (i := 11) (N := some 84) (v := ?_) (a' := ?_) (bm 20 200703) rfl rfl (any_of HT_.out (by kernel_rfl)) (fun _ _ _ h => h) (Or.inl ⟨by rfl, ?_⟩) ?_ ?_
              rotate_left
              ·intro w'
               go_simp
               with_reducible rfl
              rotate_left
              ·simp only [Act.put, sA, sB, sC, i64_w, i32_w]
               rfl
              refine pure_ (i := 12) (N := some 85) (v := ?_) (a' := ?_) (bm 20 204799) rfl rfl (any_of HT_.out (by kernel_rfl)) (fun _ _ _ h => h) (Or.inl ⟨by rfl, ?_⟩) ?_ ?_
              rotate_left
              ·intro w'
               go_simp
               with_reducible rfl
              rotate_left
              ·simp only [Act.put, sA, sB, sC, i64_w, i32_w]
               rfl
              refine take_ (i := 13) (N := some 86) (v := ?_) (a' := ?_) (bm 20 212991) rfl rfl (take_ofW HT_.out HW_.out (by kernel_rfl)) (fun _ _ _ h => h) (Or.inl ⟨by rfl, ?_⟩) hHeld ?_ ?_
              rotate_left
              ·rintro w' ⟨s0, s1, s2, s3, s4, s5, s6, s7, s8, s9, s10, s11, s12, s13, s14, s15, s16, s17, s18, s19, s20, s21, s22, s23, s24, s25⟩
               go_simp
               with_reducible rfl
              rotate_left
              ·simp only [Act.put, sA, sB, sC, i64_w, i32_w]
               rfl
              refine pure_ (i := 14) (N := some 87) (v := ?_) (a' := ?_) (bm 20 229375) rfl rfl (any_of HT_.out (by kernel_rfl)) (fun _ _ _ h => h) (Or.inl ⟨by rfl, ?_⟩) ?_ ?_
              rotate_left
              ·intro w'
               go_simp
               with_reducible rfl
              rotate_left
              ·simp only [Act.put, sA, sB, sC, i64_w, i32_w]
               rfl
              refine pure_ (i := 15) (N := some 88) (v := ?_) (a' := ?_) (bm 20 262143) rfl rfl (any_of HT_.out (by kernel_rfl)) (fun _ _ _ h => h) (Or.inl ⟨by rfl, ?_⟩) ?_ ?_
              rotate_left
              ·intro w'
               go_simp
               with_reducible rfl
              rotate_left
              ·simp only [Act.put, sA, sB, sC, i64_w, i32_w]
               rfl
              refine one_ (i := 18) (N := some 91) (bm 20 524287) rfl rfl (one_of HT_.out (by kernel_rfl)) (by decide) (fun K hK => ?_)
              refine goes_ Tryd.func34 (by kernel_rfl) rfl #[.agg #[.int .i64 ((rd_T40 l0_5 x9_4).f4.f0), .string ((rd_T40 l0_5 x9_4).f4.f1), .int .i64 ((rd_T40 l0_5 x9_4).f4.f2), .slice A105_7 ((rd_T40 l0_5 x9_4).f4.f3).length c105_7, .slice A105_8 ((rd_T40 l0_5 x9_4).f4.f4).length c105_8, .slice A105_9 ((rd_T40 l0_5 x9_4).f4.f5).length c105_9], .int .i64 (wrap64 ((wrap64 (x1_4 - 1)) - (((rd_T40 l0_5 x9_4).f3).length : Int))), .int .i64 (wrap64 (a2 + 1))] (by rfl) rfl rfl (by (try simp only [List.map_toArray, List.map_cons, List.map_nil]); first | done | rfl | (simp only [List.length_drop, List.length_take]; rfl)) ?_
              with_reducible refine (ih k4 (by have := HJ3.out; have := HK2.out; have := HJ15.out; have := HK4.out; omega) ((rd_T40 l0_5 x9_4).f4.f0) ((rd_T40 l0_5 x9_4).f4.f1) ((rd_T40 l0_5 x9_4).f4.f2) _ _ ((rd_T40 l0_5 x9_4).f4.f3) _ _ ((rd_T40 l0_5 x9_4).f4.f4) _ _ ((rd_T40 l0_5 x9_4).f4.f5) (wrap64 ((wrap64 (x1_4 - 1)) - (((rd_T40 l0_5 x9_4).f3).length : Int))) (wrap64 (a2 + 1)) t107 _ ?side7 ?side8 ?side9 ?side10 ?side11 ?side12 A29.out).mono ?_
              (case side7 => repeat (first | exact (Kd.C_below HR105_7.out HB.out) | (with_reducible refine Kd.C_alloc ?_ _) | (with_reducible refine Kd.C_drewN ?_ _) | (with_reducible refine Kd.C_drew ?_)))
              (case side8 => exact HC105_7.out)
              (case side9 => repeat (first | exact (Kd.C_below HR105_8.out HB.out) | (with_reducible refine Kd.C_alloc ?_ _) | (with_reducible refine Kd.C_drewN ?_ _) | (with_reducible refine Kd.C_drew ?_)))
              (case side10 => exact HC105_8.out)
              (case side11 => repeat (first | exact (Kd.C_below HR105_9.out HB.out) | (with_reducible refine Kd.C_alloc ?_ _) | (with_reducible refine Kd.C_drewN ?_ _) | (with_reducible refine Kd.C_drew ?_)))
              (case side12 => exact HC105_9.out)
              rintro e w32 ⟨rfl, hb⟩
              refine ⟨_, rfl, ?_⟩
              have n0_ := Aside0.mk (blk_below (g := gb101) (o := .cells #[.int .i64 a0_0, .string a0_1, .int .i64 a0_2, .slice A0_3 l0_3.length c0_3, .slice A0_4 l0_4.length c0_4, .slice (some ad105) l0_5.length c0_5] 33 (0, 0)) (by (with_reducible repeat (first | refine blk_drewN ?_ _ | refine blk_drew ?_ | refine blk_alloc ?_ _)); exact BK101.out) hb)
              have n1_ := Aside0.mk (below_step (by repeat (first | (with_reducible first | exact HB.out | apply below_alloc | apply pw_below_drewN | apply below_drew1 | refine below_set ?_ GE101.out) | exact HB.out)) hb)
              clear BK101
              clear HB
              have BK101 := n0_
              have HB := n1_
              clear n0_ n1_
              (try clear hb)
              (try clear hb2)
              (try clear hk)
              (try clear hi)
              refine hK.out _ _ ⟨(blk_cell BK101.out 0).trans rfl, (blk_cell BK101.out 1).trans rfl, (blk_cell BK101.out 2).trans rfl, (blk_cell BK101.out 3).trans rfl, (blk_cell BK101.out 4).trans rfl, (blk_cell BK101.out 5).trans rfl, ((HB.out.cell (World.block_lt_of_cell? w _ hw105_0)).trans hw105_0), ((HB.out.cell (World.block_lt_of_cell? w _ hw105_1)).trans hw105_1), ((HB.out.cell (World.block_lt_of_cell? w _ hw105_2)).trans hw105_2), ((HB.out.cell (World.block_lt_of_cell? w _ hw105_3)).trans hw105_3), ((HB.out.cell (World.block_lt_of_cell? w _ hw105_4)).trans hw105_4), ((HB.out.cell (World.block_lt_of_cell? w _ hw105_5)).trans hw105_5), ((HB.out.cell (World.block_lt_of_cell? w _ hw105_6)).trans hw105_6), ((HB.out.cell (World.block_lt_of_cell? w _ hw105_7)).trans hw105_7), ((HB.out.cell (World.block_lt_of_cell? w _ hw105_8)).trans hw105_8), ((HB.out.cell (World.block_lt_of_cell? w _ hw105_9)).trans hw105_9), ((HB.out.cell (World.block_lt_of_cell? w _ hw106_0)).trans hw106_0), ((HB.out.cell (World.block_lt_of_cell? w _ hw106_1)).trans hw106_1), ((HB.out.cell (World.block_lt_of_cell? w _ hw106_2)).trans hw106_2), ((HB.out.cell (World.block_lt_of_cell? w _ hw106_3)).trans hw106_3), ((HB.out.cell (World.block_lt_of_cell? w _ hw106_4)).trans hw106_4), ((HB.out.cell (World.block_lt_of_cell? w _ hw106_5)).trans hw106_5), ((HB.out.cell (World.block_lt_of_cell? w _ hw106_6)).trans hw106_6), ((HB.out.cell (World.block_lt_of_cell? w _ hw106_7)).trans hw106_7), ((HB.out.cell (World.block_lt_of_cell? w _ hw106_8)).trans hw106_8), ((HB.out.cell (World.block_lt_of_cell? w _ hw106_9)).trans hw106_9)⟩ (fun hHeld => ?_)
              clear hK K
              refine norm_ (a' := ?_) ?_ ?_
              rotate_left
              ·show Act.put _ (some 91) _ = _
               simp only [Act.put, sA, sB, sC, i64_w, i32_w]
               rfl
              refine pure_ (i := 19) (N := some 1) (v := ?_) (a' := ?_) (bm 20 1048575) rfl rfl (any_of HT_.out (by kernel_rfl)) (fun _ _ _ h => h) (Or.inl ⟨by rfl, ?_⟩) ?_ ?_
              rotate_left
              ·intro w'
               go_simp
               with_reducible rfl
              rotate_left
              ·simp only [Act.put, sA, sB, sC, i64_w, i32_w]
               rfl
              refine done_ (done_of HT_.out (by kernel_rfl)) ?_
              try go_wp2
              go_roundg k4
              case measure => have := HJ3.out; have := HK2.out; have := HJ15.out; have := HK4.out; omega
              case rel => exact ⟨(t107), (wrap64 (x9_4 + 1)), (by first | rfl | (simp; done) | (simp [*]; done)), (by first | rfl | (simp; done) | (simp [*]; done)), H', ⟨by have := HJ3.out; have := HK2.out; have := HJ15.out; have := HK4.out; omega⟩, ⟨by (with_reducible repeat (first | refine blk_drewN ?_ _ | refine blk_drew ?_ | refine blk_alloc ?_ _)); exact BK101.out⟩, ⟨by repeat (first | (with_reducible first | exact HB.out | apply below_alloc | apply pw_below_drewN | apply below_drew1 | refine below_set ?_ GE101.out) | exact HB.out)⟩⟩
             ·rw [if_neg c28] at H
              exact absurd H (by simp)
            ·rw [if_neg c27] at H
             have c27b0 : decide (0 ≤ x1_4) = false := decide_eq_false c27
             clear c27
             obtain rfl := Option.some.inj H
             have hcz33_0 : wr.cell? ⟨gb101, 0, none⟩ = some (.int .i64 a0_0) := (blk_cell BK101.out 0).trans rfl
             have hcz33_1 : wr.cell? ⟨gb101, 1, none⟩ = some (.string a0_1) := (blk_cell BK101.out 1).trans rfl
             have hcz33_2 : wr.cell? ⟨gb101, 2, none⟩ = some (.int .i64 a0_2) := (blk_cell BK101.out 2).trans rfl
             have hcz33_3 : wr.cell? ⟨gb101, 3, none⟩ = some (.slice A0_3 l0_3.length c0_3) := (blk_cell BK101.out 3).trans rfl
             have hcz33_4 : wr.cell? ⟨gb101, 4, none⟩ = some (.slice A0_4 l0_4.length c0_4) := (blk_cell BK101.out 4).trans rfl
             have hcz33_5 : wr.cell? ⟨gb101, 5, none⟩ = some (.slice A0_5 l0_5.length c0_5) := (blk_cell BK101.out 5).trans rfl
             have hfz33_0 := blk_frozen BK101.out 0
             have hfz33_1 := blk_frozen BK101.out 1
             have hfz33_2 := blk_frozen BK101.out 2
             have hfz33_3 := blk_frozen BK101.out 3
             have hfz33_4 := blk_frozen BK101.out 4
             have hfz33_5 := blk_frozen BK101.out 5
             go_wp2
             go_ret
             exact ⟨by first | rfl | (simp [errW_none, errW_some] <;> rfl) | (simp [*, errW_none, errW_some] <;> rfl) | (simp [errW_none, errW_some] <;> (rw [Bool.eq_iff_iff]; simp; done)), by repeat (first | (with_reducible first | exact HB.out | apply below_alloc | apply pw_below_drewN | apply below_drew1 | refine below_set ?_ GE101.out) | exact HB.out)⟩
           ·rw [if_neg c26] at H
            have c26b0 : decide (x9_4 < (l0_5.length : Int)) = false := decide_eq_false c26
            clear c26
            obtain rfl := Option.some.inj H
            have hcz34_0 : wr.cell? ⟨gb101, 0, none⟩ = some (.int .i64 a0_0) := (blk_cell BK101.out 0).trans rfl
            have hcz34_1 : wr.cell? ⟨gb101, 1, none⟩ = some (.string a0_1) := (blk_cell BK101.out 1).trans rfl
            have hcz34_2 : wr.cell? ⟨gb101, 2, none⟩ = some (.int .i64 a0_2) := (blk_cell BK101.out 2).trans rfl
            have hcz34_3 : wr.cell? ⟨gb101, 3, none⟩ = some (.slice A0_3 l0_3.length c0_3) := (blk_cell BK101.out 3).trans rfl
            have hcz34_4 : wr.cell? ⟨gb101, 4, none⟩ = some (.slice A0_4 l0_4.length c0_4) := (blk_cell BK101.out 4).trans rfl
            have hcz34_5 : wr.cell? ⟨gb101, 5, none⟩ = some (.slice A0_5 l0_5.length c0_5) := (blk_cell BK101.out 5).trans rfl
            have hfz34_0 := blk_frozen BK101.out 0
            have hfz34_1 := blk_frozen BK101.out 1
            have hfz34_2 := blk_frozen BK101.out 2
            have hfz34_3 := blk_frozen BK101.out 3
            have hfz34_4 := blk_frozen BK101.out 4
            have hfz34_5 := blk_frozen BK101.out 5
            go_wp2
            go_ret
            exact ⟨by first | rfl | (simp [errW_none, errW_some] <;> rfl) | (simp [*, errW_none, errW_some] <;> rfl) | (simp [errW_none, errW_some] <;> (rw [Bool.eq_iff_iff]; simp; done)), by repeat (first | (with_reducible first | exact HB.out | apply below_alloc | apply pw_below_drewN | apply below_drew1 | refine below_set ?_ GE101.out) | exact HB.out)⟩
end Go.Proofs.YtmoeekidmkhkoaaDoor.PFreeA

