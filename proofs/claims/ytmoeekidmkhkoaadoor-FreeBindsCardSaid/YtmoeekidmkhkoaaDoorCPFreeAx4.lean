/- For each Go function that the laws of this group reach: a plain function with the same answers, and the proof that the call comes to them wherever the plain function has an answer. No other condition. (Laid by a program of this session.) -/
import Derived.Test.YtmoeekidmkhkoaaDoorCPFreeAx0
import Derived.Test.YtmoeekidmkhkoaaDoorCPFreeAx2
import Derived.Test.YtmoeekidmkhkoaaDoorCPFreeAx3
import Derived.Test.YtmoeekidmkhkoaaDoorCExt
namespace Go.Proofs.YtmoeekidmkhkoaaDoor.PFreeA
open Go.RowKit Go.Proofs.YtmoeekidmkhkoaaDoorW.PrintWords Go.Proofs.YtmoeekidmkhkoaaDoorW.PrintLast Go.Proofs.YtmoeekidmkhkoaaDoorW.PrintMore Go.Proofs.YtmoeekidmkhkoaaDoor.Ext
attribute [local go_sem] max2_int min2_int max_two min_two max_three min_three max_four min_four   -- for this text's walks alone
set_option linter.unusedVariables false
set_option linter.unusedSimpArgs false
mutual
def gristmillref5_form.j0 : Nat → Int → Int → Int → Int → Bool → Int → ByteArray → Int → List ByteArray → List (S33) → List (S40) → Option (Bool)
 | 0, _, _, _, _, _, _, _, _, _, _, _ => none
 | k + 1, x3, x4, x5, x17, x18, x126000, x126001, x126002, x126003, x126004, x126005 => if x18 = true then (if (wrap64 ((wrap64 (x3 + x4)) + x5)) = 0 then (some (x126002 == 0)) else (some false)) else (if x17 = 2 then (if (wrap64 ((wrap64 (x3 + x4)) + x5)) = 0 then (some x126001.toList.isEmpty) else (some false)) else (if x17 = 3 then (if (wrap64 ((wrap64 (x3 + x4)) + x5)) = 0 then (if x126001.toList = ([] : List UInt8) then ((gristmillref1_Canon.f (IntKind.u64.wrap (x126002))).bind fun t126 => (some (t126 == (IntKind.u64.wrap (x126002))))) else (some false)) else (some false)) else (if x17 = 5 then (if (wrap64 (x3 + x5)) = 0 then (if x126001.toList = ([] : List UInt8) then (if x126002 = 0 then (some (decide (x4 ≥ 2))) else (some false)) else (some false)) else (some false)) else (if x17 = 6 then (if x5 = 0 then (if x126001.toList = ([] : List UInt8) then (if x126002 = 0 then (if x3 ≥ 1 then (some (x4 == 1)) else (some false)) else (some false)) else (some false)) else (some false)) else (if x17 = 7 then (if x5 = 0 then (if x126001.toList = ([] : List UInt8) then (if x126002 = 0 then (if x3 ≥ 1 then (some (x4 == (wrap64 (x3 + 1)))) else (some false)) else (some false)) else (some false)) else (some false)) else (if x17 = 8 then (if x3 > 0 then (gristmillref5_form.j1 k x5 true x126000 x126001 x126002 x126003 x126004 x126005) else (if x126001.toList = ([] : List UInt8) then (if x126002 = 0 then (if x4 = 1 then (gristmillref5_form.j1 k x5 (x5 == 0) x126000 x126001 x126002 x126003 x126004 x126005) else (gristmillref5_form.j1 k x5 true x126000 x126001 x126002 x126003 x126004 x126005)) else (gristmillref5_form.j1 k x5 true x126000 x126001 x126002 x126003 x126004 x126005)) else (gristmillref5_form.j1 k x5 true x126000 x126001 x126002 x126003 x126004 x126005))) else (if x17 = 9 then (if (wrap64 (x3 + x5)) = 0 then (if x126002 = 0 then ((gristmillref1_Arity.f k x126001).bind fun t129 => (if t129 > 0 then ((gristmillref1_Arity.f k x126001).bind fun t130 => (some (t130 == x4))) else (some false))) else (some false)) else (some false)) else (if x17 = 10 then (if (wrap64 ((wrap64 (x3 + x4)) + x5)) = 0 then (if x126001.toList = ([] : List UInt8) then (if x126002 ≥ 0 then (some (decide (x126002 < 2147483648))) else (some false)) else (some false)) else (some false)) else (some false)))))))))
def gristmillref5_form.j1 : Nat → Int → Bool → Int → ByteArray → Int → List ByteArray → List (S33) → List (S40) → Option (Bool)
 | 0, _, _, _, _, _, _, _, _ => none
 | k + 1, x5, x155, x126000, x126001, x126002, x126003, x126004, x126005 => if x155 = true then (some false) else (gristmillref5_form.l0 k x5 0 x126000 x126001 x126002 x126003 x126004 x126005)
def gristmillref5_form.l0 : Nat → Int → Int → Int → ByteArray → Int → List ByteArray → List (S33) → List (S40) → Option (Bool)
 | 0, _, _, _, _, _, _, _, _ => none
 | k + 1, x5, x6, x126000, x126001, x126002, x126003, x126004, x126005 => if x6 < x5 then (if 0 ≤ x6 then (if x6 < (x126005.length : Int) then ((gristmillref5_takes.f ((rd_T40 x126005 x6).f0) ((rd_T40 x126005 x6).f1) ((rd_T40 x126005 x6).f2) ((rd_T40 x126005 x6).f3) ((rd_T40 x126005 x6).f4.f0) ((rd_T40 x126005 x6).f4.f1) ((rd_T40 x126005 x6).f4.f2) ((rd_T40 x126005 x6).f4.f3) ((rd_T40 x126005 x6).f4.f4) ((rd_T40 x126005 x6).f4.f5)).bind fun t128 => (if t128 = true then (gristmillref5_form.l0 k x5 (wrap64 (x6 + 1)) x126000 x126001 x126002 x126003 x126004 x126005) else (some false))) else (none)) else (none)) else (some true)
end
def gristmillref5_form.f (k : Nat) (a0_0 : Int) (a0_1 : ByteArray) (a0_2 : Int) (l0_3 : List ByteArray) (l0_4 : List (S33)) (l0_5 : List (S40)) : Option (Bool) := if a0_0 = 1 then (gristmillref5_form.j0 k (l0_3.length : Int) (l0_4.length : Int) (l0_5.length : Int) a0_0 (a0_0 == 1) a0_0 a0_1 a0_2 l0_3 l0_4 l0_5) else (gristmillref5_form.j0 k (l0_3.length : Int) (l0_4.length : Int) (l0_5.length : Int) a0_0 (a0_0 == 4) a0_0 a0_1 a0_2 l0_3 l0_4 l0_5)
theorem gristmillref5_form.mono_l : ∀ k, (∀ y0 y1 y2 y3 y4 y5 y6 y7 y8 y9 y10, LeO (gristmillref5_form.j0 k y0 y1 y2 y3 y4 y5 y6 y7 y8 y9 y10) (gristmillref5_form.j0 (k + 1) y0 y1 y2 y3 y4 y5 y6 y7 y8 y9 y10)) ∧ (∀ y0 y1 y2 y3 y4 y5 y6 y7, LeO (gristmillref5_form.j1 k y0 y1 y2 y3 y4 y5 y6 y7) (gristmillref5_form.j1 (k + 1) y0 y1 y2 y3 y4 y5 y6 y7)) ∧ (∀ y0 y1 y2 y3 y4 y5 y6 y7, LeO (gristmillref5_form.l0 k y0 y1 y2 y3 y4 y5 y6 y7) (gristmillref5_form.l0 (k + 1) y0 y1 y2 y3 y4 y5 y6 y7))
 | 0 => ⟨fun _ _ _ _ _ _ _ _ _ _ _ r h => by simp [gristmillref5_form.j0] at h, fun _ _ _ _ _ _ _ _ r h => by simp [gristmillref5_form.j1] at h, fun _ _ _ _ _ _ _ _ r h => by simp [gristmillref5_form.l0] at h⟩
 | k + 1 => by
  obtain ⟨ih0, ih1, ih2⟩ := gristmillref5_form.mono_l k
  refine ⟨?_, ?_, ?_⟩
  ·intro y0 y1 y2 y3 y4 y5 y6 y7 y8 y9 y10
   unfold gristmillref5_form.j0
   repeat' first
   | (with_reducible exact ih0 _ _ _ _ _ _ _ _ _ _ _)
   | (with_reducible exact ih1 _ _ _ _ _ _ _ _)
   | (with_reducible exact ih2 _ _ _ _ _ _ _ _)
   | (with_reducible exact gristmillref1_Arity.mono _ _)
   | (with_reducible exact LeO.refl _)
   | (with_reducible exact LeO.none _)
   | (with_reducible refine LeO.ite ?_ ?_)
   | (with_reducible refine LeO.bind ?_ (fun _ => ?_))
   | exact ih0 _ _ _ _ _ _ _ _ _ _ _
   | exact ih1 _ _ _ _ _ _ _ _
   | exact ih2 _ _ _ _ _ _ _ _
   | exact gristmillref1_Arity.mono _ _
   | exact LeO.none _
   | refine LeO.ite ?_ ?_
   | refine LeO.bind ?_ (fun _ => ?_)
  ·intro y0 y1 y2 y3 y4 y5 y6 y7
   unfold gristmillref5_form.j1
   repeat' first
   | (with_reducible exact ih0 _ _ _ _ _ _ _ _ _ _ _)
   | (with_reducible exact ih1 _ _ _ _ _ _ _ _)
   | (with_reducible exact ih2 _ _ _ _ _ _ _ _)
   | (with_reducible exact gristmillref1_Arity.mono _ _)
   | (with_reducible exact LeO.refl _)
   | (with_reducible exact LeO.none _)
   | (with_reducible refine LeO.ite ?_ ?_)
   | (with_reducible refine LeO.bind ?_ (fun _ => ?_))
   | exact ih0 _ _ _ _ _ _ _ _ _ _ _
   | exact ih1 _ _ _ _ _ _ _ _
   | exact ih2 _ _ _ _ _ _ _ _
   | exact gristmillref1_Arity.mono _ _
   | exact LeO.none _
   | refine LeO.ite ?_ ?_
   | refine LeO.bind ?_ (fun _ => ?_)
  ·intro y0 y1 y2 y3 y4 y5 y6 y7
   unfold gristmillref5_form.l0
   repeat' first
   | (with_reducible exact ih0 _ _ _ _ _ _ _ _ _ _ _)
   | (with_reducible exact ih1 _ _ _ _ _ _ _ _)
   | (with_reducible exact ih2 _ _ _ _ _ _ _ _)
   | (with_reducible exact gristmillref1_Arity.mono _ _)
   | (with_reducible exact LeO.refl _)
   | (with_reducible exact LeO.none _)
   | (with_reducible refine LeO.ite ?_ ?_)
   | (with_reducible refine LeO.bind ?_ (fun _ => ?_))
   | exact ih0 _ _ _ _ _ _ _ _ _ _ _
   | exact ih1 _ _ _ _ _ _ _ _
   | exact ih2 _ _ _ _ _ _ _ _
   | exact gristmillref1_Arity.mono _ _
   | exact LeO.none _
   | refine LeO.ite ?_ ?_
   | refine LeO.bind ?_ (fun _ => ?_)
theorem gristmillref5_form.mono : ∀ a0 a1 a2 a3 a4 a5 k, LeO (gristmillref5_form.f k a0 a1 a2 a3 a4 a5) (gristmillref5_form.f (k + 1) a0 a1 a2 a3 a4 a5) := by
 intro a0 a1 a2 a3 a4 a5 k
 obtain ⟨ih0, ih1, ih2⟩ := gristmillref5_form.mono_l k
 unfold gristmillref5_form.f
 repeat' first
   | (with_reducible exact ih0 _ _ _ _ _ _ _ _ _ _ _)
   | (with_reducible exact ih1 _ _ _ _ _ _ _ _)
   | (with_reducible exact ih2 _ _ _ _ _ _ _ _)
   | (with_reducible exact gristmillref1_Arity.mono _ _)
   | (with_reducible exact LeO.refl _)
   | (with_reducible exact LeO.none _)
   | (with_reducible refine LeO.ite ?_ ?_)
   | (with_reducible refine LeO.bind ?_ (fun _ => ?_))
   | exact ih0 _ _ _ _ _ _ _ _ _ _ _
   | exact ih1 _ _ _ _ _ _ _ _
   | exact ih2 _ _ _ _ _ _ _ _
   | exact gristmillref1_Arity.mono _ _
   | exact LeO.none _
   | refine LeO.ite ?_ ?_
   | refine LeO.bind ?_ (fun _ => ?_)
set_option maxHeartbeats 8000000 in
set_option maxRecDepth 100000 in
theorem gristmillref5_form.calls (k : Nat) (a0_0 : Int) (a0_1 : ByteArray) (a0_2 : Int) (A0_3 : Option Addr) (c0_3 : Nat) (l0_3 : List ByteArray) (A0_4 : Option Addr) (c0_4 : Nat) (l0_4 : List (S33)) (A0_5 : Option Addr) (c0_5 : Nat) (l0_5 : List (S40)) (r : Bool) (w : World) (hr0_3 : Kd.C Kd.string w A0_3 l0_3.length l0_3) (hc0_3 : l0_3.length ≤ c0_3) (hr0_4 : Kd.C k33 w A0_4 l0_4.length l0_4) (hc0_4 : l0_4.length ≤ c0_4) (hr0_5 : Kd.C k40 w A0_5 l0_5.length l0_5) (hc0_5 : l0_5.length ≤ c0_5) (h : gristmillref5_form.f k a0_0 a0_1 a0_2 l0_3 l0_4 l0_5 = some r) :
  Calls Tryd.prog 46 #[.agg #[.int .i64 a0_0, .string a0_1, .int .i64 a0_2, .slice A0_3 l0_3.length c0_3, .slice A0_4 l0_4.length c0_4, .slice A0_5 l0_5.length c0_5]] w fun e w' => e = .returned (.bool r) ∧ Below w.heap.size w w' := by
 have hu33 := Tryd.underlying33
 have hu40 := Tryd.underlying40
 have HR0_3 := Aside0.mk hr0_3
 have HC0_3 := Aside0.mk hc0_3
 clear hr0_3 hc0_3
 have HR0_4 := Aside0.mk hr0_4
 have HC0_4 := Aside0.mk hc0_4
 clear hr0_4 hc0_4
 have HR0_5 := Aside0.mk hr0_5
 have HC0_5 := Aside0.mk hc0_5
 clear hr0_5 hc0_5
 have HB := Aside0.mk (Below.refl w.heap.size w)
 have H : (if a0_0 = 1 then (gristmillref5_form.j0 k (l0_3.length : Int) (l0_4.length : Int) (l0_5.length : Int) a0_0 (a0_0 == 1) a0_0 a0_1 a0_2 l0_3 l0_4 l0_5) else (gristmillref5_form.j0 k (l0_3.length : Int) (l0_4.length : Int) (l0_5.length : Int) a0_0 (a0_0 == 4) a0_0 a0_1 a0_2 l0_3 l0_4 l0_5)) = some r := h
 clear h
 have HC2 := Aside0.mk H
 clear H
 go_enter Tryd.func46, Tryd.ntmps46
 go_upto_if 18 with (first | ((with_reducible refine gate_dst (N := 1) rfl ?_); refine box_event ?hg (N := 1) ?hd (cs := #[.int .i64 a0_0, .string a0_1, .int .i64 a0_2, .slice A0_3 l0_3.length c0_3, .slice A0_4 l0_4.length c0_4, .slice A0_5 l0_5.length c0_5]) (t := 33) ?hr ?_; (case hd => rfl); (case hg => rfl); (case hr => first | (go_simp; done) | (go_simp; rfl)); intro gb125 hg w3 hbox hb; have n0_ := Aside0.mk (below_step (by repeat (first | (with_reducible first | exact HB.out | apply below_alloc | apply pw_below_drewN | apply below_drew1) | exact HB.out)) hb); have n1_ := Aside0.mk (hbox); have n2_ := Aside0.mk ((by rw [hg]; exact (below_size (by repeat (first | (with_reducible first | exact HB.out | apply below_alloc | apply pw_below_drewN | apply below_drew1) | exact HB.out))) : w.heap.size ≤ gb125)); have n3_ := Aside0.mk ((by rw [hg]; exact (below_size (by repeat (first | (with_reducible first | exact HB.out | apply below_alloc | apply pw_below_drewN | apply below_drew1) | exact HB.out))) : w.heap.size ≤ gb125)); clear HB; have HB := n0_; have BK125 := n1_; have GW125 := n2_; have GE125 := n3_; clear n0_ n1_ n2_ n3_; clear hb hbox hg; have hcz4_0 : w3.cell? ⟨gb125, 0, none⟩ = some (.int .i64 a0_0) := (blk_cell BK125.out 0).trans rfl; have hcz4_1 : w3.cell? ⟨gb125, 1, none⟩ = some (.string a0_1) := (blk_cell BK125.out 1).trans rfl; have hcz4_2 : w3.cell? ⟨gb125, 2, none⟩ = some (.int .i64 a0_2) := (blk_cell BK125.out 2).trans rfl; have hcz4_3 : w3.cell? ⟨gb125, 3, none⟩ = some (.slice A0_3 l0_3.length c0_3) := (blk_cell BK125.out 3).trans rfl; have hcz4_4 : w3.cell? ⟨gb125, 4, none⟩ = some (.slice A0_4 l0_4.length c0_4) := (blk_cell BK125.out 4).trans rfl; have hcz4_5 : w3.cell? ⟨gb125, 5, none⟩ = some (.slice A0_5 l0_5.length c0_5) := (blk_cell BK125.out 5).trans rfl; have hfz4_0 := blk_frozen BK125.out 0; have hfz4_1 := blk_frozen BK125.out 1; have hfz4_2 := blk_frozen BK125.out 2; have hfz4_3 := blk_frozen BK125.out 3; have hfz4_4 := blk_frozen BK125.out 4; have hfz4_5 := blk_frozen BK125.out 5))
 repeat (go_quiet (first | ((with_reducible refine gate_dst (N := 1) rfl ?_); refine box_event ?hg (N := 1) ?hd (cs := #[.int .i64 a0_0, .string a0_1, .int .i64 a0_2, .slice A0_3 l0_3.length c0_3, .slice A0_4 l0_4.length c0_4, .slice A0_5 l0_5.length c0_5]) (t := 33) ?hr ?_; (case hd => rfl); (case hg => rfl); (case hr => first | (go_simp; done) | (go_simp; rfl)); intro gb125 hg w3 hbox hb; have n0_ := Aside0.mk (below_step (by repeat (first | (with_reducible first | exact HB.out | apply below_alloc | apply pw_below_drewN | apply below_drew1) | exact HB.out)) hb); have n1_ := Aside0.mk (hbox); have n2_ := Aside0.mk ((by rw [hg]; exact (below_size (by repeat (first | (with_reducible first | exact HB.out | apply below_alloc | apply pw_below_drewN | apply below_drew1) | exact HB.out))) : w.heap.size ≤ gb125)); have n3_ := Aside0.mk ((by rw [hg]; exact (below_size (by repeat (first | (with_reducible first | exact HB.out | apply below_alloc | apply pw_below_drewN | apply below_drew1) | exact HB.out))) : w.heap.size ≤ gb125)); clear HB; have HB := n0_; have BK125 := n1_; have GW125 := n2_; have GE125 := n3_; clear n0_ n1_ n2_ n3_; clear hb hbox hg; have hcz4_0 : w3.cell? ⟨gb125, 0, none⟩ = some (.int .i64 a0_0) := (blk_cell BK125.out 0).trans rfl; have hcz4_1 : w3.cell? ⟨gb125, 1, none⟩ = some (.string a0_1) := (blk_cell BK125.out 1).trans rfl; have hcz4_2 : w3.cell? ⟨gb125, 2, none⟩ = some (.int .i64 a0_2) := (blk_cell BK125.out 2).trans rfl; have hcz4_3 : w3.cell? ⟨gb125, 3, none⟩ = some (.slice A0_3 l0_3.length c0_3) := (blk_cell BK125.out 3).trans rfl; have hcz4_4 : w3.cell? ⟨gb125, 4, none⟩ = some (.slice A0_4 l0_4.length c0_4) := (blk_cell BK125.out 4).trans rfl; have hcz4_5 : w3.cell? ⟨gb125, 5, none⟩ = some (.slice A0_5 l0_5.length c0_5) := (blk_cell BK125.out 5).trans rfl; have hfz4_0 := blk_frozen BK125.out 0; have hfz4_1 := blk_frozen BK125.out 1; have hfz4_2 := blk_frozen BK125.out 2; have hfz4_3 := blk_frozen BK125.out 3; have hfz4_4 := blk_frozen BK125.out 4; have hfz4_5 := blk_frozen BK125.out 5)); go_upto_if 18 with (first | ((with_reducible refine gate_dst (N := 1) rfl ?_); refine box_event ?hg (N := 1) ?hd (cs := #[.int .i64 a0_0, .string a0_1, .int .i64 a0_2, .slice A0_3 l0_3.length c0_3, .slice A0_4 l0_4.length c0_4, .slice A0_5 l0_5.length c0_5]) (t := 33) ?hr ?_; (case hd => rfl); (case hg => rfl); (case hr => first | (go_simp; done) | (go_simp; rfl)); intro gb125 hg w3 hbox hb; have n0_ := Aside0.mk (below_step (by repeat (first | (with_reducible first | exact HB.out | apply below_alloc | apply pw_below_drewN | apply below_drew1) | exact HB.out)) hb); have n1_ := Aside0.mk (hbox); have n2_ := Aside0.mk ((by rw [hg]; exact (below_size (by repeat (first | (with_reducible first | exact HB.out | apply below_alloc | apply pw_below_drewN | apply below_drew1) | exact HB.out))) : w.heap.size ≤ gb125)); have n3_ := Aside0.mk ((by rw [hg]; exact (below_size (by repeat (first | (with_reducible first | exact HB.out | apply below_alloc | apply pw_below_drewN | apply below_drew1) | exact HB.out))) : w.heap.size ≤ gb125)); clear HB; have HB := n0_; have BK125 := n1_; have GW125 := n2_; have GE125 := n3_; clear n0_ n1_ n2_ n3_; clear hb hbox hg; have hcz4_0 : w3.cell? ⟨gb125, 0, none⟩ = some (.int .i64 a0_0) := (blk_cell BK125.out 0).trans rfl; have hcz4_1 : w3.cell? ⟨gb125, 1, none⟩ = some (.string a0_1) := (blk_cell BK125.out 1).trans rfl; have hcz4_2 : w3.cell? ⟨gb125, 2, none⟩ = some (.int .i64 a0_2) := (blk_cell BK125.out 2).trans rfl; have hcz4_3 : w3.cell? ⟨gb125, 3, none⟩ = some (.slice A0_3 l0_3.length c0_3) := (blk_cell BK125.out 3).trans rfl; have hcz4_4 : w3.cell? ⟨gb125, 4, none⟩ = some (.slice A0_4 l0_4.length c0_4) := (blk_cell BK125.out 4).trans rfl; have hcz4_5 : w3.cell? ⟨gb125, 5, none⟩ = some (.slice A0_5 l0_5.length c0_5) := (blk_cell BK125.out 5).trans rfl; have hfz4_0 := blk_frozen BK125.out 0; have hfz4_1 := blk_frozen BK125.out 1; have hfz4_2 := blk_frozen BK125.out 2; have hfz4_3 := blk_frozen BK125.out 3; have hfz4_4 := blk_frozen BK125.out 4; have hfz4_5 := blk_frozen BK125.out 5)))
 (try simp only [Act.put, List.setIfInBounds_toArray, List.set_cons_zero, List.set_cons_succ])
 go_cut [18] (fun v18 wc => ∃ (kq : Nat) (x18_1 : Bool), v18 = .bool x18_1 ∧ Aside0 (gristmillref5_form.j0 kq (l0_3.length : Int) (l0_4.length : Int) (l0_5.length : Int) a0_0 x18_1 a0_0 a0_1 a0_2 l0_3 l0_4 l0_5 = some r) ∧ Aside0 (kq ≤ k) ∧ Aside0 (wc.heap[gb125]? = some (.cells #[.int .i64 a0_0, .string a0_1, .int .i64 a0_2, (.slice A0_3 l0_3.length c0_3), (.slice A0_4 l0_4.length c0_4), (.slice A0_5 l0_5.length c0_5)] 33 (0, 0))) ∧ Aside0 (Below w.heap.size w wc))
 case first => as_aux_lemma =>
  (try simp only [List.append_eq, List.cons_append, List.nil_append])
  have H := HC2.out
  clear HC2
  by_cases c5 : a0_0 = 1
  ·rw [if_pos c5] at H
   have c5b0 : (a0_0 == 1) = true := beq_iff_eq.mpr c5
   have c5b1 : (a0_0 != 1) = false := bne_eq_false_iff_eq.mpr c5
   clear c5
   (first | rw [c5b0] | (simp only [i64_w, i32_w]; rw [c5b0]) | skip)
   have H' := Aside0.mk H
   clear H
   go_wp2
   repeat (go_quiet (fail); try go_wp2)
   go_meet
   case rel => exact ⟨_, ((a0_0 == 1)), (by first | rfl | (simp; done) | (simp [*]; done)), H', ⟨by first | omega | exact Nat.le_refl _⟩, ⟨by (with_reducible repeat (first | refine blk_drewN ?_ _ | refine blk_drew ?_ | refine blk_alloc ?_ _)); exact BK125.out⟩, ⟨by repeat (first | (with_reducible first | exact HB.out | apply below_alloc | apply pw_below_drewN | apply below_drew1 | refine below_set ?_ GE125.out) | exact HB.out)⟩⟩
  ·rw [if_neg c5] at H
   have c5b0 : (a0_0 == 1) = false := beq_eq_false_iff_ne.mpr c5
   have c5b1 : (a0_0 != 1) = true := bne_iff_ne.mpr c5
   (first | rw [c5b0] | (simp only [i64_w, i32_w]; rw [c5b0]) | skip)
   have H' := Aside0.mk H
   clear H
   go_wp2
   repeat (go_quiet (fail); try go_wp2)
   go_meet
   case rel => exact ⟨_, ((a0_0 == 4)), (by first | rfl | (simp; done) | (simp [*]; done)), H', ⟨by first | omega | exact Nat.le_refl _⟩, ⟨by (with_reducible repeat (first | refine blk_drewN ?_ _ | refine blk_drew ?_ | refine blk_alloc ?_ _)); exact BK125.out⟩, ⟨by repeat (first | (with_reducible first | exact HB.out | apply below_alloc | apply pw_below_drewN | apply below_drew1 | refine below_set ?_ GE125.out) | exact HB.out)⟩⟩
 case rest =>
  clear HC2
  try clear p2
  try clear c4
  try clear c5
  try clear c5b0
  try clear c5b1
  try clear hcz4_0
  try clear hcz4_1
  try clear hcz4_2
  try clear hcz4_3
  try clear hcz4_4
  try clear hcz4_5
  try clear hfz4_0
  try clear hfz4_1
  try clear hfz4_2
  try clear hfz4_3
  try clear hfz4_4
  try clear hfz4_5
  obtain ⟨kq, x18_1, rfl, HA, HJ1, BK125, HB⟩ := hcut
  cases kq with
  | zero => exact absurd HA.out (by simp [gristmillref5_form.j0])
  | succ kj1 =>
   have H := HA.out
   clear HA
   simp only [gristmillref5_form.j0] at H
   by_cases c6 : x18_1 = true
   ·subst c6
    have H1 : (if (wrap64 ((wrap64 ((l0_3.length : Int) + (l0_4.length : Int))) + (l0_5.length : Int))) = 0 then (some (a0_2 == 0)) else (some false)) = some r := by rw [if_pos rfl] at H; exact H
    clear H
    have H := H1
    clear H1
    by_cases c7 : (wrap64 ((wrap64 ((l0_3.length : Int) + (l0_4.length : Int))) + (l0_5.length : Int))) = 0
    ·rw [if_pos c7] at H
     have c7b0 : ((wrap64 ((wrap64 ((l0_3.length : Int) + (l0_4.length : Int))) + (l0_5.length : Int))) == 0) = true := beq_iff_eq.mpr c7
     have c7b1 : ((wrap64 ((wrap64 ((l0_3.length : Int) + (l0_4.length : Int))) + (l0_5.length : Int))) != 0) = false := bne_eq_false_iff_eq.mpr c7
     clear c7
     obtain rfl := Option.some.inj H
     have hcz8_0 : wc.cell? ⟨gb125, 0, none⟩ = some (.int .i64 a0_0) := (blk_cell BK125.out 0).trans rfl
     have hcz8_1 : wc.cell? ⟨gb125, 1, none⟩ = some (.string a0_1) := (blk_cell BK125.out 1).trans rfl
     have hcz8_2 : wc.cell? ⟨gb125, 2, none⟩ = some (.int .i64 a0_2) := (blk_cell BK125.out 2).trans rfl
     have hcz8_3 : wc.cell? ⟨gb125, 3, none⟩ = some (.slice A0_3 l0_3.length c0_3) := (blk_cell BK125.out 3).trans rfl
     have hcz8_4 : wc.cell? ⟨gb125, 4, none⟩ = some (.slice A0_4 l0_4.length c0_4) := (blk_cell BK125.out 4).trans rfl
     have hcz8_5 : wc.cell? ⟨gb125, 5, none⟩ = some (.slice A0_5 l0_5.length c0_5) := (blk_cell BK125.out 5).trans rfl
     have hfz8_0 := blk_frozen BK125.out 0
     have hfz8_1 := blk_frozen BK125.out 1
     have hfz8_2 := blk_frozen BK125.out 2
     have hfz8_3 := blk_frozen BK125.out 3
     have hfz8_4 := blk_frozen BK125.out 4
     have hfz8_5 := blk_frozen BK125.out 5
     go_wp2
     repeat (go_quiet (fail); try go_wp2)
     go_ret
     exact ⟨by first | rfl | (simp [errW_none, errW_some] <;> rfl) | (simp [*, errW_none, errW_some] <;> rfl) | (simp [errW_none, errW_some] <;> (rw [Bool.eq_iff_iff]; simp; done)), by repeat (first | (with_reducible first | exact HB.out | apply below_alloc | apply pw_below_drewN | apply below_drew1 | refine below_set ?_ GE125.out) | exact HB.out)⟩
    ·rw [if_neg c7] at H
     have c7b0 : ((wrap64 ((wrap64 ((l0_3.length : Int) + (l0_4.length : Int))) + (l0_5.length : Int))) == 0) = false := beq_eq_false_iff_ne.mpr c7
     have c7b1 : ((wrap64 ((wrap64 ((l0_3.length : Int) + (l0_4.length : Int))) + (l0_5.length : Int))) != 0) = true := bne_iff_ne.mpr c7
     obtain rfl := Option.some.inj H
     go_wp2
     repeat (go_quiet (fail); try go_wp2)
     go_ret
     exact ⟨by first | rfl | (simp [errW_none, errW_some] <;> rfl) | (simp [*, errW_none, errW_some] <;> rfl) | (simp [errW_none, errW_some] <;> (rw [Bool.eq_iff_iff]; simp; done)), by repeat (first | (with_reducible first | exact HB.out | apply below_alloc | apply pw_below_drewN | apply below_drew1 | refine below_set ?_ GE125.out) | exact HB.out)⟩
   ·replace c6 := Bool.eq_false_iff.mpr c6
    subst c6
    have H1 : (if a0_0 = 2 then (if (wrap64 ((wrap64 ((l0_3.length : Int) + (l0_4.length : Int))) + (l0_5.length : Int))) = 0 then (some a0_1.toList.isEmpty) else (some false)) else (if a0_0 = 3 then (if (wrap64 ((wrap64 ((l0_3.length : Int) + (l0_4.length : Int))) + (l0_5.length : Int))) = 0 then (if a0_1.toList = ([] : List UInt8) then ((gristmillref1_Canon.f (IntKind.u64.wrap (a0_2))).bind fun t126 => (some (t126 == (IntKind.u64.wrap (a0_2))))) else (some false)) else (some false)) else (if a0_0 = 5 then (if (wrap64 ((l0_3.length : Int) + (l0_5.length : Int))) = 0 then (if a0_1.toList = ([] : List UInt8) then (if a0_2 = 0 then (some (decide ((l0_4.length : Int) ≥ 2))) else (some false)) else (some false)) else (some false)) else (if a0_0 = 6 then (if (l0_5.length : Int) = 0 then (if a0_1.toList = ([] : List UInt8) then (if a0_2 = 0 then (if (l0_3.length : Int) ≥ 1 then (some ((l0_4.length : Int) == 1)) else (some false)) else (some false)) else (some false)) else (some false)) else (if a0_0 = 7 then (if (l0_5.length : Int) = 0 then (if a0_1.toList = ([] : List UInt8) then (if a0_2 = 0 then (if (l0_3.length : Int) ≥ 1 then (some ((l0_4.length : Int) == (wrap64 ((l0_3.length : Int) + 1)))) else (some false)) else (some false)) else (some false)) else (some false)) else (if a0_0 = 8 then (if (l0_3.length : Int) > 0 then (gristmillref5_form.j1 kj1 (l0_5.length : Int) true a0_0 a0_1 a0_2 l0_3 l0_4 l0_5) else (if a0_1.toList = ([] : List UInt8) then (if a0_2 = 0 then (if (l0_4.length : Int) = 1 then (gristmillref5_form.j1 kj1 (l0_5.length : Int) ((l0_5.length : Int) == 0) a0_0 a0_1 a0_2 l0_3 l0_4 l0_5) else (gristmillref5_form.j1 kj1 (l0_5.length : Int) true a0_0 a0_1 a0_2 l0_3 l0_4 l0_5)) else (gristmillref5_form.j1 kj1 (l0_5.length : Int) true a0_0 a0_1 a0_2 l0_3 l0_4 l0_5)) else (gristmillref5_form.j1 kj1 (l0_5.length : Int) true a0_0 a0_1 a0_2 l0_3 l0_4 l0_5))) else (if a0_0 = 9 then (if (wrap64 ((l0_3.length : Int) + (l0_5.length : Int))) = 0 then (if a0_2 = 0 then ((gristmillref1_Arity.f kj1 a0_1).bind fun t129 => (if t129 > 0 then ((gristmillref1_Arity.f kj1 a0_1).bind fun t130 => (some (t130 == (l0_4.length : Int)))) else (some false))) else (some false)) else (some false)) else (if a0_0 = 10 then (if (wrap64 ((wrap64 ((l0_3.length : Int) + (l0_4.length : Int))) + (l0_5.length : Int))) = 0 then (if a0_1.toList = ([] : List UInt8) then (if a0_2 ≥ 0 then (some (decide (a0_2 < 2147483648))) else (some false)) else (some false)) else (some false)) else (some false))))))))) = some r := by rw [if_neg (show ¬ (false = true) by decide)] at H; exact H
    clear H
    have H := H1
    clear H1
    by_cases c9 : a0_0 = 2
    ·rw [if_pos c9] at H
     have c9b0 : (a0_0 == 2) = true := beq_iff_eq.mpr c9
     have c9b1 : (a0_0 != 2) = false := bne_eq_false_iff_eq.mpr c9
     clear c9
     by_cases c10 : (wrap64 ((wrap64 ((l0_3.length : Int) + (l0_4.length : Int))) + (l0_5.length : Int))) = 0
     ·rw [if_pos c10] at H
      have c10b0 : ((wrap64 ((wrap64 ((l0_3.length : Int) + (l0_4.length : Int))) + (l0_5.length : Int))) == 0) = true := beq_iff_eq.mpr c10
      have c10b1 : ((wrap64 ((wrap64 ((l0_3.length : Int) + (l0_4.length : Int))) + (l0_5.length : Int))) != 0) = false := bne_eq_false_iff_eq.mpr c10
      clear c10
      obtain rfl := Option.some.inj H
      have hcz11_0 : wc.cell? ⟨gb125, 0, none⟩ = some (.int .i64 a0_0) := (blk_cell BK125.out 0).trans rfl
      have hcz11_1 : wc.cell? ⟨gb125, 1, none⟩ = some (.string a0_1) := (blk_cell BK125.out 1).trans rfl
      have hcz11_2 : wc.cell? ⟨gb125, 2, none⟩ = some (.int .i64 a0_2) := (blk_cell BK125.out 2).trans rfl
      have hcz11_3 : wc.cell? ⟨gb125, 3, none⟩ = some (.slice A0_3 l0_3.length c0_3) := (blk_cell BK125.out 3).trans rfl
      have hcz11_4 : wc.cell? ⟨gb125, 4, none⟩ = some (.slice A0_4 l0_4.length c0_4) := (blk_cell BK125.out 4).trans rfl
      have hcz11_5 : wc.cell? ⟨gb125, 5, none⟩ = some (.slice A0_5 l0_5.length c0_5) := (blk_cell BK125.out 5).trans rfl
      have hfz11_0 := blk_frozen BK125.out 0
      have hfz11_1 := blk_frozen BK125.out 1
      have hfz11_2 := blk_frozen BK125.out 2
      have hfz11_3 := blk_frozen BK125.out 3
      have hfz11_4 := blk_frozen BK125.out 4
      have hfz11_5 := blk_frozen BK125.out 5
      go_wp2
      repeat (go_quiet (fail); try go_wp2)
      go_ret
      exact ⟨by first | rfl | (simp [errW_none, errW_some] <;> rfl) | (simp [*, errW_none, errW_some] <;> rfl) | (simp [errW_none, errW_some] <;> (rw [Bool.eq_iff_iff]; simp; done)), by repeat (first | (with_reducible first | exact HB.out | apply below_alloc | apply pw_below_drewN | apply below_drew1 | refine below_set ?_ GE125.out) | exact HB.out)⟩
     ·rw [if_neg c10] at H
      have c10b0 : ((wrap64 ((wrap64 ((l0_3.length : Int) + (l0_4.length : Int))) + (l0_5.length : Int))) == 0) = false := beq_eq_false_iff_ne.mpr c10
      have c10b1 : ((wrap64 ((wrap64 ((l0_3.length : Int) + (l0_4.length : Int))) + (l0_5.length : Int))) != 0) = true := bne_iff_ne.mpr c10
      obtain rfl := Option.some.inj H
      go_wp2
      repeat (go_quiet (fail); try go_wp2)
      go_ret
      exact ⟨by first | rfl | (simp [errW_none, errW_some] <;> rfl) | (simp [*, errW_none, errW_some] <;> rfl) | (simp [errW_none, errW_some] <;> (rw [Bool.eq_iff_iff]; simp; done)), by repeat (first | (with_reducible first | exact HB.out | apply below_alloc | apply pw_below_drewN | apply below_drew1 | refine below_set ?_ GE125.out) | exact HB.out)⟩
    ·rw [if_neg c9] at H
     have c9b0 : (a0_0 == 2) = false := beq_eq_false_iff_ne.mpr c9
     have c9b1 : (a0_0 != 2) = true := bne_iff_ne.mpr c9
     by_cases c12 : a0_0 = 3
     ·rw [if_pos c12] at H
      have c12b0 : (a0_0 == 3) = true := beq_iff_eq.mpr c12
      have c12b1 : (a0_0 != 3) = false := bne_eq_false_iff_eq.mpr c12
      clear c12
      by_cases c13 : (wrap64 ((wrap64 ((l0_3.length : Int) + (l0_4.length : Int))) + (l0_5.length : Int))) = 0
      ·rw [if_pos c13] at H
       have c13b0 : ((wrap64 ((wrap64 ((l0_3.length : Int) + (l0_4.length : Int))) + (l0_5.length : Int))) == 0) = true := beq_iff_eq.mpr c13
       have c13b1 : ((wrap64 ((wrap64 ((l0_3.length : Int) + (l0_4.length : Int))) + (l0_5.length : Int))) != 0) = false := bne_eq_false_iff_eq.mpr c13
       clear c13
       by_cases c14 : a0_1.toList = ([] : List UInt8)
       ·rw [if_pos c14] at H
        have c14b0 : (a0_1.toList == ([] : List UInt8)) = true := beq_iff_eq.mpr c14
        have c14b1 : (a0_1.toList != ([] : List UInt8)) = false := bne_eq_false_iff_eq.mpr c14
        clear c14
        replace H := Option.bind_eq_some_iff.mp H
        obtain ⟨t126, A150, H⟩ := H
        replace H : (some (t126 == (IntKind.u64.wrap (a0_2)))) = some r := H
        have A15 := Aside0.mk A150
        clear A150
        obtain rfl := Option.some.inj H
        have hcz16_0 : wc.cell? ⟨gb125, 0, none⟩ = some (.int .i64 a0_0) := (blk_cell BK125.out 0).trans rfl
        have hcz16_1 : wc.cell? ⟨gb125, 1, none⟩ = some (.string a0_1) := (blk_cell BK125.out 1).trans rfl
        have hcz16_2 : wc.cell? ⟨gb125, 2, none⟩ = some (.int .i64 a0_2) := (blk_cell BK125.out 2).trans rfl
        have hcz16_3 : wc.cell? ⟨gb125, 3, none⟩ = some (.slice A0_3 l0_3.length c0_3) := (blk_cell BK125.out 3).trans rfl
        have hcz16_4 : wc.cell? ⟨gb125, 4, none⟩ = some (.slice A0_4 l0_4.length c0_4) := (blk_cell BK125.out 4).trans rfl
        have hcz16_5 : wc.cell? ⟨gb125, 5, none⟩ = some (.slice A0_5 l0_5.length c0_5) := (blk_cell BK125.out 5).trans rfl
        have hfz16_0 := blk_frozen BK125.out 0
        have hfz16_1 := blk_frozen BK125.out 1
        have hfz16_2 := blk_frozen BK125.out 2
        have hfz16_3 := blk_frozen BK125.out 3
        have hfz16_4 := blk_frozen BK125.out 4
        have hfz16_5 := blk_frozen BK125.out 5
        go_wp2_with (first | (go_at_call 61; (with_reducible refine (gristmillref1_Canon.calls (IntKind.u64.wrap (a0_2)) t126 _ A15.out).mono ?_); rintro e w' ⟨rfl, ⟨nd, rfl⟩⟩; (try first | exact ⟨rfl, _, World.drewN_drewN _ _ _⟩ | exact ⟨rfl, _, Eq.trans (World.drewN_drewN _ _ _) (congrArg (World.drewN _) (Nat.add_assoc _ _ _))⟩)))
        repeat (go_quiet (first | (go_at_call 61; (with_reducible refine (gristmillref1_Canon.calls (IntKind.u64.wrap (a0_2)) t126 _ A15.out).mono ?_); rintro e w' ⟨rfl, ⟨nd, rfl⟩⟩; (try first | exact ⟨rfl, _, World.drewN_drewN _ _ _⟩ | exact ⟨rfl, _, Eq.trans (World.drewN_drewN _ _ _) (congrArg (World.drewN _) (Nat.add_assoc _ _ _))⟩))); try go_wp2_with (first | (go_at_call 61; (with_reducible refine (gristmillref1_Canon.calls (IntKind.u64.wrap (a0_2)) t126 _ A15.out).mono ?_); rintro e w' ⟨rfl, ⟨nd, rfl⟩⟩; (try first | exact ⟨rfl, _, World.drewN_drewN _ _ _⟩ | exact ⟨rfl, _, Eq.trans (World.drewN_drewN _ _ _) (congrArg (World.drewN _) (Nat.add_assoc _ _ _))⟩))))
        go_ret
        exact ⟨by first | rfl | (simp [errW_none, errW_some] <;> rfl) | (simp [*, errW_none, errW_some] <;> rfl) | (simp [errW_none, errW_some] <;> (rw [Bool.eq_iff_iff]; simp; done)), by repeat (first | (with_reducible first | exact HB.out | apply below_alloc | apply pw_below_drewN | apply below_drew1 | refine below_set ?_ GE125.out) | exact HB.out)⟩
       ·rw [if_neg c14] at H
        have c14b0 : (a0_1.toList == ([] : List UInt8)) = false := beq_eq_false_iff_ne.mpr c14
        have c14b1 : (a0_1.toList != ([] : List UInt8)) = true := bne_iff_ne.mpr c14
        obtain rfl := Option.some.inj H
        have hcz17_0 : wc.cell? ⟨gb125, 0, none⟩ = some (.int .i64 a0_0) := (blk_cell BK125.out 0).trans rfl
        have hcz17_1 : wc.cell? ⟨gb125, 1, none⟩ = some (.string a0_1) := (blk_cell BK125.out 1).trans rfl
        have hcz17_2 : wc.cell? ⟨gb125, 2, none⟩ = some (.int .i64 a0_2) := (blk_cell BK125.out 2).trans rfl
        have hcz17_3 : wc.cell? ⟨gb125, 3, none⟩ = some (.slice A0_3 l0_3.length c0_3) := (blk_cell BK125.out 3).trans rfl
        have hcz17_4 : wc.cell? ⟨gb125, 4, none⟩ = some (.slice A0_4 l0_4.length c0_4) := (blk_cell BK125.out 4).trans rfl
        have hcz17_5 : wc.cell? ⟨gb125, 5, none⟩ = some (.slice A0_5 l0_5.length c0_5) := (blk_cell BK125.out 5).trans rfl
        have hfz17_0 := blk_frozen BK125.out 0
        have hfz17_1 := blk_frozen BK125.out 1
        have hfz17_2 := blk_frozen BK125.out 2
        have hfz17_3 := blk_frozen BK125.out 3
        have hfz17_4 := blk_frozen BK125.out 4
        have hfz17_5 := blk_frozen BK125.out 5
        go_wp2
        repeat (go_quiet (fail); try go_wp2)
        go_ret
        exact ⟨by first | rfl | (simp [errW_none, errW_some] <;> rfl) | (simp [*, errW_none, errW_some] <;> rfl) | (simp [errW_none, errW_some] <;> (rw [Bool.eq_iff_iff]; simp; done)), by repeat (first | (with_reducible first | exact HB.out | apply below_alloc | apply pw_below_drewN | apply below_drew1 | refine below_set ?_ GE125.out) | exact HB.out)⟩
      ·rw [if_neg c13] at H
       have c13b0 : ((wrap64 ((wrap64 ((l0_3.length : Int) + (l0_4.length : Int))) + (l0_5.length : Int))) == 0) = false := beq_eq_false_iff_ne.mpr c13
       have c13b1 : ((wrap64 ((wrap64 ((l0_3.length : Int) + (l0_4.length : Int))) + (l0_5.length : Int))) != 0) = true := bne_iff_ne.mpr c13
       obtain rfl := Option.some.inj H
       go_wp2
       repeat (go_quiet (fail); try go_wp2)
       go_ret
       exact ⟨by first | rfl | (simp [errW_none, errW_some] <;> rfl) | (simp [*, errW_none, errW_some] <;> rfl) | (simp [errW_none, errW_some] <;> (rw [Bool.eq_iff_iff]; simp; done)), by repeat (first | (with_reducible first | exact HB.out | apply below_alloc | apply pw_below_drewN | apply below_drew1 | refine below_set ?_ GE125.out) | exact HB.out)⟩
     ·rw [if_neg c12] at H
      have c12b0 : (a0_0 == 3) = false := beq_eq_false_iff_ne.mpr c12
      have c12b1 : (a0_0 != 3) = true := bne_iff_ne.mpr c12
      by_cases c18 : a0_0 = 5
      ·rw [if_pos c18] at H
       have c18b0 : (a0_0 == 5) = true := beq_iff_eq.mpr c18
       have c18b1 : (a0_0 != 5) = false := bne_eq_false_iff_eq.mpr c18
       clear c18
       by_cases c19 : (wrap64 ((l0_3.length : Int) + (l0_5.length : Int))) = 0
       ·rw [if_pos c19] at H
        have c19b0 : ((wrap64 ((l0_3.length : Int) + (l0_5.length : Int))) == 0) = true := beq_iff_eq.mpr c19
        have c19b1 : ((wrap64 ((l0_3.length : Int) + (l0_5.length : Int))) != 0) = false := bne_eq_false_iff_eq.mpr c19
        clear c19
        by_cases c20 : a0_1.toList = ([] : List UInt8)
        ·rw [if_pos c20] at H
         have c20b0 : (a0_1.toList == ([] : List UInt8)) = true := beq_iff_eq.mpr c20
         have c20b1 : (a0_1.toList != ([] : List UInt8)) = false := bne_eq_false_iff_eq.mpr c20
         clear c20
         by_cases c21 : a0_2 = 0
         ·rw [if_pos c21] at H
          have c21b0 : (a0_2 == 0) = true := beq_iff_eq.mpr c21
          have c21b1 : (a0_2 != 0) = false := bne_eq_false_iff_eq.mpr c21
          clear c21
          obtain rfl := Option.some.inj H
          have hcz22_0 : wc.cell? ⟨gb125, 0, none⟩ = some (.int .i64 a0_0) := (blk_cell BK125.out 0).trans rfl
          have hcz22_1 : wc.cell? ⟨gb125, 1, none⟩ = some (.string a0_1) := (blk_cell BK125.out 1).trans rfl
          have hcz22_2 : wc.cell? ⟨gb125, 2, none⟩ = some (.int .i64 a0_2) := (blk_cell BK125.out 2).trans rfl
          have hcz22_3 : wc.cell? ⟨gb125, 3, none⟩ = some (.slice A0_3 l0_3.length c0_3) := (blk_cell BK125.out 3).trans rfl
          have hcz22_4 : wc.cell? ⟨gb125, 4, none⟩ = some (.slice A0_4 l0_4.length c0_4) := (blk_cell BK125.out 4).trans rfl
          have hcz22_5 : wc.cell? ⟨gb125, 5, none⟩ = some (.slice A0_5 l0_5.length c0_5) := (blk_cell BK125.out 5).trans rfl
          have hfz22_0 := blk_frozen BK125.out 0
          have hfz22_1 := blk_frozen BK125.out 1
          have hfz22_2 := blk_frozen BK125.out 2
          have hfz22_3 := blk_frozen BK125.out 3
          have hfz22_4 := blk_frozen BK125.out 4
          have hfz22_5 := blk_frozen BK125.out 5
          go_wp2
          repeat (go_quiet (fail); try go_wp2)
          go_ret
          exact ⟨by first | rfl | (simp [errW_none, errW_some] <;> rfl) | (simp [*, errW_none, errW_some] <;> rfl) | (simp [errW_none, errW_some] <;> (rw [Bool.eq_iff_iff]; simp; done)), by repeat (first | (with_reducible first | exact HB.out | apply below_alloc | apply pw_below_drewN | apply below_drew1 | refine below_set ?_ GE125.out) | exact HB.out)⟩
         ·rw [if_neg c21] at H
          have c21b0 : (a0_2 == 0) = false := beq_eq_false_iff_ne.mpr c21
          have c21b1 : (a0_2 != 0) = true := bne_iff_ne.mpr c21
          obtain rfl := Option.some.inj H
          have hcz23_0 : wc.cell? ⟨gb125, 0, none⟩ = some (.int .i64 a0_0) := (blk_cell BK125.out 0).trans rfl
          have hcz23_1 : wc.cell? ⟨gb125, 1, none⟩ = some (.string a0_1) := (blk_cell BK125.out 1).trans rfl
          have hcz23_2 : wc.cell? ⟨gb125, 2, none⟩ = some (.int .i64 a0_2) := (blk_cell BK125.out 2).trans rfl
          have hcz23_3 : wc.cell? ⟨gb125, 3, none⟩ = some (.slice A0_3 l0_3.length c0_3) := (blk_cell BK125.out 3).trans rfl
          have hcz23_4 : wc.cell? ⟨gb125, 4, none⟩ = some (.slice A0_4 l0_4.length c0_4) := (blk_cell BK125.out 4).trans rfl
          have hcz23_5 : wc.cell? ⟨gb125, 5, none⟩ = some (.slice A0_5 l0_5.length c0_5) := (blk_cell BK125.out 5).trans rfl
          have hfz23_0 := blk_frozen BK125.out 0
          have hfz23_1 := blk_frozen BK125.out 1
          have hfz23_2 := blk_frozen BK125.out 2
          have hfz23_3 := blk_frozen BK125.out 3
          have hfz23_4 := blk_frozen BK125.out 4
          have hfz23_5 := blk_frozen BK125.out 5
          go_wp2
          repeat (go_quiet (fail); try go_wp2)
          go_ret
          exact ⟨by first | rfl | (simp [errW_none, errW_some] <;> rfl) | (simp [*, errW_none, errW_some] <;> rfl) | (simp [errW_none, errW_some] <;> (rw [Bool.eq_iff_iff]; simp; done)), by repeat (first | (with_reducible first | exact HB.out | apply below_alloc | apply pw_below_drewN | apply below_drew1 | refine below_set ?_ GE125.out) | exact HB.out)⟩
        ·rw [if_neg c20] at H
         have c20b0 : (a0_1.toList == ([] : List UInt8)) = false := beq_eq_false_iff_ne.mpr c20
         have c20b1 : (a0_1.toList != ([] : List UInt8)) = true := bne_iff_ne.mpr c20
         obtain rfl := Option.some.inj H
         have hcz24_0 : wc.cell? ⟨gb125, 0, none⟩ = some (.int .i64 a0_0) := (blk_cell BK125.out 0).trans rfl
         have hcz24_1 : wc.cell? ⟨gb125, 1, none⟩ = some (.string a0_1) := (blk_cell BK125.out 1).trans rfl
         have hcz24_2 : wc.cell? ⟨gb125, 2, none⟩ = some (.int .i64 a0_2) := (blk_cell BK125.out 2).trans rfl
         have hcz24_3 : wc.cell? ⟨gb125, 3, none⟩ = some (.slice A0_3 l0_3.length c0_3) := (blk_cell BK125.out 3).trans rfl
         have hcz24_4 : wc.cell? ⟨gb125, 4, none⟩ = some (.slice A0_4 l0_4.length c0_4) := (blk_cell BK125.out 4).trans rfl
         have hcz24_5 : wc.cell? ⟨gb125, 5, none⟩ = some (.slice A0_5 l0_5.length c0_5) := (blk_cell BK125.out 5).trans rfl
         have hfz24_0 := blk_frozen BK125.out 0
         have hfz24_1 := blk_frozen BK125.out 1
         have hfz24_2 := blk_frozen BK125.out 2
         have hfz24_3 := blk_frozen BK125.out 3
         have hfz24_4 := blk_frozen BK125.out 4
         have hfz24_5 := blk_frozen BK125.out 5
         go_wp2
         repeat (go_quiet (fail); try go_wp2)
         go_ret
         exact ⟨by first | rfl | (simp [errW_none, errW_some] <;> rfl) | (simp [*, errW_none, errW_some] <;> rfl) | (simp [errW_none, errW_some] <;> (rw [Bool.eq_iff_iff]; simp; done)), by repeat (first | (with_reducible first | exact HB.out | apply below_alloc | apply pw_below_drewN | apply below_drew1 | refine below_set ?_ GE125.out) | exact HB.out)⟩
       ·rw [if_neg c19] at H
        have c19b0 : ((wrap64 ((l0_3.length : Int) + (l0_5.length : Int))) == 0) = false := beq_eq_false_iff_ne.mpr c19
        have c19b1 : ((wrap64 ((l0_3.length : Int) + (l0_5.length : Int))) != 0) = true := bne_iff_ne.mpr c19
        obtain rfl := Option.some.inj H
        go_wp2
        repeat (go_quiet (fail); try go_wp2)
        go_ret
        exact ⟨by first | rfl | (simp [errW_none, errW_some] <;> rfl) | (simp [*, errW_none, errW_some] <;> rfl) | (simp [errW_none, errW_some] <;> (rw [Bool.eq_iff_iff]; simp; done)), by repeat (first | (with_reducible first | exact HB.out | apply below_alloc | apply pw_below_drewN | apply below_drew1 | refine below_set ?_ GE125.out) | exact HB.out)⟩
      ·rw [if_neg c18] at H
       have c18b0 : (a0_0 == 5) = false := beq_eq_false_iff_ne.mpr c18
       have c18b1 : (a0_0 != 5) = true := bne_iff_ne.mpr c18
       by_cases c25 : a0_0 = 6
       ·rw [if_pos c25] at H
        have c25b0 : (a0_0 == 6) = true := beq_iff_eq.mpr c25
        have c25b1 : (a0_0 != 6) = false := bne_eq_false_iff_eq.mpr c25
        clear c25
        by_cases c26 : (l0_5.length : Int) = 0
        ·rw [if_pos c26] at H
         have c26b0 : ((l0_5.length : Int) == 0) = true := beq_iff_eq.mpr c26
         have c26b1 : ((l0_5.length : Int) != 0) = false := bne_eq_false_iff_eq.mpr c26
         clear c26
         by_cases c27 : a0_1.toList = ([] : List UInt8)
         ·rw [if_pos c27] at H
          have c27b0 : (a0_1.toList == ([] : List UInt8)) = true := beq_iff_eq.mpr c27
          have c27b1 : (a0_1.toList != ([] : List UInt8)) = false := bne_eq_false_iff_eq.mpr c27
          clear c27
          by_cases c28 : a0_2 = 0
          ·rw [if_pos c28] at H
           have c28b0 : (a0_2 == 0) = true := beq_iff_eq.mpr c28
           have c28b1 : (a0_2 != 0) = false := bne_eq_false_iff_eq.mpr c28
           clear c28
           by_cases c29 : (l0_3.length : Int) ≥ 1
           ·rw [if_pos c29] at H
            have c29b0 : decide (1 ≤ (l0_3.length : Int)) = true := decide_eq_true c29
            have c29b1 : decide (1 ≤ l0_3.length) = true := decide_eq_true (by omega)
            clear c29
            obtain rfl := Option.some.inj H
            have hcz30_0 : wc.cell? ⟨gb125, 0, none⟩ = some (.int .i64 a0_0) := (blk_cell BK125.out 0).trans rfl
            have hcz30_1 : wc.cell? ⟨gb125, 1, none⟩ = some (.string a0_1) := (blk_cell BK125.out 1).trans rfl
            have hcz30_2 : wc.cell? ⟨gb125, 2, none⟩ = some (.int .i64 a0_2) := (blk_cell BK125.out 2).trans rfl
            have hcz30_3 : wc.cell? ⟨gb125, 3, none⟩ = some (.slice A0_3 l0_3.length c0_3) := (blk_cell BK125.out 3).trans rfl
            have hcz30_4 : wc.cell? ⟨gb125, 4, none⟩ = some (.slice A0_4 l0_4.length c0_4) := (blk_cell BK125.out 4).trans rfl
            have hcz30_5 : wc.cell? ⟨gb125, 5, none⟩ = some (.slice A0_5 l0_5.length c0_5) := (blk_cell BK125.out 5).trans rfl
            have hfz30_0 := blk_frozen BK125.out 0
            have hfz30_1 := blk_frozen BK125.out 1
            have hfz30_2 := blk_frozen BK125.out 2
            have hfz30_3 := blk_frozen BK125.out 3
            have hfz30_4 := blk_frozen BK125.out 4
            have hfz30_5 := blk_frozen BK125.out 5
            go_wp2
            repeat (go_quiet (fail); try go_wp2)
            go_ret
            exact ⟨by first | rfl | (simp [errW_none, errW_some] <;> rfl) | (simp [*, errW_none, errW_some] <;> rfl) | (simp [errW_none, errW_some] <;> (rw [Bool.eq_iff_iff]; simp; done)), by repeat (first | (with_reducible first | exact HB.out | apply below_alloc | apply pw_below_drewN | apply below_drew1 | refine below_set ?_ GE125.out) | exact HB.out)⟩
           ·rw [if_neg c29] at H
            have c29b0 : decide (1 ≤ (l0_3.length : Int)) = false := decide_eq_false c29
            have c29b1 : decide (1 ≤ l0_3.length) = false := decide_eq_false (by omega)
            clear c29
            obtain rfl := Option.some.inj H
            have hcz31_0 : wc.cell? ⟨gb125, 0, none⟩ = some (.int .i64 a0_0) := (blk_cell BK125.out 0).trans rfl
            have hcz31_1 : wc.cell? ⟨gb125, 1, none⟩ = some (.string a0_1) := (blk_cell BK125.out 1).trans rfl
            have hcz31_2 : wc.cell? ⟨gb125, 2, none⟩ = some (.int .i64 a0_2) := (blk_cell BK125.out 2).trans rfl
            have hcz31_3 : wc.cell? ⟨gb125, 3, none⟩ = some (.slice A0_3 l0_3.length c0_3) := (blk_cell BK125.out 3).trans rfl
            have hcz31_4 : wc.cell? ⟨gb125, 4, none⟩ = some (.slice A0_4 l0_4.length c0_4) := (blk_cell BK125.out 4).trans rfl
            have hcz31_5 : wc.cell? ⟨gb125, 5, none⟩ = some (.slice A0_5 l0_5.length c0_5) := (blk_cell BK125.out 5).trans rfl
            have hfz31_0 := blk_frozen BK125.out 0
            have hfz31_1 := blk_frozen BK125.out 1
            have hfz31_2 := blk_frozen BK125.out 2
            have hfz31_3 := blk_frozen BK125.out 3
            have hfz31_4 := blk_frozen BK125.out 4
            have hfz31_5 := blk_frozen BK125.out 5
            go_wp2
            repeat (go_quiet (fail); try go_wp2)
            go_ret
            exact ⟨by first | rfl | (simp [errW_none, errW_some] <;> rfl) | (simp [*, errW_none, errW_some] <;> rfl) | (simp [errW_none, errW_some] <;> (rw [Bool.eq_iff_iff]; simp; done)), by repeat (first | (with_reducible first | exact HB.out | apply below_alloc | apply pw_below_drewN | apply below_drew1 | refine below_set ?_ GE125.out) | exact HB.out)⟩
          ·rw [if_neg c28] at H
           have c28b0 : (a0_2 == 0) = false := beq_eq_false_iff_ne.mpr c28
           have c28b1 : (a0_2 != 0) = true := bne_iff_ne.mpr c28
           obtain rfl := Option.some.inj H
           have hcz32_0 : wc.cell? ⟨gb125, 0, none⟩ = some (.int .i64 a0_0) := (blk_cell BK125.out 0).trans rfl
           have hcz32_1 : wc.cell? ⟨gb125, 1, none⟩ = some (.string a0_1) := (blk_cell BK125.out 1).trans rfl
           have hcz32_2 : wc.cell? ⟨gb125, 2, none⟩ = some (.int .i64 a0_2) := (blk_cell BK125.out 2).trans rfl
           have hcz32_3 : wc.cell? ⟨gb125, 3, none⟩ = some (.slice A0_3 l0_3.length c0_3) := (blk_cell BK125.out 3).trans rfl
           have hcz32_4 : wc.cell? ⟨gb125, 4, none⟩ = some (.slice A0_4 l0_4.length c0_4) := (blk_cell BK125.out 4).trans rfl
           have hcz32_5 : wc.cell? ⟨gb125, 5, none⟩ = some (.slice A0_5 l0_5.length c0_5) := (blk_cell BK125.out 5).trans rfl
           have hfz32_0 := blk_frozen BK125.out 0
           have hfz32_1 := blk_frozen BK125.out 1
           have hfz32_2 := blk_frozen BK125.out 2
           have hfz32_3 := blk_frozen BK125.out 3
           have hfz32_4 := blk_frozen BK125.out 4
           have hfz32_5 := blk_frozen BK125.out 5
           go_wp2
           repeat (go_quiet (fail); try go_wp2)
           go_ret
           exact ⟨by first | rfl | (simp [errW_none, errW_some] <;> rfl) | (simp [*, errW_none, errW_some] <;> rfl) | (simp [errW_none, errW_some] <;> (rw [Bool.eq_iff_iff]; simp; done)), by repeat (first | (with_reducible first | exact HB.out | apply below_alloc | apply pw_below_drewN | apply below_drew1 | refine below_set ?_ GE125.out) | exact HB.out)⟩
         ·rw [if_neg c27] at H
          have c27b0 : (a0_1.toList == ([] : List UInt8)) = false := beq_eq_false_iff_ne.mpr c27
          have c27b1 : (a0_1.toList != ([] : List UInt8)) = true := bne_iff_ne.mpr c27
          obtain rfl := Option.some.inj H
          have hcz33_0 : wc.cell? ⟨gb125, 0, none⟩ = some (.int .i64 a0_0) := (blk_cell BK125.out 0).trans rfl
          have hcz33_1 : wc.cell? ⟨gb125, 1, none⟩ = some (.string a0_1) := (blk_cell BK125.out 1).trans rfl
          have hcz33_2 : wc.cell? ⟨gb125, 2, none⟩ = some (.int .i64 a0_2) := (blk_cell BK125.out 2).trans rfl
          have hcz33_3 : wc.cell? ⟨gb125, 3, none⟩ = some (.slice A0_3 l0_3.length c0_3) := (blk_cell BK125.out 3).trans rfl
          have hcz33_4 : wc.cell? ⟨gb125, 4, none⟩ = some (.slice A0_4 l0_4.length c0_4) := (blk_cell BK125.out 4).trans rfl
          have hcz33_5 : wc.cell? ⟨gb125, 5, none⟩ = some (.slice A0_5 l0_5.length c0_5) := (blk_cell BK125.out 5).trans rfl
          have hfz33_0 := blk_frozen BK125.out 0
          have hfz33_1 := blk_frozen BK125.out 1
          have hfz33_2 := blk_frozen BK125.out 2
          have hfz33_3 := blk_frozen BK125.out 3
          have hfz33_4 := blk_frozen BK125.out 4
          have hfz33_5 := blk_frozen BK125.out 5
          go_wp2
          repeat (go_quiet (fail); try go_wp2)
          go_ret
          exact ⟨by first | rfl | (simp [errW_none, errW_some] <;> rfl) | (simp [*, errW_none, errW_some] <;> rfl) | (simp [errW_none, errW_some] <;> (rw [Bool.eq_iff_iff]; simp; done)), by repeat (first | (with_reducible first | exact HB.out | apply below_alloc | apply pw_below_drewN | apply below_drew1 | refine below_set ?_ GE125.out) | exact HB.out)⟩
        ·rw [if_neg c26] at H
         have c26b0 : ((l0_5.length : Int) == 0) = false := beq_eq_false_iff_ne.mpr c26
         have c26b1 : ((l0_5.length : Int) != 0) = true := bne_iff_ne.mpr c26
         have c26b2 : ¬ (l0_5 = []) := fun h_ => c26 (by rw [h_]; rfl)
         obtain rfl := Option.some.inj H
         go_wp2
         repeat (go_quiet (fail); try go_wp2)
         go_ret
         exact ⟨by first | rfl | (simp [errW_none, errW_some] <;> rfl) | (simp [*, errW_none, errW_some] <;> rfl) | (simp [errW_none, errW_some] <;> (rw [Bool.eq_iff_iff]; simp; done)), by repeat (first | (with_reducible first | exact HB.out | apply below_alloc | apply pw_below_drewN | apply below_drew1 | refine below_set ?_ GE125.out) | exact HB.out)⟩
       ·rw [if_neg c25] at H
        have c25b0 : (a0_0 == 6) = false := beq_eq_false_iff_ne.mpr c25
        have c25b1 : (a0_0 != 6) = true := bne_iff_ne.mpr c25
        by_cases c34 : a0_0 = 7
        ·rw [if_pos c34] at H
         have c34b0 : (a0_0 == 7) = true := beq_iff_eq.mpr c34
         have c34b1 : (a0_0 != 7) = false := bne_eq_false_iff_eq.mpr c34
         clear c34
         by_cases c35 : (l0_5.length : Int) = 0
         ·rw [if_pos c35] at H
          have c35b0 : ((l0_5.length : Int) == 0) = true := beq_iff_eq.mpr c35
          have c35b1 : ((l0_5.length : Int) != 0) = false := bne_eq_false_iff_eq.mpr c35
          clear c35
          by_cases c36 : a0_1.toList = ([] : List UInt8)
          ·rw [if_pos c36] at H
           have c36b0 : (a0_1.toList == ([] : List UInt8)) = true := beq_iff_eq.mpr c36
           have c36b1 : (a0_1.toList != ([] : List UInt8)) = false := bne_eq_false_iff_eq.mpr c36
           clear c36
           by_cases c37 : a0_2 = 0
           ·rw [if_pos c37] at H
            have c37b0 : (a0_2 == 0) = true := beq_iff_eq.mpr c37
            have c37b1 : (a0_2 != 0) = false := bne_eq_false_iff_eq.mpr c37
            clear c37
            by_cases c38 : (l0_3.length : Int) ≥ 1
            ·rw [if_pos c38] at H
             have c38b0 : decide (1 ≤ (l0_3.length : Int)) = true := decide_eq_true c38
             have c38b1 : decide (1 ≤ l0_3.length) = true := decide_eq_true (by omega)
             clear c38
             obtain rfl := Option.some.inj H
             have hcz39_0 : wc.cell? ⟨gb125, 0, none⟩ = some (.int .i64 a0_0) := (blk_cell BK125.out 0).trans rfl
             have hcz39_1 : wc.cell? ⟨gb125, 1, none⟩ = some (.string a0_1) := (blk_cell BK125.out 1).trans rfl
             have hcz39_2 : wc.cell? ⟨gb125, 2, none⟩ = some (.int .i64 a0_2) := (blk_cell BK125.out 2).trans rfl
             have hcz39_3 : wc.cell? ⟨gb125, 3, none⟩ = some (.slice A0_3 l0_3.length c0_3) := (blk_cell BK125.out 3).trans rfl
             have hcz39_4 : wc.cell? ⟨gb125, 4, none⟩ = some (.slice A0_4 l0_4.length c0_4) := (blk_cell BK125.out 4).trans rfl
             have hcz39_5 : wc.cell? ⟨gb125, 5, none⟩ = some (.slice A0_5 l0_5.length c0_5) := (blk_cell BK125.out 5).trans rfl
             have hfz39_0 := blk_frozen BK125.out 0
             have hfz39_1 := blk_frozen BK125.out 1
             have hfz39_2 := blk_frozen BK125.out 2
             have hfz39_3 := blk_frozen BK125.out 3
             have hfz39_4 := blk_frozen BK125.out 4
             have hfz39_5 := blk_frozen BK125.out 5
             go_wp2
             repeat (go_quiet (fail); try go_wp2)
             go_ret
             exact ⟨by first | rfl | (simp [errW_none, errW_some] <;> rfl) | (simp [*, errW_none, errW_some] <;> rfl) | (simp [errW_none, errW_some] <;> (rw [Bool.eq_iff_iff]; simp; done)), by repeat (first | (with_reducible first | exact HB.out | apply below_alloc | apply pw_below_drewN | apply below_drew1 | refine below_set ?_ GE125.out) | exact HB.out)⟩
            ·rw [if_neg c38] at H
             have c38b0 : decide (1 ≤ (l0_3.length : Int)) = false := decide_eq_false c38
             have c38b1 : decide (1 ≤ l0_3.length) = false := decide_eq_false (by omega)
             clear c38
             obtain rfl := Option.some.inj H
             have hcz40_0 : wc.cell? ⟨gb125, 0, none⟩ = some (.int .i64 a0_0) := (blk_cell BK125.out 0).trans rfl
             have hcz40_1 : wc.cell? ⟨gb125, 1, none⟩ = some (.string a0_1) := (blk_cell BK125.out 1).trans rfl
             have hcz40_2 : wc.cell? ⟨gb125, 2, none⟩ = some (.int .i64 a0_2) := (blk_cell BK125.out 2).trans rfl
             have hcz40_3 : wc.cell? ⟨gb125, 3, none⟩ = some (.slice A0_3 l0_3.length c0_3) := (blk_cell BK125.out 3).trans rfl
             have hcz40_4 : wc.cell? ⟨gb125, 4, none⟩ = some (.slice A0_4 l0_4.length c0_4) := (blk_cell BK125.out 4).trans rfl
             have hcz40_5 : wc.cell? ⟨gb125, 5, none⟩ = some (.slice A0_5 l0_5.length c0_5) := (blk_cell BK125.out 5).trans rfl
             have hfz40_0 := blk_frozen BK125.out 0
             have hfz40_1 := blk_frozen BK125.out 1
             have hfz40_2 := blk_frozen BK125.out 2
             have hfz40_3 := blk_frozen BK125.out 3
             have hfz40_4 := blk_frozen BK125.out 4
             have hfz40_5 := blk_frozen BK125.out 5
             go_wp2
             repeat (go_quiet (fail); try go_wp2)
             go_ret
             exact ⟨by first | rfl | (simp [errW_none, errW_some] <;> rfl) | (simp [*, errW_none, errW_some] <;> rfl) | (simp [errW_none, errW_some] <;> (rw [Bool.eq_iff_iff]; simp; done)), by repeat (first | (with_reducible first | exact HB.out | apply below_alloc | apply pw_below_drewN | apply below_drew1 | refine below_set ?_ GE125.out) | exact HB.out)⟩
           ·rw [if_neg c37] at H
            have c37b0 : (a0_2 == 0) = false := beq_eq_false_iff_ne.mpr c37
            have c37b1 : (a0_2 != 0) = true := bne_iff_ne.mpr c37
            obtain rfl := Option.some.inj H
            have hcz41_0 : wc.cell? ⟨gb125, 0, none⟩ = some (.int .i64 a0_0) := (blk_cell BK125.out 0).trans rfl
            have hcz41_1 : wc.cell? ⟨gb125, 1, none⟩ = some (.string a0_1) := (blk_cell BK125.out 1).trans rfl
            have hcz41_2 : wc.cell? ⟨gb125, 2, none⟩ = some (.int .i64 a0_2) := (blk_cell BK125.out 2).trans rfl
            have hcz41_3 : wc.cell? ⟨gb125, 3, none⟩ = some (.slice A0_3 l0_3.length c0_3) := (blk_cell BK125.out 3).trans rfl
            have hcz41_4 : wc.cell? ⟨gb125, 4, none⟩ = some (.slice A0_4 l0_4.length c0_4) := (blk_cell BK125.out 4).trans rfl
            have hcz41_5 : wc.cell? ⟨gb125, 5, none⟩ = some (.slice A0_5 l0_5.length c0_5) := (blk_cell BK125.out 5).trans rfl
            have hfz41_0 := blk_frozen BK125.out 0
            have hfz41_1 := blk_frozen BK125.out 1
            have hfz41_2 := blk_frozen BK125.out 2
            have hfz41_3 := blk_frozen BK125.out 3
            have hfz41_4 := blk_frozen BK125.out 4
            have hfz41_5 := blk_frozen BK125.out 5
            go_wp2
            repeat (go_quiet (fail); try go_wp2)
            go_ret
            exact ⟨by first | rfl | (simp [errW_none, errW_some] <;> rfl) | (simp [*, errW_none, errW_some] <;> rfl) | (simp [errW_none, errW_some] <;> (rw [Bool.eq_iff_iff]; simp; done)), by repeat (first | (with_reducible first | exact HB.out | apply below_alloc | apply pw_below_drewN | apply below_drew1 | refine below_set ?_ GE125.out) | exact HB.out)⟩
          ·rw [if_neg c36] at H
           have c36b0 : (a0_1.toList == ([] : List UInt8)) = false := beq_eq_false_iff_ne.mpr c36
           have c36b1 : (a0_1.toList != ([] : List UInt8)) = true := bne_iff_ne.mpr c36
           obtain rfl := Option.some.inj H
           have hcz42_0 : wc.cell? ⟨gb125, 0, none⟩ = some (.int .i64 a0_0) := (blk_cell BK125.out 0).trans rfl
           have hcz42_1 : wc.cell? ⟨gb125, 1, none⟩ = some (.string a0_1) := (blk_cell BK125.out 1).trans rfl
           have hcz42_2 : wc.cell? ⟨gb125, 2, none⟩ = some (.int .i64 a0_2) := (blk_cell BK125.out 2).trans rfl
           have hcz42_3 : wc.cell? ⟨gb125, 3, none⟩ = some (.slice A0_3 l0_3.length c0_3) := (blk_cell BK125.out 3).trans rfl
           have hcz42_4 : wc.cell? ⟨gb125, 4, none⟩ = some (.slice A0_4 l0_4.length c0_4) := (blk_cell BK125.out 4).trans rfl
           have hcz42_5 : wc.cell? ⟨gb125, 5, none⟩ = some (.slice A0_5 l0_5.length c0_5) := (blk_cell BK125.out 5).trans rfl
           have hfz42_0 := blk_frozen BK125.out 0
           have hfz42_1 := blk_frozen BK125.out 1
           have hfz42_2 := blk_frozen BK125.out 2
           have hfz42_3 := blk_frozen BK125.out 3
           have hfz42_4 := blk_frozen BK125.out 4
           have hfz42_5 := blk_frozen BK125.out 5
           go_wp2
           repeat (go_quiet (fail); try go_wp2)
           go_ret
           exact ⟨by first | rfl | (simp [errW_none, errW_some] <;> rfl) | (simp [*, errW_none, errW_some] <;> rfl) | (simp [errW_none, errW_some] <;> (rw [Bool.eq_iff_iff]; simp; done)), by repeat (first | (with_reducible first | exact HB.out | apply below_alloc | apply pw_below_drewN | apply below_drew1 | refine below_set ?_ GE125.out) | exact HB.out)⟩
         ·rw [if_neg c35] at H
          have c35b0 : ((l0_5.length : Int) == 0) = false := beq_eq_false_iff_ne.mpr c35
          have c35b1 : ((l0_5.length : Int) != 0) = true := bne_iff_ne.mpr c35
          have c35b2 : ¬ (l0_5 = []) := fun h_ => c35 (by rw [h_]; rfl)
          obtain rfl := Option.some.inj H
          go_wp2
          repeat (go_quiet (fail); try go_wp2)
          go_ret
          exact ⟨by first | rfl | (simp [errW_none, errW_some] <;> rfl) | (simp [*, errW_none, errW_some] <;> rfl) | (simp [errW_none, errW_some] <;> (rw [Bool.eq_iff_iff]; simp; done)), by repeat (first | (with_reducible first | exact HB.out | apply below_alloc | apply pw_below_drewN | apply below_drew1 | refine below_set ?_ GE125.out) | exact HB.out)⟩
        ·rw [if_neg c34] at H
         have c34b0 : (a0_0 == 7) = false := beq_eq_false_iff_ne.mpr c34
         have c34b1 : (a0_0 != 7) = true := bne_iff_ne.mpr c34
         by_cases c43 : a0_0 = 8
         ·rw [if_pos c43] at H
          have c43b0 : (a0_0 == 8) = true := beq_iff_eq.mpr c43
          have c43b1 : (a0_0 != 8) = false := bne_eq_false_iff_eq.mpr c43
          clear c43
          have HC44 := Aside0.mk H
          clear H
          go_upto_region 19 with (fail)
          repeat (go_quiet (fail); go_upto_region 19 with (fail))
          go_cut [155] (fun v155 wc => ∃ (kq : Nat) (x155_43 : Bool), v155 = .bool x155_43 ∧ Aside0 (gristmillref5_form.j1 kq (l0_5.length : Int) x155_43 a0_0 a0_1 a0_2 l0_3 l0_4 l0_5 = some r) ∧ Aside0 (kq ≤ kj1) ∧ Aside0 (wc.heap[gb125]? = some (.cells #[.int .i64 a0_0, .string a0_1, .int .i64 a0_2, (.slice A0_3 l0_3.length c0_3), (.slice A0_4 l0_4.length c0_4), (.slice A0_5 l0_5.length c0_5)] 33 (0, 0))) ∧ Aside0 (Below w.heap.size w wc))
          case first => as_aux_lemma =>
           (try simp only [List.append_eq, List.cons_append, List.nil_append])
           have H := HC44.out
           clear HC44
           by_cases c45 : (l0_3.length : Int) > 0
           ·rw [if_pos c45] at H
            have c45b0 : decide (0 < (l0_3.length : Int)) = true := decide_eq_true c45
            have c45b1 : decide (0 < l0_3.length) = true := decide_eq_true (by omega)
            clear c45
            (first | rw [c45b0] | (simp only [i64_w, i32_w]; rw [c45b0]) | skip)
            have H' := Aside0.mk H
            clear H
            go_wp2
            repeat (go_quiet (fail); try go_wp2)
            go_meet
            case rel => exact ⟨_, (true), (by first | rfl | (simp; done) | (simp [*]; done)), H', ⟨by have := HJ1.out; first | omega | exact Nat.le_refl _⟩, ⟨by (with_reducible repeat (first | refine blk_drewN ?_ _ | refine blk_drew ?_ | refine blk_alloc ?_ _)); exact BK125.out⟩, ⟨by repeat (first | (with_reducible first | exact HB.out | apply below_alloc | apply pw_below_drewN | apply below_drew1 | refine below_set ?_ GE125.out) | exact HB.out)⟩⟩
           ·rw [if_neg c45] at H
            have c45b0 : decide (0 < (l0_3.length : Int)) = false := decide_eq_false c45
            have c45b1 : decide (0 < l0_3.length) = false := decide_eq_false (by omega)
            clear c45
            (first | rw [c45b0] | (simp only [i64_w, i32_w]; rw [c45b0]) | skip)
            by_cases c46 : a0_1.toList = ([] : List UInt8)
            ·rw [if_pos c46] at H
             have c46b0 : (a0_1.toList == ([] : List UInt8)) = true := beq_iff_eq.mpr c46
             have c46b1 : (a0_1.toList != ([] : List UInt8)) = false := bne_eq_false_iff_eq.mpr c46
             clear c46
             by_cases c47 : a0_2 = 0
             ·rw [if_pos c47] at H
              have c47b0 : (a0_2 == 0) = true := beq_iff_eq.mpr c47
              have c47b1 : (a0_2 != 0) = false := bne_eq_false_iff_eq.mpr c47
              clear c47
              by_cases c48 : (l0_4.length : Int) = 1
              ·rw [if_pos c48] at H
               have c48b0 : ((l0_4.length : Int) == 1) = true := beq_iff_eq.mpr c48
               have c48b1 : ((l0_4.length : Int) != 1) = false := bne_eq_false_iff_eq.mpr c48
               clear c48
               have H' := Aside0.mk H
               clear H
               have hcz49_0 : wc.cell? ⟨gb125, 0, none⟩ = some (.int .i64 a0_0) := (blk_cell BK125.out 0).trans rfl
               have hcz49_1 : wc.cell? ⟨gb125, 1, none⟩ = some (.string a0_1) := (blk_cell BK125.out 1).trans rfl
               have hcz49_2 : wc.cell? ⟨gb125, 2, none⟩ = some (.int .i64 a0_2) := (blk_cell BK125.out 2).trans rfl
               have hcz49_3 : wc.cell? ⟨gb125, 3, none⟩ = some (.slice A0_3 l0_3.length c0_3) := (blk_cell BK125.out 3).trans rfl
               have hcz49_4 : wc.cell? ⟨gb125, 4, none⟩ = some (.slice A0_4 l0_4.length c0_4) := (blk_cell BK125.out 4).trans rfl
               have hcz49_5 : wc.cell? ⟨gb125, 5, none⟩ = some (.slice A0_5 l0_5.length c0_5) := (blk_cell BK125.out 5).trans rfl
               have hfz49_0 := blk_frozen BK125.out 0
               have hfz49_1 := blk_frozen BK125.out 1
               have hfz49_2 := blk_frozen BK125.out 2
               have hfz49_3 := blk_frozen BK125.out 3
               have hfz49_4 := blk_frozen BK125.out 4
               have hfz49_5 := blk_frozen BK125.out 5
               go_wp2
               repeat (go_quiet (fail); try go_wp2)
               go_meet
               case rel => exact ⟨_, (((l0_5.length : Int) == 0)), (by first | rfl | (simp; done) | (simp [*]; done)), H', ⟨by have := HJ1.out; first | omega | exact Nat.le_refl _⟩, ⟨by (with_reducible repeat (first | refine blk_drewN ?_ _ | refine blk_drew ?_ | refine blk_alloc ?_ _)); exact BK125.out⟩, ⟨by repeat (first | (with_reducible first | exact HB.out | apply below_alloc | apply pw_below_drewN | apply below_drew1 | refine below_set ?_ GE125.out) | exact HB.out)⟩⟩
              ·rw [if_neg c48] at H
               have c48b0 : ((l0_4.length : Int) == 1) = false := beq_eq_false_iff_ne.mpr c48
               have c48b1 : ((l0_4.length : Int) != 1) = true := bne_iff_ne.mpr c48
               have H' := Aside0.mk H
               clear H
               have hcz50_0 : wc.cell? ⟨gb125, 0, none⟩ = some (.int .i64 a0_0) := (blk_cell BK125.out 0).trans rfl
               have hcz50_1 : wc.cell? ⟨gb125, 1, none⟩ = some (.string a0_1) := (blk_cell BK125.out 1).trans rfl
               have hcz50_2 : wc.cell? ⟨gb125, 2, none⟩ = some (.int .i64 a0_2) := (blk_cell BK125.out 2).trans rfl
               have hcz50_3 : wc.cell? ⟨gb125, 3, none⟩ = some (.slice A0_3 l0_3.length c0_3) := (blk_cell BK125.out 3).trans rfl
               have hcz50_4 : wc.cell? ⟨gb125, 4, none⟩ = some (.slice A0_4 l0_4.length c0_4) := (blk_cell BK125.out 4).trans rfl
               have hcz50_5 : wc.cell? ⟨gb125, 5, none⟩ = some (.slice A0_5 l0_5.length c0_5) := (blk_cell BK125.out 5).trans rfl
               have hfz50_0 := blk_frozen BK125.out 0
               have hfz50_1 := blk_frozen BK125.out 1
               have hfz50_2 := blk_frozen BK125.out 2
               have hfz50_3 := blk_frozen BK125.out 3
               have hfz50_4 := blk_frozen BK125.out 4
               have hfz50_5 := blk_frozen BK125.out 5
               go_wp2
               repeat (go_quiet (fail); try go_wp2)
               go_meet
               case rel => exact ⟨_, (true), (by first | rfl | (simp; done) | (simp [*]; done)), H', ⟨by have := HJ1.out; first | omega | exact Nat.le_refl _⟩, ⟨by (with_reducible repeat (first | refine blk_drewN ?_ _ | refine blk_drew ?_ | refine blk_alloc ?_ _)); exact BK125.out⟩, ⟨by repeat (first | (with_reducible first | exact HB.out | apply below_alloc | apply pw_below_drewN | apply below_drew1 | refine below_set ?_ GE125.out) | exact HB.out)⟩⟩
             ·rw [if_neg c47] at H
              have c47b0 : (a0_2 == 0) = false := beq_eq_false_iff_ne.mpr c47
              have c47b1 : (a0_2 != 0) = true := bne_iff_ne.mpr c47
              have H' := Aside0.mk H
              clear H
              have hcz51_0 : wc.cell? ⟨gb125, 0, none⟩ = some (.int .i64 a0_0) := (blk_cell BK125.out 0).trans rfl
              have hcz51_1 : wc.cell? ⟨gb125, 1, none⟩ = some (.string a0_1) := (blk_cell BK125.out 1).trans rfl
              have hcz51_2 : wc.cell? ⟨gb125, 2, none⟩ = some (.int .i64 a0_2) := (blk_cell BK125.out 2).trans rfl
              have hcz51_3 : wc.cell? ⟨gb125, 3, none⟩ = some (.slice A0_3 l0_3.length c0_3) := (blk_cell BK125.out 3).trans rfl
              have hcz51_4 : wc.cell? ⟨gb125, 4, none⟩ = some (.slice A0_4 l0_4.length c0_4) := (blk_cell BK125.out 4).trans rfl
              have hcz51_5 : wc.cell? ⟨gb125, 5, none⟩ = some (.slice A0_5 l0_5.length c0_5) := (blk_cell BK125.out 5).trans rfl
              have hfz51_0 := blk_frozen BK125.out 0
              have hfz51_1 := blk_frozen BK125.out 1
              have hfz51_2 := blk_frozen BK125.out 2
              have hfz51_3 := blk_frozen BK125.out 3
              have hfz51_4 := blk_frozen BK125.out 4
              have hfz51_5 := blk_frozen BK125.out 5
              go_wp2
              repeat (go_quiet (fail); try go_wp2)
              go_meet
              case rel => exact ⟨_, (true), (by first | rfl | (simp; done) | (simp [*]; done)), H', ⟨by have := HJ1.out; first | omega | exact Nat.le_refl _⟩, ⟨by (with_reducible repeat (first | refine blk_drewN ?_ _ | refine blk_drew ?_ | refine blk_alloc ?_ _)); exact BK125.out⟩, ⟨by repeat (first | (with_reducible first | exact HB.out | apply below_alloc | apply pw_below_drewN | apply below_drew1 | refine below_set ?_ GE125.out) | exact HB.out)⟩⟩
            ·rw [if_neg c46] at H
             have c46b0 : (a0_1.toList == ([] : List UInt8)) = false := beq_eq_false_iff_ne.mpr c46
             have c46b1 : (a0_1.toList != ([] : List UInt8)) = true := bne_iff_ne.mpr c46
             have H' := Aside0.mk H
             clear H
             have hcz52_0 : wc.cell? ⟨gb125, 0, none⟩ = some (.int .i64 a0_0) := (blk_cell BK125.out 0).trans rfl
             have hcz52_1 : wc.cell? ⟨gb125, 1, none⟩ = some (.string a0_1) := (blk_cell BK125.out 1).trans rfl
             have hcz52_2 : wc.cell? ⟨gb125, 2, none⟩ = some (.int .i64 a0_2) := (blk_cell BK125.out 2).trans rfl
             have hcz52_3 : wc.cell? ⟨gb125, 3, none⟩ = some (.slice A0_3 l0_3.length c0_3) := (blk_cell BK125.out 3).trans rfl
             have hcz52_4 : wc.cell? ⟨gb125, 4, none⟩ = some (.slice A0_4 l0_4.length c0_4) := (blk_cell BK125.out 4).trans rfl
             have hcz52_5 : wc.cell? ⟨gb125, 5, none⟩ = some (.slice A0_5 l0_5.length c0_5) := (blk_cell BK125.out 5).trans rfl
             have hfz52_0 := blk_frozen BK125.out 0
             have hfz52_1 := blk_frozen BK125.out 1
             have hfz52_2 := blk_frozen BK125.out 2
             have hfz52_3 := blk_frozen BK125.out 3
             have hfz52_4 := blk_frozen BK125.out 4
             have hfz52_5 := blk_frozen BK125.out 5
             go_wp2
             repeat (go_quiet (fail); try go_wp2)
             go_meet
             case rel => exact ⟨_, (true), (by first | rfl | (simp; done) | (simp [*]; done)), H', ⟨by have := HJ1.out; first | omega | exact Nat.le_refl _⟩, ⟨by (with_reducible repeat (first | refine blk_drewN ?_ _ | refine blk_drew ?_ | refine blk_alloc ?_ _)); exact BK125.out⟩, ⟨by repeat (first | (with_reducible first | exact HB.out | apply below_alloc | apply pw_below_drewN | apply below_drew1 | refine below_set ?_ GE125.out) | exact HB.out)⟩⟩
          case rest =>
           clear HC44
           try clear c1
           try clear c2
           try clear p2
           try clear c3
           try clear c4
           try clear c6
           try clear p6
           try clear c7
           try clear c7b0
           try clear c7b1
           try clear c9
           try clear c9b0
           try clear c9b1
           try clear c10
           try clear c10b0
           try clear c10b1
           try clear c12
           try clear c12b0
           try clear c12b1
           try clear c13
           try clear c13b0
           try clear c13b1
           try clear c14
           try clear c14b0
           try clear c14b1
           try clear c18
           try clear c18b0
           try clear c18b1
           try clear c19
           try clear c19b0
           try clear c19b1
           try clear c20
           try clear c20b0
           try clear c20b1
           try clear c21
           try clear c21b0
           try clear c21b1
           try clear c25
           try clear c25b0
           try clear c25b1
           try clear c26
           try clear c26b0
           try clear c26b1
           try clear c26b2
           try clear c27
           try clear c27b0
           try clear c27b1
           try clear c28
           try clear c28b0
           try clear c28b1
           try clear c29
           try clear c29b0
           try clear c29b1
           try clear c34
           try clear c34b0
           try clear c34b1
           try clear c35
           try clear c35b0
           try clear c35b1
           try clear c35b2
           try clear c36
           try clear c36b0
           try clear c36b1
           try clear c37
           try clear c37b0
           try clear c37b1
           try clear c38
           try clear c38b0
           try clear c38b1
           try clear c43
           try clear c43b0
           try clear c43b1
           try clear c45
           try clear c45b0
           try clear c45b1
           try clear c46
           try clear c46b0
           try clear c46b1
           try clear c47
           try clear c47b0
           try clear c47b1
           try clear c48
           try clear c48b0
           try clear c48b1
           try clear hcz11_0
           try clear hcz11_1
           try clear hcz11_2
           try clear hcz11_3
           try clear hcz11_4
           try clear hcz11_5
           try clear hcz16_0
           try clear hcz16_1
           try clear hcz16_2
           try clear hcz16_3
           try clear hcz16_4
           try clear hcz16_5
           try clear hcz17_0
           try clear hcz17_1
           try clear hcz17_2
           try clear hcz17_3
           try clear hcz17_4
           try clear hcz17_5
           try clear hcz22_0
           try clear hcz22_1
           try clear hcz22_2
           try clear hcz22_3
           try clear hcz22_4
           try clear hcz22_5
           try clear hcz23_0
           try clear hcz23_1
           try clear hcz23_2
           try clear hcz23_3
           try clear hcz23_4
           try clear hcz23_5
           try clear hcz24_0
           try clear hcz24_1
           try clear hcz24_2
           try clear hcz24_3
           try clear hcz24_4
           try clear hcz24_5
           try clear hcz30_0
           try clear hcz30_1
           try clear hcz30_2
           try clear hcz30_3
           try clear hcz30_4
           try clear hcz30_5
           try clear hcz31_0
           try clear hcz31_1
           try clear hcz31_2
           try clear hcz31_3
           try clear hcz31_4
           try clear hcz31_5
           try clear hcz32_0
           try clear hcz32_1
           try clear hcz32_2
           try clear hcz32_3
           try clear hcz32_4
           try clear hcz32_5
           try clear hcz33_0
           try clear hcz33_1
           try clear hcz33_2
           try clear hcz33_3
           try clear hcz33_4
           try clear hcz33_5
           try clear hcz39_0
           try clear hcz39_1
           try clear hcz39_2
           try clear hcz39_3
           try clear hcz39_4
           try clear hcz39_5
           try clear hcz40_0
           try clear hcz40_1
           try clear hcz40_2
           try clear hcz40_3
           try clear hcz40_4
           try clear hcz40_5
           try clear hcz41_0
           try clear hcz41_1
           try clear hcz41_2
           try clear hcz41_3
           try clear hcz41_4
           try clear hcz41_5
           try clear hcz42_0
           try clear hcz42_1
           try clear hcz42_2
           try clear hcz42_3
           try clear hcz42_4
           try clear hcz42_5
           try clear hcz49_0
           try clear hcz49_1
           try clear hcz49_2
           try clear hcz49_3
           try clear hcz49_4
           try clear hcz49_5
           try clear hcz50_0
           try clear hcz50_1
           try clear hcz50_2
           try clear hcz50_3
           try clear hcz50_4
           try clear hcz50_5
           try clear hcz51_0
           try clear hcz51_1
           try clear hcz51_2
           try clear hcz51_3
           try clear hcz51_4
           try clear hcz51_5
           try clear hcz52_0
           try clear hcz52_1
           try clear hcz52_2
           try clear hcz52_3
           try clear hcz52_4
           try clear hcz52_5
           try clear hcz8_0
           try clear hcz8_1
           try clear hcz8_2
           try clear hcz8_3
           try clear hcz8_4
           try clear hcz8_5
           try clear hfz11_0
           try clear hfz11_1
           try clear hfz11_2
           try clear hfz11_3
           try clear hfz11_4
           try clear hfz11_5
           try clear hfz16_0
           try clear hfz16_1
           try clear hfz16_2
           try clear hfz16_3
           try clear hfz16_4
           try clear hfz16_5
           try clear hfz17_0
           try clear hfz17_1
           try clear hfz17_2
           try clear hfz17_3
           try clear hfz17_4
           try clear hfz17_5
           try clear hfz22_0
           try clear hfz22_1
           try clear hfz22_2
           try clear hfz22_3
           try clear hfz22_4
           try clear hfz22_5
           try clear hfz23_0
           try clear hfz23_1
           try clear hfz23_2
           try clear hfz23_3
           try clear hfz23_4
           try clear hfz23_5
           try clear hfz24_0
           try clear hfz24_1
           try clear hfz24_2
           try clear hfz24_3
           try clear hfz24_4
           try clear hfz24_5
           try clear hfz30_0
           try clear hfz30_1
           try clear hfz30_2
           try clear hfz30_3
           try clear hfz30_4
           try clear hfz30_5
           try clear hfz31_0
           try clear hfz31_1
           try clear hfz31_2
           try clear hfz31_3
           try clear hfz31_4
           try clear hfz31_5
           try clear hfz32_0
           try clear hfz32_1
           try clear hfz32_2
           try clear hfz32_3
           try clear hfz32_4
           try clear hfz32_5
           try clear hfz33_0
           try clear hfz33_1
           try clear hfz33_2
           try clear hfz33_3
           try clear hfz33_4
           try clear hfz33_5
           try clear hfz39_0
           try clear hfz39_1
           try clear hfz39_2
           try clear hfz39_3
           try clear hfz39_4
           try clear hfz39_5
           try clear hfz40_0
           try clear hfz40_1
           try clear hfz40_2
           try clear hfz40_3
           try clear hfz40_4
           try clear hfz40_5
           try clear hfz41_0
           try clear hfz41_1
           try clear hfz41_2
           try clear hfz41_3
           try clear hfz41_4
           try clear hfz41_5
           try clear hfz42_0
           try clear hfz42_1
           try clear hfz42_2
           try clear hfz42_3
           try clear hfz42_4
           try clear hfz42_5
           try clear hfz49_0
           try clear hfz49_1
           try clear hfz49_2
           try clear hfz49_3
           try clear hfz49_4
           try clear hfz49_5
           try clear hfz50_0
           try clear hfz50_1
           try clear hfz50_2
           try clear hfz50_3
           try clear hfz50_4
           try clear hfz50_5
           try clear hfz51_0
           try clear hfz51_1
           try clear hfz51_2
           try clear hfz51_3
           try clear hfz51_4
           try clear hfz51_5
           try clear hfz52_0
           try clear hfz52_1
           try clear hfz52_2
           try clear hfz52_3
           try clear hfz52_4
           try clear hfz52_5
           try clear hfz8_0
           try clear hfz8_1
           try clear hfz8_2
           try clear hfz8_3
           try clear hfz8_4
           try clear hfz8_5
           obtain ⟨kq, x155_43, rfl, HA, HJ43, BK125, HB⟩ := hcut
           cases kq with
           | zero => exact absurd HA.out (by simp [gristmillref5_form.j1])
           | succ kj43 =>
            have H := HA.out
            clear HA
            simp only [gristmillref5_form.j1] at H
            by_cases c53 : x155_43 = true
            ·subst c53
             have H1 : (some false) = some r := by rw [if_pos rfl] at H; exact H
             clear H
             have H := H1
             clear H1
             obtain rfl := Option.some.inj H
             go_wp2
             repeat (go_quiet (fail); try go_wp2)
             go_ret
             exact ⟨by first | rfl | (simp [errW_none, errW_some] <;> rfl) | (simp [*, errW_none, errW_some] <;> rfl) | (simp [errW_none, errW_some] <;> (rw [Bool.eq_iff_iff]; simp; done)), by repeat (first | (with_reducible first | exact HB.out | apply below_alloc | apply pw_below_drewN | apply below_drew1 | refine below_set ?_ GE125.out) | exact HB.out)⟩
            ·replace c53 := Bool.eq_false_iff.mpr c53
             subst c53
             have H1 : (gristmillref5_form.l0 kj43 (l0_5.length : Int) 0 a0_0 a0_1 a0_2 l0_3 l0_4 l0_5) = some r := by rw [if_neg (show ¬ (false = true) by decide)] at H; exact H
             clear H
             have H := H1
             clear H1
             have H' := Aside0.mk H
             clear H
             go_wp2
             repeat (go_quiet (fail); try go_wp2)
             go_loopg [6] kj43 (fun kq v6 w' => ∃ (x6_3 : Int), v6 = .int .i64 x6_3 ∧ Aside0 (gristmillref5_form.l0 kq (l0_5.length : Int) x6_3 a0_0 a0_1 a0_2 l0_3 l0_4 l0_5 = some r) ∧ Aside0 (kq ≤ kj43) ∧ Aside0 (w'.heap[gb125]? = some (.cells #[.int .i64 a0_0, .string a0_1, .int .i64 a0_2, (.slice A0_3 l0_3.length c0_3), (.slice A0_4 l0_4.length c0_4), (.slice A0_5 l0_5.length c0_5)] 33 (0, 0))) ∧ Aside0 (Below w.heap.size w w'))
             case atStart => exact ⟨(0), (by first | rfl | (simp; done) | (simp [*]; done)), H', ⟨Nat.le_refl _⟩, ⟨by (with_reducible repeat (first | refine blk_drewN ?_ _ | refine blk_drew ?_ | refine blk_alloc ?_ _)); exact BK125.out⟩, ⟨by repeat (first | (with_reducible first | exact HB.out | apply below_alloc | apply pw_below_drewN | apply below_drew1 | refine below_set ?_ GE125.out) | exact HB.out)⟩⟩
             case round =>
              clear H'
              try clear c1
              try clear c2
              try clear p2
              try clear c3
              try clear c4
              try clear c5
              try clear c6
              try clear p6
              try clear c7
              try clear c7b0
              try clear c7b1
              try clear c9
              try clear c9b0
              try clear c9b1
              try clear c10
              try clear c10b0
              try clear c10b1
              try clear c12
              try clear c12b0
              try clear c12b1
              try clear c13
              try clear c13b0
              try clear c13b1
              try clear c14
              try clear c14b0
              try clear c14b1
              try clear c18
              try clear c18b0
              try clear c18b1
              try clear c19
              try clear c19b0
              try clear c19b1
              try clear c20
              try clear c20b0
              try clear c20b1
              try clear c21
              try clear c21b0
              try clear c21b1
              try clear c25
              try clear c25b0
              try clear c25b1
              try clear c26
              try clear c26b0
              try clear c26b1
              try clear c26b2
              try clear c27
              try clear c27b0
              try clear c27b1
              try clear c28
              try clear c28b0
              try clear c28b1
              try clear c29
              try clear c29b0
              try clear c29b1
              try clear c34
              try clear c34b0
              try clear c34b1
              try clear c35
              try clear c35b0
              try clear c35b1
              try clear c35b2
              try clear c36
              try clear c36b0
              try clear c36b1
              try clear c37
              try clear c37b0
              try clear c37b1
              try clear c38
              try clear c38b0
              try clear c38b1
              try clear c43
              try clear c43b0
              try clear c43b1
              try clear c45
              try clear c45b0
              try clear c45b1
              try clear c46
              try clear c46b0
              try clear c46b1
              try clear c47
              try clear c47b0
              try clear c47b1
              try clear c48
              try clear c48b0
              try clear c48b1
              try clear c53
              try clear hcz11_0
              try clear hcz11_1
              try clear hcz11_2
              try clear hcz11_3
              try clear hcz11_4
              try clear hcz11_5
              try clear hcz16_0
              try clear hcz16_1
              try clear hcz16_2
              try clear hcz16_3
              try clear hcz16_4
              try clear hcz16_5
              try clear hcz17_0
              try clear hcz17_1
              try clear hcz17_2
              try clear hcz17_3
              try clear hcz17_4
              try clear hcz17_5
              try clear hcz22_0
              try clear hcz22_1
              try clear hcz22_2
              try clear hcz22_3
              try clear hcz22_4
              try clear hcz22_5
              try clear hcz23_0
              try clear hcz23_1
              try clear hcz23_2
              try clear hcz23_3
              try clear hcz23_4
              try clear hcz23_5
              try clear hcz24_0
              try clear hcz24_1
              try clear hcz24_2
              try clear hcz24_3
              try clear hcz24_4
              try clear hcz24_5
              try clear hcz30_0
              try clear hcz30_1
              try clear hcz30_2
              try clear hcz30_3
              try clear hcz30_4
              try clear hcz30_5
              try clear hcz31_0
              try clear hcz31_1
              try clear hcz31_2
              try clear hcz31_3
              try clear hcz31_4
              try clear hcz31_5
              try clear hcz32_0
              try clear hcz32_1
              try clear hcz32_2
              try clear hcz32_3
              try clear hcz32_4
              try clear hcz32_5
              try clear hcz33_0
              try clear hcz33_1
              try clear hcz33_2
              try clear hcz33_3
              try clear hcz33_4
              try clear hcz33_5
              try clear hcz39_0
              try clear hcz39_1
              try clear hcz39_2
              try clear hcz39_3
              try clear hcz39_4
              try clear hcz39_5
              try clear hcz40_0
              try clear hcz40_1
              try clear hcz40_2
              try clear hcz40_3
              try clear hcz40_4
              try clear hcz40_5
              try clear hcz41_0
              try clear hcz41_1
              try clear hcz41_2
              try clear hcz41_3
              try clear hcz41_4
              try clear hcz41_5
              try clear hcz42_0
              try clear hcz42_1
              try clear hcz42_2
              try clear hcz42_3
              try clear hcz42_4
              try clear hcz42_5
              try clear hcz49_0
              try clear hcz49_1
              try clear hcz49_2
              try clear hcz49_3
              try clear hcz49_4
              try clear hcz49_5
              try clear hcz50_0
              try clear hcz50_1
              try clear hcz50_2
              try clear hcz50_3
              try clear hcz50_4
              try clear hcz50_5
              try clear hcz51_0
              try clear hcz51_1
              try clear hcz51_2
              try clear hcz51_3
              try clear hcz51_4
              try clear hcz51_5
              try clear hcz52_0
              try clear hcz52_1
              try clear hcz52_2
              try clear hcz52_3
              try clear hcz52_4
              try clear hcz52_5
              try clear hcz8_0
              try clear hcz8_1
              try clear hcz8_2
              try clear hcz8_3
              try clear hcz8_4
              try clear hcz8_5
              try clear hfz11_0
              try clear hfz11_1
              try clear hfz11_2
              try clear hfz11_3
              try clear hfz11_4
              try clear hfz11_5
              try clear hfz16_0
              try clear hfz16_1
              try clear hfz16_2
              try clear hfz16_3
              try clear hfz16_4
              try clear hfz16_5
              try clear hfz17_0
              try clear hfz17_1
              try clear hfz17_2
              try clear hfz17_3
              try clear hfz17_4
              try clear hfz17_5
              try clear hfz22_0
              try clear hfz22_1
              try clear hfz22_2
              try clear hfz22_3
              try clear hfz22_4
              try clear hfz22_5
              try clear hfz23_0
              try clear hfz23_1
              try clear hfz23_2
              try clear hfz23_3
              try clear hfz23_4
              try clear hfz23_5
              try clear hfz24_0
              try clear hfz24_1
              try clear hfz24_2
              try clear hfz24_3
              try clear hfz24_4
              try clear hfz24_5
              try clear hfz30_0
              try clear hfz30_1
              try clear hfz30_2
              try clear hfz30_3
              try clear hfz30_4
              try clear hfz30_5
              try clear hfz31_0
              try clear hfz31_1
              try clear hfz31_2
              try clear hfz31_3
              try clear hfz31_4
              try clear hfz31_5
              try clear hfz32_0
              try clear hfz32_1
              try clear hfz32_2
              try clear hfz32_3
              try clear hfz32_4
              try clear hfz32_5
              try clear hfz33_0
              try clear hfz33_1
              try clear hfz33_2
              try clear hfz33_3
              try clear hfz33_4
              try clear hfz33_5
              try clear hfz39_0
              try clear hfz39_1
              try clear hfz39_2
              try clear hfz39_3
              try clear hfz39_4
              try clear hfz39_5
              try clear hfz40_0
              try clear hfz40_1
              try clear hfz40_2
              try clear hfz40_3
              try clear hfz40_4
              try clear hfz40_5
              try clear hfz41_0
              try clear hfz41_1
              try clear hfz41_2
              try clear hfz41_3
              try clear hfz41_4
              try clear hfz41_5
              try clear hfz42_0
              try clear hfz42_1
              try clear hfz42_2
              try clear hfz42_3
              try clear hfz42_4
              try clear hfz42_5
              try clear hfz49_0
              try clear hfz49_1
              try clear hfz49_2
              try clear hfz49_3
              try clear hfz49_4
              try clear hfz49_5
              try clear hfz50_0
              try clear hfz50_1
              try clear hfz50_2
              try clear hfz50_3
              try clear hfz50_4
              try clear hfz50_5
              try clear hfz51_0
              try clear hfz51_1
              try clear hfz51_2
              try clear hfz51_3
              try clear hfz51_4
              try clear hfz51_5
              try clear hfz52_0
              try clear hfz52_1
              try clear hfz52_2
              try clear hfz52_3
              try clear hfz52_4
              try clear hfz52_5
              try clear hfz8_0
              try clear hfz8_1
              try clear hfz8_2
              try clear hfz8_3
              try clear hfz8_4
              try clear hfz8_5
              try clear p2
              try clear p6
              obtain ⟨x6_3, rfl, HA, HK3, BK125, HB⟩ := hrel
              cases gk with
              | zero => exact absurd HA.out (by simp [gristmillref5_form.l0])
              | succ k3 =>
               have H := HA.out
               clear HA
               simp only [gristmillref5_form.l0] at H
               by_cases c54 : x6_3 < (l0_5.length : Int)
               ·rw [if_pos c54] at H
                have c54b0 : decide (x6_3 < (l0_5.length : Int)) = true := decide_eq_true c54
                clear c54
                by_cases c55 : 0 ≤ x6_3
                ·rw [if_pos c55] at H
                 have c55b0 : decide (0 ≤ x6_3) = true := decide_eq_true c55
                 clear c55
                 by_cases c56 : x6_3 < (l0_5.length : Int)
                 ·rw [if_pos c56] at H
                  have c56b0 : decide (x6_3 < (l0_5.length : Int)) = true := decide_eq_true c56
                  clear c56
                  replace H := Option.bind_eq_some_iff.mp H
                  obtain ⟨t128, A570, H⟩ := H
                  replace H : (if t128 = true then (gristmillref5_form.l0 k3 (l0_5.length : Int) (wrap64 (x6_3 + 1)) a0_0 a0_1 a0_2 l0_3 l0_4 l0_5) else (some false)) = some r := H
                  have A57 := Aside0.mk A570
                  clear A570
                  by_cases c58 : t128 = true
                  ·subst c58
                   have H1 : (gristmillref5_form.l0 k3 (l0_5.length : Int) (wrap64 (x6_3 + 1)) a0_0 a0_1 a0_2 l0_3 l0_4 l0_5) = some r := by rw [if_pos rfl] at H; exact H
                   clear H
                   have H := H1
                   clear H1
                   have H' := Aside0.mk H
                   clear H
                   have hcz59_0 : wr.cell? ⟨gb125, 0, none⟩ = some (.int .i64 a0_0) := (blk_cell BK125.out 0).trans rfl
                   have hcz59_1 : wr.cell? ⟨gb125, 1, none⟩ = some (.string a0_1) := (blk_cell BK125.out 1).trans rfl
                   have hcz59_2 : wr.cell? ⟨gb125, 2, none⟩ = some (.int .i64 a0_2) := (blk_cell BK125.out 2).trans rfl
                   have hcz59_3 : wr.cell? ⟨gb125, 3, none⟩ = some (.slice A0_3 l0_3.length c0_3) := (blk_cell BK125.out 3).trans rfl
                   have hcz59_4 : wr.cell? ⟨gb125, 4, none⟩ = some (.slice A0_4 l0_4.length c0_4) := (blk_cell BK125.out 4).trans rfl
                   have hcz59_5 : wr.cell? ⟨gb125, 5, none⟩ = some (.slice A0_5 l0_5.length c0_5) := (blk_cell BK125.out 5).trans rfl
                   have hfz59_0 := blk_frozen BK125.out 0
                   have hfz59_1 := blk_frozen BK125.out 1
                   have hfz59_2 := blk_frozen BK125.out 2
                   have hfz59_3 := blk_frozen BK125.out 3
                   have hfz59_4 := blk_frozen BK125.out 4
                   have hfz59_5 := blk_frozen BK125.out 5
                   have p127 : 0 ≤ (x6_3 : Int) := of_decide_eq_true (by first | (with_reducible assumption) | assumption)
                   have q127 : x6_3 < (l0_5.length : Int) := of_decide_eq_true (by first | (with_reducible assumption) | assumption)
                   obtain ⟨ad127, A127_3, c127_3, A127_7, c127_7, A127_8, c127_8, A127_9, c127_9, e127, hx127_0, hx127_1, hx127_2, hx127_3, hx127_4, hx127_5, hx127_6, hx127_7, hx127_8, hx127_9, hl127_3, hi127_3, hl127_7, hi127_7, hl127_8, hi127_8, hl127_9, hi127_9⟩ := at_T40 HR0_5.out x6_3 p127 q127
                   cases e127
                   replace hx127_0 := (HB.out.cell (World.block_lt_of_cell? w _ hx127_0)).trans hx127_0
                   replace hx127_1 := (HB.out.cell (World.block_lt_of_cell? w _ hx127_1)).trans hx127_1
                   replace hx127_2 := (HB.out.cell (World.block_lt_of_cell? w _ hx127_2)).trans hx127_2
                   replace hx127_3 := (HB.out.cell (World.block_lt_of_cell? w _ hx127_3)).trans hx127_3
                   replace hx127_4 := (HB.out.cell (World.block_lt_of_cell? w _ hx127_4)).trans hx127_4
                   replace hx127_5 := (HB.out.cell (World.block_lt_of_cell? w _ hx127_5)).trans hx127_5
                   replace hx127_6 := (HB.out.cell (World.block_lt_of_cell? w _ hx127_6)).trans hx127_6
                   replace hx127_7 := (HB.out.cell (World.block_lt_of_cell? w _ hx127_7)).trans hx127_7
                   replace hx127_8 := (HB.out.cell (World.block_lt_of_cell? w _ hx127_8)).trans hx127_8
                   replace hx127_9 := (HB.out.cell (World.block_lt_of_cell? w _ hx127_9)).trans hx127_9
                   have HR127_3 := Aside0.mk hi127_3
                   have HC127_3 := Aside0.mk hl127_3
                   clear hi127_3 hl127_3
                   have HR127_7 := Aside0.mk hi127_7
                   have HC127_7 := Aside0.mk hl127_7
                   clear hi127_7 hl127_7
                   have HR127_8 := Aside0.mk hi127_8
                   have HC127_8 := Aside0.mk hl127_8
                   clear hi127_8 hl127_8
                   have HR127_9 := Aside0.mk hi127_9
                   have HC127_9 := Aside0.mk hl127_9
                   clear hi127_9 hl127_9
                   replace p127 := eq_true p127
                   replace q127 := eq_true q127
                   go_wp2_with (first | (go_at_call 62; (with_reducible refine (gristmillref5_takes.calls ((rd_T40 l0_5 x6_3).f0) ((rd_T40 l0_5 x6_3).f1) ((rd_T40 l0_5 x6_3).f2) _ _ ((rd_T40 l0_5 x6_3).f3) ((rd_T40 l0_5 x6_3).f4.f0) ((rd_T40 l0_5 x6_3).f4.f1) ((rd_T40 l0_5 x6_3).f4.f2) _ _ ((rd_T40 l0_5 x6_3).f4.f3) _ _ ((rd_T40 l0_5 x6_3).f4.f4) _ _ ((rd_T40 l0_5 x6_3).f4.f5) true _ ?side27 ?side28 ?side29 ?side30 ?side31 ?side32 ?side33 ?side34 A57.out).mono ?_); (case side27 => repeat (first | exact (Kd.C_below HR127_3.out HB.out) | (with_reducible refine Kd.C_alloc ?_ _) | (with_reducible refine Kd.C_drewN ?_ _) | (with_reducible refine Kd.C_drew ?_))); (case side28 => exact HC127_3.out); (case side29 => repeat (first | exact (Kd.C_below HR127_7.out HB.out) | (with_reducible refine Kd.C_alloc ?_ _) | (with_reducible refine Kd.C_drewN ?_ _) | (with_reducible refine Kd.C_drew ?_))); (case side30 => exact HC127_7.out); (case side31 => repeat (first | exact (Kd.C_below HR127_8.out HB.out) | (with_reducible refine Kd.C_alloc ?_ _) | (with_reducible refine Kd.C_drewN ?_ _) | (with_reducible refine Kd.C_drew ?_))); (case side32 => exact HC127_8.out); (case side33 => repeat (first | exact (Kd.C_below HR127_9.out HB.out) | (with_reducible refine Kd.C_alloc ?_ _) | (with_reducible refine Kd.C_drewN ?_ _) | (with_reducible refine Kd.C_drew ?_))); (case side34 => exact HC127_9.out); rintro e w60 ⟨rfl, hb⟩; have n0_ := Aside0.mk (blk_below (g := gb125) (o := .cells #[.int .i64 a0_0, .string a0_1, .int .i64 a0_2, .slice A0_3 l0_3.length c0_3, .slice A0_4 l0_4.length c0_4, .slice (some ad127) l0_5.length c0_5] 33 (0, 0)) (by (with_reducible repeat (first | refine blk_drewN ?_ _ | refine blk_drew ?_ | refine blk_alloc ?_ _)); exact BK125.out) hb); have n1_ := Aside0.mk (below_step (by repeat (first | (with_reducible first | exact HB.out | apply below_alloc | apply pw_below_drewN | apply below_drew1 | refine below_set ?_ GE125.out) | exact HB.out)) hb); clear BK125; clear HB; have BK125 := n0_; have HB := n1_; clear n0_ n1_; (try clear hb); (try clear hb2); (try clear hk); (try clear hi)))
                   repeat (go_quiet (first | (go_at_call 62; (with_reducible refine (gristmillref5_takes.calls ((rd_T40 l0_5 x6_3).f0) ((rd_T40 l0_5 x6_3).f1) ((rd_T40 l0_5 x6_3).f2) _ _ ((rd_T40 l0_5 x6_3).f3) ((rd_T40 l0_5 x6_3).f4.f0) ((rd_T40 l0_5 x6_3).f4.f1) ((rd_T40 l0_5 x6_3).f4.f2) _ _ ((rd_T40 l0_5 x6_3).f4.f3) _ _ ((rd_T40 l0_5 x6_3).f4.f4) _ _ ((rd_T40 l0_5 x6_3).f4.f5) true _ ?side27 ?side28 ?side29 ?side30 ?side31 ?side32 ?side33 ?side34 A57.out).mono ?_); (case side27 => repeat (first | exact (Kd.C_below HR127_3.out HB.out) | (with_reducible refine Kd.C_alloc ?_ _) | (with_reducible refine Kd.C_drewN ?_ _) | (with_reducible refine Kd.C_drew ?_))); (case side28 => exact HC127_3.out); (case side29 => repeat (first | exact (Kd.C_below HR127_7.out HB.out) | (with_reducible refine Kd.C_alloc ?_ _) | (with_reducible refine Kd.C_drewN ?_ _) | (with_reducible refine Kd.C_drew ?_))); (case side30 => exact HC127_7.out); (case side31 => repeat (first | exact (Kd.C_below HR127_8.out HB.out) | (with_reducible refine Kd.C_alloc ?_ _) | (with_reducible refine Kd.C_drewN ?_ _) | (with_reducible refine Kd.C_drew ?_))); (case side32 => exact HC127_8.out); (case side33 => repeat (first | exact (Kd.C_below HR127_9.out HB.out) | (with_reducible refine Kd.C_alloc ?_ _) | (with_reducible refine Kd.C_drewN ?_ _) | (with_reducible refine Kd.C_drew ?_))); (case side34 => exact HC127_9.out); rintro e w60 ⟨rfl, hb⟩; have n0_ := Aside0.mk (blk_below (g := gb125) (o := .cells #[.int .i64 a0_0, .string a0_1, .int .i64 a0_2, .slice A0_3 l0_3.length c0_3, .slice A0_4 l0_4.length c0_4, .slice (some ad127) l0_5.length c0_5] 33 (0, 0)) (by (with_reducible repeat (first | refine blk_drewN ?_ _ | refine blk_drew ?_ | refine blk_alloc ?_ _)); exact BK125.out) hb); have n1_ := Aside0.mk (below_step (by repeat (first | (with_reducible first | exact HB.out | apply below_alloc | apply pw_below_drewN | apply below_drew1 | refine below_set ?_ GE125.out) | exact HB.out)) hb); clear BK125; clear HB; have BK125 := n0_; have HB := n1_; clear n0_ n1_; (try clear hb); (try clear hb2); (try clear hk); (try clear hi))); try go_wp2_with (first | (go_at_call 62; (with_reducible refine (gristmillref5_takes.calls ((rd_T40 l0_5 x6_3).f0) ((rd_T40 l0_5 x6_3).f1) ((rd_T40 l0_5 x6_3).f2) _ _ ((rd_T40 l0_5 x6_3).f3) ((rd_T40 l0_5 x6_3).f4.f0) ((rd_T40 l0_5 x6_3).f4.f1) ((rd_T40 l0_5 x6_3).f4.f2) _ _ ((rd_T40 l0_5 x6_3).f4.f3) _ _ ((rd_T40 l0_5 x6_3).f4.f4) _ _ ((rd_T40 l0_5 x6_3).f4.f5) true _ ?side27 ?side28 ?side29 ?side30 ?side31 ?side32 ?side33 ?side34 A57.out).mono ?_); (case side27 => repeat (first | exact (Kd.C_below HR127_3.out HB.out) | (with_reducible refine Kd.C_alloc ?_ _) | (with_reducible refine Kd.C_drewN ?_ _) | (with_reducible refine Kd.C_drew ?_))); (case side28 => exact HC127_3.out); (case side29 => repeat (first | exact (Kd.C_below HR127_7.out HB.out) | (with_reducible refine Kd.C_alloc ?_ _) | (with_reducible refine Kd.C_drewN ?_ _) | (with_reducible refine Kd.C_drew ?_))); (case side30 => exact HC127_7.out); (case side31 => repeat (first | exact (Kd.C_below HR127_8.out HB.out) | (with_reducible refine Kd.C_alloc ?_ _) | (with_reducible refine Kd.C_drewN ?_ _) | (with_reducible refine Kd.C_drew ?_))); (case side32 => exact HC127_8.out); (case side33 => repeat (first | exact (Kd.C_below HR127_9.out HB.out) | (with_reducible refine Kd.C_alloc ?_ _) | (with_reducible refine Kd.C_drewN ?_ _) | (with_reducible refine Kd.C_drew ?_))); (case side34 => exact HC127_9.out); rintro e w60 ⟨rfl, hb⟩; have n0_ := Aside0.mk (blk_below (g := gb125) (o := .cells #[.int .i64 a0_0, .string a0_1, .int .i64 a0_2, .slice A0_3 l0_3.length c0_3, .slice A0_4 l0_4.length c0_4, .slice (some ad127) l0_5.length c0_5] 33 (0, 0)) (by (with_reducible repeat (first | refine blk_drewN ?_ _ | refine blk_drew ?_ | refine blk_alloc ?_ _)); exact BK125.out) hb); have n1_ := Aside0.mk (below_step (by repeat (first | (with_reducible first | exact HB.out | apply below_alloc | apply pw_below_drewN | apply below_drew1 | refine below_set ?_ GE125.out) | exact HB.out)) hb); clear BK125; clear HB; have BK125 := n0_; have HB := n1_; clear n0_ n1_; (try clear hb); (try clear hb2); (try clear hk); (try clear hi))))
                   go_roundg k3
                   case measure => have := HJ1.out; have := HJ43.out; have := HK3.out; omega
                   case rel => exact ⟨(wrap64 (x6_3 + 1)), (by first | rfl | (simp; done) | (simp [*]; done)), H', ⟨by have := HJ1.out; have := HJ43.out; have := HK3.out; omega⟩, ⟨by (with_reducible repeat (first | refine blk_drewN ?_ _ | refine blk_drew ?_ | refine blk_alloc ?_ _)); exact BK125.out⟩, ⟨by repeat (first | (with_reducible first | exact HB.out | apply below_alloc | apply pw_below_drewN | apply below_drew1 | refine below_set ?_ GE125.out) | exact HB.out)⟩⟩
                  ·replace c58 := Bool.eq_false_iff.mpr c58
                   subst c58
                   have H1 : (some false) = some r := by rw [if_neg (show ¬ (false = true) by decide)] at H; exact H
                   clear H
                   have H := H1
                   clear H1
                   obtain rfl := Option.some.inj H
                   have hcz61_0 : wr.cell? ⟨gb125, 0, none⟩ = some (.int .i64 a0_0) := (blk_cell BK125.out 0).trans rfl
                   have hcz61_1 : wr.cell? ⟨gb125, 1, none⟩ = some (.string a0_1) := (blk_cell BK125.out 1).trans rfl
                   have hcz61_2 : wr.cell? ⟨gb125, 2, none⟩ = some (.int .i64 a0_2) := (blk_cell BK125.out 2).trans rfl
                   have hcz61_3 : wr.cell? ⟨gb125, 3, none⟩ = some (.slice A0_3 l0_3.length c0_3) := (blk_cell BK125.out 3).trans rfl
                   have hcz61_4 : wr.cell? ⟨gb125, 4, none⟩ = some (.slice A0_4 l0_4.length c0_4) := (blk_cell BK125.out 4).trans rfl
                   have hcz61_5 : wr.cell? ⟨gb125, 5, none⟩ = some (.slice A0_5 l0_5.length c0_5) := (blk_cell BK125.out 5).trans rfl
                   have hfz61_0 := blk_frozen BK125.out 0
                   have hfz61_1 := blk_frozen BK125.out 1
                   have hfz61_2 := blk_frozen BK125.out 2
                   have hfz61_3 := blk_frozen BK125.out 3
                   have hfz61_4 := blk_frozen BK125.out 4
                   have hfz61_5 := blk_frozen BK125.out 5
                   have p127 : 0 ≤ (x6_3 : Int) := of_decide_eq_true (by first | (with_reducible assumption) | assumption)
                   have q127 : x6_3 < (l0_5.length : Int) := of_decide_eq_true (by first | (with_reducible assumption) | assumption)
                   obtain ⟨ad127, A127_3, c127_3, A127_7, c127_7, A127_8, c127_8, A127_9, c127_9, e127, hx127_0, hx127_1, hx127_2, hx127_3, hx127_4, hx127_5, hx127_6, hx127_7, hx127_8, hx127_9, hl127_3, hi127_3, hl127_7, hi127_7, hl127_8, hi127_8, hl127_9, hi127_9⟩ := at_T40 HR0_5.out x6_3 p127 q127
                   cases e127
                   replace hx127_0 := (HB.out.cell (World.block_lt_of_cell? w _ hx127_0)).trans hx127_0
                   replace hx127_1 := (HB.out.cell (World.block_lt_of_cell? w _ hx127_1)).trans hx127_1
                   replace hx127_2 := (HB.out.cell (World.block_lt_of_cell? w _ hx127_2)).trans hx127_2
                   replace hx127_3 := (HB.out.cell (World.block_lt_of_cell? w _ hx127_3)).trans hx127_3
                   replace hx127_4 := (HB.out.cell (World.block_lt_of_cell? w _ hx127_4)).trans hx127_4
                   replace hx127_5 := (HB.out.cell (World.block_lt_of_cell? w _ hx127_5)).trans hx127_5
                   replace hx127_6 := (HB.out.cell (World.block_lt_of_cell? w _ hx127_6)).trans hx127_6
                   replace hx127_7 := (HB.out.cell (World.block_lt_of_cell? w _ hx127_7)).trans hx127_7
                   replace hx127_8 := (HB.out.cell (World.block_lt_of_cell? w _ hx127_8)).trans hx127_8
                   replace hx127_9 := (HB.out.cell (World.block_lt_of_cell? w _ hx127_9)).trans hx127_9
                   have HR127_3 := Aside0.mk hi127_3
                   have HC127_3 := Aside0.mk hl127_3
                   clear hi127_3 hl127_3
                   have HR127_7 := Aside0.mk hi127_7
                   have HC127_7 := Aside0.mk hl127_7
                   clear hi127_7 hl127_7
                   have HR127_8 := Aside0.mk hi127_8
                   have HC127_8 := Aside0.mk hl127_8
                   clear hi127_8 hl127_8
                   have HR127_9 := Aside0.mk hi127_9
                   have HC127_9 := Aside0.mk hl127_9
                   clear hi127_9 hl127_9
                   replace p127 := eq_true p127
                   replace q127 := eq_true q127
                   go_wp2_with (first | (go_at_call 62; (with_reducible refine (gristmillref5_takes.calls ((rd_T40 l0_5 x6_3).f0) ((rd_T40 l0_5 x6_3).f1) ((rd_T40 l0_5 x6_3).f2) _ _ ((rd_T40 l0_5 x6_3).f3) ((rd_T40 l0_5 x6_3).f4.f0) ((rd_T40 l0_5 x6_3).f4.f1) ((rd_T40 l0_5 x6_3).f4.f2) _ _ ((rd_T40 l0_5 x6_3).f4.f3) _ _ ((rd_T40 l0_5 x6_3).f4.f4) _ _ ((rd_T40 l0_5 x6_3).f4.f5) false _ ?side35 ?side36 ?side37 ?side38 ?side39 ?side40 ?side41 ?side42 A57.out).mono ?_); (case side35 => repeat (first | exact (Kd.C_below HR127_3.out HB.out) | (with_reducible refine Kd.C_alloc ?_ _) | (with_reducible refine Kd.C_drewN ?_ _) | (with_reducible refine Kd.C_drew ?_))); (case side36 => exact HC127_3.out); (case side37 => repeat (first | exact (Kd.C_below HR127_7.out HB.out) | (with_reducible refine Kd.C_alloc ?_ _) | (with_reducible refine Kd.C_drewN ?_ _) | (with_reducible refine Kd.C_drew ?_))); (case side38 => exact HC127_7.out); (case side39 => repeat (first | exact (Kd.C_below HR127_8.out HB.out) | (with_reducible refine Kd.C_alloc ?_ _) | (with_reducible refine Kd.C_drewN ?_ _) | (with_reducible refine Kd.C_drew ?_))); (case side40 => exact HC127_8.out); (case side41 => repeat (first | exact (Kd.C_below HR127_9.out HB.out) | (with_reducible refine Kd.C_alloc ?_ _) | (with_reducible refine Kd.C_drewN ?_ _) | (with_reducible refine Kd.C_drew ?_))); (case side42 => exact HC127_9.out); rintro e w62 ⟨rfl, hb⟩; have n0_ := Aside0.mk (blk_below (g := gb125) (o := .cells #[.int .i64 a0_0, .string a0_1, .int .i64 a0_2, .slice A0_3 l0_3.length c0_3, .slice A0_4 l0_4.length c0_4, .slice (some ad127) l0_5.length c0_5] 33 (0, 0)) (by (with_reducible repeat (first | refine blk_drewN ?_ _ | refine blk_drew ?_ | refine blk_alloc ?_ _)); exact BK125.out) hb); have n1_ := Aside0.mk (below_step (by repeat (first | (with_reducible first | exact HB.out | apply below_alloc | apply pw_below_drewN | apply below_drew1 | refine below_set ?_ GE125.out) | exact HB.out)) hb); clear BK125; clear HB; have BK125 := n0_; have HB := n1_; clear n0_ n1_; (try clear hb); (try clear hb2); (try clear hk); (try clear hi)))
                   repeat (go_quiet (first | (go_at_call 62; (with_reducible refine (gristmillref5_takes.calls ((rd_T40 l0_5 x6_3).f0) ((rd_T40 l0_5 x6_3).f1) ((rd_T40 l0_5 x6_3).f2) _ _ ((rd_T40 l0_5 x6_3).f3) ((rd_T40 l0_5 x6_3).f4.f0) ((rd_T40 l0_5 x6_3).f4.f1) ((rd_T40 l0_5 x6_3).f4.f2) _ _ ((rd_T40 l0_5 x6_3).f4.f3) _ _ ((rd_T40 l0_5 x6_3).f4.f4) _ _ ((rd_T40 l0_5 x6_3).f4.f5) false _ ?side35 ?side36 ?side37 ?side38 ?side39 ?side40 ?side41 ?side42 A57.out).mono ?_); (case side35 => repeat (first | exact (Kd.C_below HR127_3.out HB.out) | (with_reducible refine Kd.C_alloc ?_ _) | (with_reducible refine Kd.C_drewN ?_ _) | (with_reducible refine Kd.C_drew ?_))); (case side36 => exact HC127_3.out); (case side37 => repeat (first | exact (Kd.C_below HR127_7.out HB.out) | (with_reducible refine Kd.C_alloc ?_ _) | (with_reducible refine Kd.C_drewN ?_ _) | (with_reducible refine Kd.C_drew ?_))); (case side38 => exact HC127_7.out); (case side39 => repeat (first | exact (Kd.C_below HR127_8.out HB.out) | (with_reducible refine Kd.C_alloc ?_ _) | (with_reducible refine Kd.C_drewN ?_ _) | (with_reducible refine Kd.C_drew ?_))); (case side40 => exact HC127_8.out); (case side41 => repeat (first | exact (Kd.C_below HR127_9.out HB.out) | (with_reducible refine Kd.C_alloc ?_ _) | (with_reducible refine Kd.C_drewN ?_ _) | (with_reducible refine Kd.C_drew ?_))); (case side42 => exact HC127_9.out); rintro e w62 ⟨rfl, hb⟩; have n0_ := Aside0.mk (blk_below (g := gb125) (o := .cells #[.int .i64 a0_0, .string a0_1, .int .i64 a0_2, .slice A0_3 l0_3.length c0_3, .slice A0_4 l0_4.length c0_4, .slice (some ad127) l0_5.length c0_5] 33 (0, 0)) (by (with_reducible repeat (first | refine blk_drewN ?_ _ | refine blk_drew ?_ | refine blk_alloc ?_ _)); exact BK125.out) hb); have n1_ := Aside0.mk (below_step (by repeat (first | (with_reducible first | exact HB.out | apply below_alloc | apply pw_below_drewN | apply below_drew1 | refine below_set ?_ GE125.out) | exact HB.out)) hb); clear BK125; clear HB; have BK125 := n0_; have HB := n1_; clear n0_ n1_; (try clear hb); (try clear hb2); (try clear hk); (try clear hi))); try go_wp2_with (first | (go_at_call 62; (with_reducible refine (gristmillref5_takes.calls ((rd_T40 l0_5 x6_3).f0) ((rd_T40 l0_5 x6_3).f1) ((rd_T40 l0_5 x6_3).f2) _ _ ((rd_T40 l0_5 x6_3).f3) ((rd_T40 l0_5 x6_3).f4.f0) ((rd_T40 l0_5 x6_3).f4.f1) ((rd_T40 l0_5 x6_3).f4.f2) _ _ ((rd_T40 l0_5 x6_3).f4.f3) _ _ ((rd_T40 l0_5 x6_3).f4.f4) _ _ ((rd_T40 l0_5 x6_3).f4.f5) false _ ?side35 ?side36 ?side37 ?side38 ?side39 ?side40 ?side41 ?side42 A57.out).mono ?_); (case side35 => repeat (first | exact (Kd.C_below HR127_3.out HB.out) | (with_reducible refine Kd.C_alloc ?_ _) | (with_reducible refine Kd.C_drewN ?_ _) | (with_reducible refine Kd.C_drew ?_))); (case side36 => exact HC127_3.out); (case side37 => repeat (first | exact (Kd.C_below HR127_7.out HB.out) | (with_reducible refine Kd.C_alloc ?_ _) | (with_reducible refine Kd.C_drewN ?_ _) | (with_reducible refine Kd.C_drew ?_))); (case side38 => exact HC127_7.out); (case side39 => repeat (first | exact (Kd.C_below HR127_8.out HB.out) | (with_reducible refine Kd.C_alloc ?_ _) | (with_reducible refine Kd.C_drewN ?_ _) | (with_reducible refine Kd.C_drew ?_))); (case side40 => exact HC127_8.out); (case side41 => repeat (first | exact (Kd.C_below HR127_9.out HB.out) | (with_reducible refine Kd.C_alloc ?_ _) | (with_reducible refine Kd.C_drewN ?_ _) | (with_reducible refine Kd.C_drew ?_))); (case side42 => exact HC127_9.out); rintro e w62 ⟨rfl, hb⟩; have n0_ := Aside0.mk (blk_below (g := gb125) (o := .cells #[.int .i64 a0_0, .string a0_1, .int .i64 a0_2, .slice A0_3 l0_3.length c0_3, .slice A0_4 l0_4.length c0_4, .slice (some ad127) l0_5.length c0_5] 33 (0, 0)) (by (with_reducible repeat (first | refine blk_drewN ?_ _ | refine blk_drew ?_ | refine blk_alloc ?_ _)); exact BK125.out) hb); have n1_ := Aside0.mk (below_step (by repeat (first | (with_reducible first | exact HB.out | apply below_alloc | apply pw_below_drewN | apply below_drew1 | refine below_set ?_ GE125.out) | exact HB.out)) hb); clear BK125; clear HB; have BK125 := n0_; have HB := n1_; clear n0_ n1_; (try clear hb); (try clear hb2); (try clear hk); (try clear hi))))
                   go_ret
                   exact ⟨by first | rfl | (simp [errW_none, errW_some] <;> rfl) | (simp [*, errW_none, errW_some] <;> rfl) | (simp [errW_none, errW_some] <;> (rw [Bool.eq_iff_iff]; simp; done)), by repeat (first | (with_reducible first | exact HB.out | apply below_alloc | apply pw_below_drewN | apply below_drew1 | refine below_set ?_ GE125.out) | exact HB.out)⟩
                 ·rw [if_neg c56] at H
                  exact absurd H (by simp)
                ·rw [if_neg c55] at H
                 exact absurd H (by simp)
               ·rw [if_neg c54] at H
                have c54b0 : decide (x6_3 < (l0_5.length : Int)) = false := decide_eq_false c54
                clear c54
                obtain rfl := Option.some.inj H
                go_wp2
                repeat (go_quiet (fail); try go_wp2)
                go_ret
                exact ⟨by first | rfl | (simp [errW_none, errW_some] <;> rfl) | (simp [*, errW_none, errW_some] <;> rfl) | (simp [errW_none, errW_some] <;> (rw [Bool.eq_iff_iff]; simp; done)), by repeat (first | (with_reducible first | exact HB.out | apply below_alloc | apply pw_below_drewN | apply below_drew1 | refine below_set ?_ GE125.out) | exact HB.out)⟩
         ·rw [if_neg c43] at H
          have c43b0 : (a0_0 == 8) = false := beq_eq_false_iff_ne.mpr c43
          have c43b1 : (a0_0 != 8) = true := bne_iff_ne.mpr c43
          by_cases c63 : a0_0 = 9
          ·rw [if_pos c63] at H
           have c63b0 : (a0_0 == 9) = true := beq_iff_eq.mpr c63
           have c63b1 : (a0_0 != 9) = false := bne_eq_false_iff_eq.mpr c63
           clear c63
           by_cases c64 : (wrap64 ((l0_3.length : Int) + (l0_5.length : Int))) = 0
           ·rw [if_pos c64] at H
            have c64b0 : ((wrap64 ((l0_3.length : Int) + (l0_5.length : Int))) == 0) = true := beq_iff_eq.mpr c64
            have c64b1 : ((wrap64 ((l0_3.length : Int) + (l0_5.length : Int))) != 0) = false := bne_eq_false_iff_eq.mpr c64
            clear c64
            by_cases c65 : a0_2 = 0
            ·rw [if_pos c65] at H
             have c65b0 : (a0_2 == 0) = true := beq_iff_eq.mpr c65
             have c65b1 : (a0_2 != 0) = false := bne_eq_false_iff_eq.mpr c65
             clear c65
             replace H := Option.bind_eq_some_iff.mp H
             obtain ⟨t129, A660, H⟩ := H
             replace H : (if t129 > 0 then ((gristmillref1_Arity.f kj1 a0_1).bind fun t130 => (some (t130 == (l0_4.length : Int)))) else (some false)) = some r := H
             have A66 := Aside0.mk A660
             clear A660
             by_cases c67 : t129 > 0
             ·rw [if_pos c67] at H
              have c67b0 : decide (0 < t129) = true := decide_eq_true c67
              clear c67
              replace H := Option.bind_eq_some_iff.mp H
              obtain ⟨t130, A680, H⟩ := H
              replace H : (some (t130 == (l0_4.length : Int))) = some r := H
              have A68 := Aside0.mk A680
              clear A680
              obtain rfl := Option.some.inj H
              have hcz69_0 : wc.cell? ⟨gb125, 0, none⟩ = some (.int .i64 a0_0) := (blk_cell BK125.out 0).trans rfl
              have hcz69_1 : wc.cell? ⟨gb125, 1, none⟩ = some (.string a0_1) := (blk_cell BK125.out 1).trans rfl
              have hcz69_2 : wc.cell? ⟨gb125, 2, none⟩ = some (.int .i64 a0_2) := (blk_cell BK125.out 2).trans rfl
              have hcz69_3 : wc.cell? ⟨gb125, 3, none⟩ = some (.slice A0_3 l0_3.length c0_3) := (blk_cell BK125.out 3).trans rfl
              have hcz69_4 : wc.cell? ⟨gb125, 4, none⟩ = some (.slice A0_4 l0_4.length c0_4) := (blk_cell BK125.out 4).trans rfl
              have hcz69_5 : wc.cell? ⟨gb125, 5, none⟩ = some (.slice A0_5 l0_5.length c0_5) := (blk_cell BK125.out 5).trans rfl
              have hfz69_0 := blk_frozen BK125.out 0
              have hfz69_1 := blk_frozen BK125.out 1
              have hfz69_2 := blk_frozen BK125.out 2
              have hfz69_3 := blk_frozen BK125.out 3
              have hfz69_4 := blk_frozen BK125.out 4
              have hfz69_5 := blk_frozen BK125.out 5
              go_wp2_with (first | (go_at_call 63; (with_reducible refine (gristmillref1_Arity.calls kj1 a0_1 t129 _ A66.out).mono ?_); rintro e w70 ⟨rfl, hb⟩; have n0_ := Aside0.mk (blk_below (g := gb125) (o := .cells #[.int .i64 a0_0, .string a0_1, .int .i64 a0_2, .slice A0_3 l0_3.length c0_3, .slice A0_4 l0_4.length c0_4, .slice A0_5 l0_5.length c0_5] 33 (0, 0)) (by (with_reducible repeat (first | refine blk_drewN ?_ _ | refine blk_drew ?_ | refine blk_alloc ?_ _)); exact BK125.out) hb); have n1_ := Aside0.mk (below_step (by repeat (first | (with_reducible first | exact HB.out | apply below_alloc | apply pw_below_drewN | apply below_drew1 | refine below_set ?_ GE125.out) | exact HB.out)) hb); clear BK125; clear HB; have BK125 := n0_; have HB := n1_; clear n0_ n1_; (try clear hb); (try clear hb2); (try clear hk); (try clear hi); have hcz71_0 : w70.cell? ⟨gb125, 0, none⟩ = some (.int .i64 a0_0) := (blk_cell BK125.out 0).trans rfl; have hcz71_1 : w70.cell? ⟨gb125, 1, none⟩ = some (.string a0_1) := (blk_cell BK125.out 1).trans rfl; have hcz71_2 : w70.cell? ⟨gb125, 2, none⟩ = some (.int .i64 a0_2) := (blk_cell BK125.out 2).trans rfl; have hcz71_3 : w70.cell? ⟨gb125, 3, none⟩ = some (.slice A0_3 l0_3.length c0_3) := (blk_cell BK125.out 3).trans rfl; have hcz71_4 : w70.cell? ⟨gb125, 4, none⟩ = some (.slice A0_4 l0_4.length c0_4) := (blk_cell BK125.out 4).trans rfl; have hcz71_5 : w70.cell? ⟨gb125, 5, none⟩ = some (.slice A0_5 l0_5.length c0_5) := (blk_cell BK125.out 5).trans rfl; have hfz71_0 := blk_frozen BK125.out 0; have hfz71_1 := blk_frozen BK125.out 1; have hfz71_2 := blk_frozen BK125.out 2; have hfz71_3 := blk_frozen BK125.out 3; have hfz71_4 := blk_frozen BK125.out 4; have hfz71_5 := blk_frozen BK125.out 5) | (go_at_call 63; (with_reducible refine (gristmillref1_Arity.calls kj1 a0_1 t130 _ A68.out).mono ?_); rintro e w72 ⟨rfl, hb⟩; have n0_ := Aside0.mk (blk_below (g := gb125) (o := .cells #[.int .i64 a0_0, .string a0_1, .int .i64 a0_2, .slice A0_3 l0_3.length c0_3, .slice A0_4 l0_4.length c0_4, .slice A0_5 l0_5.length c0_5] 33 (0, 0)) (by (with_reducible repeat (first | refine blk_drewN ?_ _ | refine blk_drew ?_ | refine blk_alloc ?_ _)); exact BK125.out) hb); have n1_ := Aside0.mk (below_step (by repeat (first | (with_reducible first | exact HB.out | apply below_alloc | apply pw_below_drewN | apply below_drew1 | refine below_set ?_ GE125.out) | exact HB.out)) hb); clear BK125; clear HB; have BK125 := n0_; have HB := n1_; clear n0_ n1_; (try clear hb); (try clear hb2); (try clear hk); (try clear hi)))
              repeat (go_quiet (first | (go_at_call 63; (with_reducible refine (gristmillref1_Arity.calls kj1 a0_1 t129 _ A66.out).mono ?_); rintro e w70 ⟨rfl, hb⟩; have n0_ := Aside0.mk (blk_below (g := gb125) (o := .cells #[.int .i64 a0_0, .string a0_1, .int .i64 a0_2, .slice A0_3 l0_3.length c0_3, .slice A0_4 l0_4.length c0_4, .slice A0_5 l0_5.length c0_5] 33 (0, 0)) (by (with_reducible repeat (first | refine blk_drewN ?_ _ | refine blk_drew ?_ | refine blk_alloc ?_ _)); exact BK125.out) hb); have n1_ := Aside0.mk (below_step (by repeat (first | (with_reducible first | exact HB.out | apply below_alloc | apply pw_below_drewN | apply below_drew1 | refine below_set ?_ GE125.out) | exact HB.out)) hb); clear BK125; clear HB; have BK125 := n0_; have HB := n1_; clear n0_ n1_; (try clear hb); (try clear hb2); (try clear hk); (try clear hi); have hcz71_0 : w70.cell? ⟨gb125, 0, none⟩ = some (.int .i64 a0_0) := (blk_cell BK125.out 0).trans rfl; have hcz71_1 : w70.cell? ⟨gb125, 1, none⟩ = some (.string a0_1) := (blk_cell BK125.out 1).trans rfl; have hcz71_2 : w70.cell? ⟨gb125, 2, none⟩ = some (.int .i64 a0_2) := (blk_cell BK125.out 2).trans rfl; have hcz71_3 : w70.cell? ⟨gb125, 3, none⟩ = some (.slice A0_3 l0_3.length c0_3) := (blk_cell BK125.out 3).trans rfl; have hcz71_4 : w70.cell? ⟨gb125, 4, none⟩ = some (.slice A0_4 l0_4.length c0_4) := (blk_cell BK125.out 4).trans rfl; have hcz71_5 : w70.cell? ⟨gb125, 5, none⟩ = some (.slice A0_5 l0_5.length c0_5) := (blk_cell BK125.out 5).trans rfl; have hfz71_0 := blk_frozen BK125.out 0; have hfz71_1 := blk_frozen BK125.out 1; have hfz71_2 := blk_frozen BK125.out 2; have hfz71_3 := blk_frozen BK125.out 3; have hfz71_4 := blk_frozen BK125.out 4; have hfz71_5 := blk_frozen BK125.out 5) | (go_at_call 63; (with_reducible refine (gristmillref1_Arity.calls kj1 a0_1 t130 _ A68.out).mono ?_); rintro e w72 ⟨rfl, hb⟩; have n0_ := Aside0.mk (blk_below (g := gb125) (o := .cells #[.int .i64 a0_0, .string a0_1, .int .i64 a0_2, .slice A0_3 l0_3.length c0_3, .slice A0_4 l0_4.length c0_4, .slice A0_5 l0_5.length c0_5] 33 (0, 0)) (by (with_reducible repeat (first | refine blk_drewN ?_ _ | refine blk_drew ?_ | refine blk_alloc ?_ _)); exact BK125.out) hb); have n1_ := Aside0.mk (below_step (by repeat (first | (with_reducible first | exact HB.out | apply below_alloc | apply pw_below_drewN | apply below_drew1 | refine below_set ?_ GE125.out) | exact HB.out)) hb); clear BK125; clear HB; have BK125 := n0_; have HB := n1_; clear n0_ n1_; (try clear hb); (try clear hb2); (try clear hk); (try clear hi))); try go_wp2_with (first | (go_at_call 63; (with_reducible refine (gristmillref1_Arity.calls kj1 a0_1 t129 _ A66.out).mono ?_); rintro e w70 ⟨rfl, hb⟩; have n0_ := Aside0.mk (blk_below (g := gb125) (o := .cells #[.int .i64 a0_0, .string a0_1, .int .i64 a0_2, .slice A0_3 l0_3.length c0_3, .slice A0_4 l0_4.length c0_4, .slice A0_5 l0_5.length c0_5] 33 (0, 0)) (by (with_reducible repeat (first | refine blk_drewN ?_ _ | refine blk_drew ?_ | refine blk_alloc ?_ _)); exact BK125.out) hb); have n1_ := Aside0.mk (below_step (by repeat (first | (with_reducible first | exact HB.out | apply below_alloc | apply pw_below_drewN | apply below_drew1 | refine below_set ?_ GE125.out) | exact HB.out)) hb); clear BK125; clear HB; have BK125 := n0_; have HB := n1_; clear n0_ n1_; (try clear hb); (try clear hb2); (try clear hk); (try clear hi); have hcz71_0 : w70.cell? ⟨gb125, 0, none⟩ = some (.int .i64 a0_0) := (blk_cell BK125.out 0).trans rfl; have hcz71_1 : w70.cell? ⟨gb125, 1, none⟩ = some (.string a0_1) := (blk_cell BK125.out 1).trans rfl; have hcz71_2 : w70.cell? ⟨gb125, 2, none⟩ = some (.int .i64 a0_2) := (blk_cell BK125.out 2).trans rfl; have hcz71_3 : w70.cell? ⟨gb125, 3, none⟩ = some (.slice A0_3 l0_3.length c0_3) := (blk_cell BK125.out 3).trans rfl; have hcz71_4 : w70.cell? ⟨gb125, 4, none⟩ = some (.slice A0_4 l0_4.length c0_4) := (blk_cell BK125.out 4).trans rfl; have hcz71_5 : w70.cell? ⟨gb125, 5, none⟩ = some (.slice A0_5 l0_5.length c0_5) := (blk_cell BK125.out 5).trans rfl; have hfz71_0 := blk_frozen BK125.out 0; have hfz71_1 := blk_frozen BK125.out 1; have hfz71_2 := blk_frozen BK125.out 2; have hfz71_3 := blk_frozen BK125.out 3; have hfz71_4 := blk_frozen BK125.out 4; have hfz71_5 := blk_frozen BK125.out 5) | (go_at_call 63; (with_reducible refine (gristmillref1_Arity.calls kj1 a0_1 t130 _ A68.out).mono ?_); rintro e w72 ⟨rfl, hb⟩; have n0_ := Aside0.mk (blk_below (g := gb125) (o := .cells #[.int .i64 a0_0, .string a0_1, .int .i64 a0_2, .slice A0_3 l0_3.length c0_3, .slice A0_4 l0_4.length c0_4, .slice A0_5 l0_5.length c0_5] 33 (0, 0)) (by (with_reducible repeat (first | refine blk_drewN ?_ _ | refine blk_drew ?_ | refine blk_alloc ?_ _)); exact BK125.out) hb); have n1_ := Aside0.mk (below_step (by repeat (first | (with_reducible first | exact HB.out | apply below_alloc | apply pw_below_drewN | apply below_drew1 | refine below_set ?_ GE125.out) | exact HB.out)) hb); clear BK125; clear HB; have BK125 := n0_; have HB := n1_; clear n0_ n1_; (try clear hb); (try clear hb2); (try clear hk); (try clear hi))))
              have hh : t130 = t129 := Option.some.inj (A68.out.symm.trans A66.out)
              subst hh
              go_ret
              exact ⟨by first | rfl | (simp [errW_none, errW_some] <;> rfl) | (simp [*, errW_none, errW_some] <;> rfl) | (simp [errW_none, errW_some] <;> (rw [Bool.eq_iff_iff]; simp; done)), by repeat (first | (with_reducible first | exact HB.out | apply below_alloc | apply pw_below_drewN | apply below_drew1 | refine below_set ?_ GE125.out) | exact HB.out)⟩
             ·rw [if_neg c67] at H
              have c67b0 : decide (0 < t129) = false := decide_eq_false c67
              clear c67
              obtain rfl := Option.some.inj H
              have hcz73_0 : wc.cell? ⟨gb125, 0, none⟩ = some (.int .i64 a0_0) := (blk_cell BK125.out 0).trans rfl
              have hcz73_1 : wc.cell? ⟨gb125, 1, none⟩ = some (.string a0_1) := (blk_cell BK125.out 1).trans rfl
              have hcz73_2 : wc.cell? ⟨gb125, 2, none⟩ = some (.int .i64 a0_2) := (blk_cell BK125.out 2).trans rfl
              have hcz73_3 : wc.cell? ⟨gb125, 3, none⟩ = some (.slice A0_3 l0_3.length c0_3) := (blk_cell BK125.out 3).trans rfl
              have hcz73_4 : wc.cell? ⟨gb125, 4, none⟩ = some (.slice A0_4 l0_4.length c0_4) := (blk_cell BK125.out 4).trans rfl
              have hcz73_5 : wc.cell? ⟨gb125, 5, none⟩ = some (.slice A0_5 l0_5.length c0_5) := (blk_cell BK125.out 5).trans rfl
              have hfz73_0 := blk_frozen BK125.out 0
              have hfz73_1 := blk_frozen BK125.out 1
              have hfz73_2 := blk_frozen BK125.out 2
              have hfz73_3 := blk_frozen BK125.out 3
              have hfz73_4 := blk_frozen BK125.out 4
              have hfz73_5 := blk_frozen BK125.out 5
              go_wp2_with (first | (go_at_call 63; (with_reducible refine (gristmillref1_Arity.calls kj1 a0_1 t129 _ A66.out).mono ?_); rintro e w74 ⟨rfl, hb⟩; have n0_ := Aside0.mk (blk_below (g := gb125) (o := .cells #[.int .i64 a0_0, .string a0_1, .int .i64 a0_2, .slice A0_3 l0_3.length c0_3, .slice A0_4 l0_4.length c0_4, .slice A0_5 l0_5.length c0_5] 33 (0, 0)) (by (with_reducible repeat (first | refine blk_drewN ?_ _ | refine blk_drew ?_ | refine blk_alloc ?_ _)); exact BK125.out) hb); have n1_ := Aside0.mk (below_step (by repeat (first | (with_reducible first | exact HB.out | apply below_alloc | apply pw_below_drewN | apply below_drew1 | refine below_set ?_ GE125.out) | exact HB.out)) hb); clear BK125; clear HB; have BK125 := n0_; have HB := n1_; clear n0_ n1_; (try clear hb); (try clear hb2); (try clear hk); (try clear hi)))
              repeat (go_quiet (first | (go_at_call 63; (with_reducible refine (gristmillref1_Arity.calls kj1 a0_1 t129 _ A66.out).mono ?_); rintro e w74 ⟨rfl, hb⟩; have n0_ := Aside0.mk (blk_below (g := gb125) (o := .cells #[.int .i64 a0_0, .string a0_1, .int .i64 a0_2, .slice A0_3 l0_3.length c0_3, .slice A0_4 l0_4.length c0_4, .slice A0_5 l0_5.length c0_5] 33 (0, 0)) (by (with_reducible repeat (first | refine blk_drewN ?_ _ | refine blk_drew ?_ | refine blk_alloc ?_ _)); exact BK125.out) hb); have n1_ := Aside0.mk (below_step (by repeat (first | (with_reducible first | exact HB.out | apply below_alloc | apply pw_below_drewN | apply below_drew1 | refine below_set ?_ GE125.out) | exact HB.out)) hb); clear BK125; clear HB; have BK125 := n0_; have HB := n1_; clear n0_ n1_; (try clear hb); (try clear hb2); (try clear hk); (try clear hi))); try go_wp2_with (first | (go_at_call 63; (with_reducible refine (gristmillref1_Arity.calls kj1 a0_1 t129 _ A66.out).mono ?_); rintro e w74 ⟨rfl, hb⟩; have n0_ := Aside0.mk (blk_below (g := gb125) (o := .cells #[.int .i64 a0_0, .string a0_1, .int .i64 a0_2, .slice A0_3 l0_3.length c0_3, .slice A0_4 l0_4.length c0_4, .slice A0_5 l0_5.length c0_5] 33 (0, 0)) (by (with_reducible repeat (first | refine blk_drewN ?_ _ | refine blk_drew ?_ | refine blk_alloc ?_ _)); exact BK125.out) hb); have n1_ := Aside0.mk (below_step (by repeat (first | (with_reducible first | exact HB.out | apply below_alloc | apply pw_below_drewN | apply below_drew1 | refine below_set ?_ GE125.out) | exact HB.out)) hb); clear BK125; clear HB; have BK125 := n0_; have HB := n1_; clear n0_ n1_; (try clear hb); (try clear hb2); (try clear hk); (try clear hi))))
              go_ret
              exact ⟨by first | rfl | (simp [errW_none, errW_some] <;> rfl) | (simp [*, errW_none, errW_some] <;> rfl) | (simp [errW_none, errW_some] <;> (rw [Bool.eq_iff_iff]; simp; done)), by repeat (first | (with_reducible first | exact HB.out | apply below_alloc | apply pw_below_drewN | apply below_drew1 | refine below_set ?_ GE125.out) | exact HB.out)⟩
            ·rw [if_neg c65] at H
             have c65b0 : (a0_2 == 0) = false := beq_eq_false_iff_ne.mpr c65
             have c65b1 : (a0_2 != 0) = true := bne_iff_ne.mpr c65
             obtain rfl := Option.some.inj H
             have hcz75_0 : wc.cell? ⟨gb125, 0, none⟩ = some (.int .i64 a0_0) := (blk_cell BK125.out 0).trans rfl
             have hcz75_1 : wc.cell? ⟨gb125, 1, none⟩ = some (.string a0_1) := (blk_cell BK125.out 1).trans rfl
             have hcz75_2 : wc.cell? ⟨gb125, 2, none⟩ = some (.int .i64 a0_2) := (blk_cell BK125.out 2).trans rfl
             have hcz75_3 : wc.cell? ⟨gb125, 3, none⟩ = some (.slice A0_3 l0_3.length c0_3) := (blk_cell BK125.out 3).trans rfl
             have hcz75_4 : wc.cell? ⟨gb125, 4, none⟩ = some (.slice A0_4 l0_4.length c0_4) := (blk_cell BK125.out 4).trans rfl
             have hcz75_5 : wc.cell? ⟨gb125, 5, none⟩ = some (.slice A0_5 l0_5.length c0_5) := (blk_cell BK125.out 5).trans rfl
             have hfz75_0 := blk_frozen BK125.out 0
             have hfz75_1 := blk_frozen BK125.out 1
             have hfz75_2 := blk_frozen BK125.out 2
             have hfz75_3 := blk_frozen BK125.out 3
             have hfz75_4 := blk_frozen BK125.out 4
             have hfz75_5 := blk_frozen BK125.out 5
             go_wp2
             repeat (go_quiet (fail); try go_wp2)
             go_ret
             exact ⟨by first | rfl | (simp [errW_none, errW_some] <;> rfl) | (simp [*, errW_none, errW_some] <;> rfl) | (simp [errW_none, errW_some] <;> (rw [Bool.eq_iff_iff]; simp; done)), by repeat (first | (with_reducible first | exact HB.out | apply below_alloc | apply pw_below_drewN | apply below_drew1 | refine below_set ?_ GE125.out) | exact HB.out)⟩
           ·rw [if_neg c64] at H
            have c64b0 : ((wrap64 ((l0_3.length : Int) + (l0_5.length : Int))) == 0) = false := beq_eq_false_iff_ne.mpr c64
            have c64b1 : ((wrap64 ((l0_3.length : Int) + (l0_5.length : Int))) != 0) = true := bne_iff_ne.mpr c64
            obtain rfl := Option.some.inj H
            go_wp2
            repeat (go_quiet (fail); try go_wp2)
            go_ret
            exact ⟨by first | rfl | (simp [errW_none, errW_some] <;> rfl) | (simp [*, errW_none, errW_some] <;> rfl) | (simp [errW_none, errW_some] <;> (rw [Bool.eq_iff_iff]; simp; done)), by repeat (first | (with_reducible first | exact HB.out | apply below_alloc | apply pw_below_drewN | apply below_drew1 | refine below_set ?_ GE125.out) | exact HB.out)⟩
          ·rw [if_neg c63] at H
           have c63b0 : (a0_0 == 9) = false := beq_eq_false_iff_ne.mpr c63
           have c63b1 : (a0_0 != 9) = true := bne_iff_ne.mpr c63
           by_cases c76 : a0_0 = 10
           ·rw [if_pos c76] at H
            have c76b0 : (a0_0 == 10) = true := beq_iff_eq.mpr c76
            have c76b1 : (a0_0 != 10) = false := bne_eq_false_iff_eq.mpr c76
            clear c76
            by_cases c77 : (wrap64 ((wrap64 ((l0_3.length : Int) + (l0_4.length : Int))) + (l0_5.length : Int))) = 0
            ·rw [if_pos c77] at H
             have c77b0 : ((wrap64 ((wrap64 ((l0_3.length : Int) + (l0_4.length : Int))) + (l0_5.length : Int))) == 0) = true := beq_iff_eq.mpr c77
             have c77b1 : ((wrap64 ((wrap64 ((l0_3.length : Int) + (l0_4.length : Int))) + (l0_5.length : Int))) != 0) = false := bne_eq_false_iff_eq.mpr c77
             clear c77
             by_cases c78 : a0_1.toList = ([] : List UInt8)
             ·rw [if_pos c78] at H
              have c78b0 : (a0_1.toList == ([] : List UInt8)) = true := beq_iff_eq.mpr c78
              have c78b1 : (a0_1.toList != ([] : List UInt8)) = false := bne_eq_false_iff_eq.mpr c78
              clear c78
              by_cases c79 : a0_2 ≥ 0
              ·rw [if_pos c79] at H
               have c79b0 : decide (0 ≤ a0_2) = true := decide_eq_true c79
               clear c79
               obtain rfl := Option.some.inj H
               have hcz80_0 : wc.cell? ⟨gb125, 0, none⟩ = some (.int .i64 a0_0) := (blk_cell BK125.out 0).trans rfl
               have hcz80_1 : wc.cell? ⟨gb125, 1, none⟩ = some (.string a0_1) := (blk_cell BK125.out 1).trans rfl
               have hcz80_2 : wc.cell? ⟨gb125, 2, none⟩ = some (.int .i64 a0_2) := (blk_cell BK125.out 2).trans rfl
               have hcz80_3 : wc.cell? ⟨gb125, 3, none⟩ = some (.slice A0_3 l0_3.length c0_3) := (blk_cell BK125.out 3).trans rfl
               have hcz80_4 : wc.cell? ⟨gb125, 4, none⟩ = some (.slice A0_4 l0_4.length c0_4) := (blk_cell BK125.out 4).trans rfl
               have hcz80_5 : wc.cell? ⟨gb125, 5, none⟩ = some (.slice A0_5 l0_5.length c0_5) := (blk_cell BK125.out 5).trans rfl
               have hfz80_0 := blk_frozen BK125.out 0
               have hfz80_1 := blk_frozen BK125.out 1
               have hfz80_2 := blk_frozen BK125.out 2
               have hfz80_3 := blk_frozen BK125.out 3
               have hfz80_4 := blk_frozen BK125.out 4
               have hfz80_5 := blk_frozen BK125.out 5
               go_wp2
               repeat (go_quiet (fail); try go_wp2)
               go_ret
               exact ⟨by first | rfl | (simp [errW_none, errW_some] <;> rfl) | (simp [*, errW_none, errW_some] <;> rfl) | (simp [errW_none, errW_some] <;> (rw [Bool.eq_iff_iff]; simp; done)), by repeat (first | (with_reducible first | exact HB.out | apply below_alloc | apply pw_below_drewN | apply below_drew1 | refine below_set ?_ GE125.out) | exact HB.out)⟩
              ·rw [if_neg c79] at H
               have c79b0 : decide (0 ≤ a0_2) = false := decide_eq_false c79
               clear c79
               obtain rfl := Option.some.inj H
               have hcz81_0 : wc.cell? ⟨gb125, 0, none⟩ = some (.int .i64 a0_0) := (blk_cell BK125.out 0).trans rfl
               have hcz81_1 : wc.cell? ⟨gb125, 1, none⟩ = some (.string a0_1) := (blk_cell BK125.out 1).trans rfl
               have hcz81_2 : wc.cell? ⟨gb125, 2, none⟩ = some (.int .i64 a0_2) := (blk_cell BK125.out 2).trans rfl
               have hcz81_3 : wc.cell? ⟨gb125, 3, none⟩ = some (.slice A0_3 l0_3.length c0_3) := (blk_cell BK125.out 3).trans rfl
               have hcz81_4 : wc.cell? ⟨gb125, 4, none⟩ = some (.slice A0_4 l0_4.length c0_4) := (blk_cell BK125.out 4).trans rfl
               have hcz81_5 : wc.cell? ⟨gb125, 5, none⟩ = some (.slice A0_5 l0_5.length c0_5) := (blk_cell BK125.out 5).trans rfl
               have hfz81_0 := blk_frozen BK125.out 0
               have hfz81_1 := blk_frozen BK125.out 1
               have hfz81_2 := blk_frozen BK125.out 2
               have hfz81_3 := blk_frozen BK125.out 3
               have hfz81_4 := blk_frozen BK125.out 4
               have hfz81_5 := blk_frozen BK125.out 5
               go_wp2
               repeat (go_quiet (fail); try go_wp2)
               go_ret
               exact ⟨by first | rfl | (simp [errW_none, errW_some] <;> rfl) | (simp [*, errW_none, errW_some] <;> rfl) | (simp [errW_none, errW_some] <;> (rw [Bool.eq_iff_iff]; simp; done)), by repeat (first | (with_reducible first | exact HB.out | apply below_alloc | apply pw_below_drewN | apply below_drew1 | refine below_set ?_ GE125.out) | exact HB.out)⟩
             ·rw [if_neg c78] at H
              have c78b0 : (a0_1.toList == ([] : List UInt8)) = false := beq_eq_false_iff_ne.mpr c78
              have c78b1 : (a0_1.toList != ([] : List UInt8)) = true := bne_iff_ne.mpr c78
              obtain rfl := Option.some.inj H
              have hcz82_0 : wc.cell? ⟨gb125, 0, none⟩ = some (.int .i64 a0_0) := (blk_cell BK125.out 0).trans rfl
              have hcz82_1 : wc.cell? ⟨gb125, 1, none⟩ = some (.string a0_1) := (blk_cell BK125.out 1).trans rfl
              have hcz82_2 : wc.cell? ⟨gb125, 2, none⟩ = some (.int .i64 a0_2) := (blk_cell BK125.out 2).trans rfl
              have hcz82_3 : wc.cell? ⟨gb125, 3, none⟩ = some (.slice A0_3 l0_3.length c0_3) := (blk_cell BK125.out 3).trans rfl
              have hcz82_4 : wc.cell? ⟨gb125, 4, none⟩ = some (.slice A0_4 l0_4.length c0_4) := (blk_cell BK125.out 4).trans rfl
              have hcz82_5 : wc.cell? ⟨gb125, 5, none⟩ = some (.slice A0_5 l0_5.length c0_5) := (blk_cell BK125.out 5).trans rfl
              have hfz82_0 := blk_frozen BK125.out 0
              have hfz82_1 := blk_frozen BK125.out 1
              have hfz82_2 := blk_frozen BK125.out 2
              have hfz82_3 := blk_frozen BK125.out 3
              have hfz82_4 := blk_frozen BK125.out 4
              have hfz82_5 := blk_frozen BK125.out 5
              go_wp2
              repeat (go_quiet (fail); try go_wp2)
              go_ret
              exact ⟨by first | rfl | (simp [errW_none, errW_some] <;> rfl) | (simp [*, errW_none, errW_some] <;> rfl) | (simp [errW_none, errW_some] <;> (rw [Bool.eq_iff_iff]; simp; done)), by repeat (first | (with_reducible first | exact HB.out | apply below_alloc | apply pw_below_drewN | apply below_drew1 | refine below_set ?_ GE125.out) | exact HB.out)⟩
            ·rw [if_neg c77] at H
             have c77b0 : ((wrap64 ((wrap64 ((l0_3.length : Int) + (l0_4.length : Int))) + (l0_5.length : Int))) == 0) = false := beq_eq_false_iff_ne.mpr c77
             have c77b1 : ((wrap64 ((wrap64 ((l0_3.length : Int) + (l0_4.length : Int))) + (l0_5.length : Int))) != 0) = true := bne_iff_ne.mpr c77
             obtain rfl := Option.some.inj H
             go_wp2
             repeat (go_quiet (fail); try go_wp2)
             go_ret
             exact ⟨by first | rfl | (simp [errW_none, errW_some] <;> rfl) | (simp [*, errW_none, errW_some] <;> rfl) | (simp [errW_none, errW_some] <;> (rw [Bool.eq_iff_iff]; simp; done)), by repeat (first | (with_reducible first | exact HB.out | apply below_alloc | apply pw_below_drewN | apply below_drew1 | refine below_set ?_ GE125.out) | exact HB.out)⟩
           ·rw [if_neg c76] at H
            have c76b0 : (a0_0 == 10) = false := beq_eq_false_iff_ne.mpr c76
            have c76b1 : (a0_0 != 10) = true := bne_iff_ne.mpr c76
            obtain rfl := Option.some.inj H
            go_wp2
            repeat (go_quiet (fail); try go_wp2)
            go_ret
            exact ⟨by first | rfl | (simp [errW_none, errW_some] <;> rfl) | (simp [*, errW_none, errW_some] <;> rfl) | (simp [errW_none, errW_some] <;> (rw [Bool.eq_iff_iff]; simp; done)), by repeat (first | (with_reducible first | exact HB.out | apply below_alloc | apply pw_below_drewN | apply below_drew1 | refine below_set ?_ GE125.out) | exact HB.out)⟩
end Go.Proofs.YtmoeekidmkhkoaaDoor.PFreeA

