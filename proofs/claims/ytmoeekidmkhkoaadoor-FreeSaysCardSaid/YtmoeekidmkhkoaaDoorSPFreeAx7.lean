/- For each Go function that the laws of this group reach: a plain function with the same answers, and the proof that the call comes to them wherever the plain function has an answer. No other condition. (Laid by a program of this session.) -/
import Derived.Test.YtmoeekidmkhkoaaDoorSPFreeAx0
import Derived.Test.YtmoeekidmkhkoaaDoorSPFreeAx2
import Derived.Test.YtmoeekidmkhkoaaDoorSExt
namespace Go.Proofs.YtmoeekidmkhkoaaDoor.PFreeA
open Go.RowKit Go.Proofs.YtmoeekidmkhkoaaDoorW.PrintWords Go.Proofs.YtmoeekidmkhkoaaDoorW.PrintLast Go.Proofs.YtmoeekidmkhkoaaDoorW.PrintMore Go.Proofs.YtmoeekidmkhkoaaDoor.Ext
attribute [local go_sem] max2_int min2_int max_two min_two max_three min_three max_four min_four   -- for this text's walks alone
set_option linter.unusedVariables false
set_option linter.unusedSimpArgs false
mutual
def gristmillref1_Deep.l0 : Nat → List (S56) → Int → Int → Option (Int)
 | 0, _, _, _ => none
 | k + 1, x0, x3, x4 => if x4 < (x0.length : Int) then (if 0 ≤ x4 then (if ((rd_T56 x0 x4).f0).toList = ([] : List UInt8) then ((gristmillref1_Deep.f k ((rd_T56 x0 x4).f1)).bind fun t151 => (gristmillref1_Deep.l0 k x0 (mx x3 (wrap64 (1 + t151))) (wrap64 (x4 + 1)))) else (gristmillref1_Deep.l0 k x0 x3 (wrap64 (x4 + 1)))) else (none)) else (some x3)
def gristmillref1_Deep.f : Nat → List (S56) → Option (Int)
 | 0, _ => none
 | k + 1, l0 => gristmillref1_Deep.l0 k l0 0 0
end
theorem gristmillref1_Deep.mono_l : ∀ k, (∀ y0, LeO (gristmillref1_Deep.f k y0) (gristmillref1_Deep.f (k + 1) y0)) ∧ (∀ y0 y1 y2, LeO (gristmillref1_Deep.l0 k y0 y1 y2) (gristmillref1_Deep.l0 (k + 1) y0 y1 y2))
 | 0 => ⟨fun _ r h => by simp [gristmillref1_Deep.f] at h, fun _ _ _ r h => by simp [gristmillref1_Deep.l0] at h⟩
 | k + 1 => by
  obtain ⟨ih0, ih1⟩ := gristmillref1_Deep.mono_l k
  refine ⟨?_, ?_⟩
  ·intro y0
   unfold gristmillref1_Deep.f
   repeat' first
   | (with_reducible exact ih0 _)
   | (with_reducible exact ih1 _ _ _)
   | (with_reducible exact LeO.refl _)
   | (with_reducible exact LeO.none _)
   | (with_reducible refine LeO.ite ?_ ?_)
   | (with_reducible refine LeO.bind ?_ (fun _ => ?_))
   | exact ih0 _
   | exact ih1 _ _ _
   | exact LeO.none _
   | refine LeO.ite ?_ ?_
   | refine LeO.bind ?_ (fun _ => ?_)
  ·intro y0 y1 y2
   unfold gristmillref1_Deep.l0
   repeat' first
   | (with_reducible exact ih0 _)
   | (with_reducible exact ih1 _ _ _)
   | (with_reducible exact LeO.refl _)
   | (with_reducible exact LeO.none _)
   | (with_reducible refine LeO.ite ?_ ?_)
   | (with_reducible refine LeO.bind ?_ (fun _ => ?_))
   | exact ih0 _
   | exact ih1 _ _ _
   | exact LeO.none _
   | refine LeO.ite ?_ ?_
   | refine LeO.bind ?_ (fun _ => ?_)
theorem gristmillref1_Deep.mono : ∀ a0 k, LeO (gristmillref1_Deep.f k a0) (gristmillref1_Deep.f (k + 1) a0) := by
 intro a0 k
 obtain ⟨ih0, ih1⟩ := gristmillref1_Deep.mono_l k
 exact ih0 a0
set_option maxHeartbeats 8000000 in
set_option maxRecDepth 100000 in
theorem gristmillref1_Deep.calls (k : Nat) : ∀ (A0 : Option Addr) (c0 : Nat) (l0 : List (S56)) (r : Int) (w : World) (hr0 : Kd.C k56 w A0 l0.length l0) (hc0 : l0.length ≤ c0) (h : gristmillref1_Deep.f k l0 = some r),
  Calls Tryd.prog 36 #[.slice A0 l0.length c0] w fun e w' => e = .returned (.int .i64 r) ∧ Below w.heap.size w w' := by
 induction k using Nat.strongRecOn with
 | _ k ih =>
 intro A0 c0 l0 r w hr0 hc0 h
 cases k with
 | zero => exact absurd h (by simp [gristmillref1_Deep.f])
 | succ k =>
 simp only [gristmillref1_Deep.f] at h
 have HR0 := Aside0.mk hr0
 have HC0 := Aside0.mk hc0
 clear hr0 hc0
 have HB := Aside0.mk (Below.refl w.heap.size w)
 have H : (gristmillref1_Deep.l0 k l0 0 0) = some r := h
 clear h
 have H' := Aside0.mk H
 clear H
 go_enter Tryd.func36, Tryd.ntmps36
 go_wp2
 go_loopg [3, 4] k (fun kq v3 v4 w' => ∃ (x3_1 : Int) (x4_1 : Int), v3 = .int .i64 x3_1 ∧ v4 = .int .i64 x4_1 ∧ Aside0 (gristmillref1_Deep.l0 kq l0 x3_1 x4_1 = some r) ∧ Aside0 (kq ≤ k) ∧ Aside0 (Below w.heap.size w w'))
 case atStart => exact ⟨(0), (0), (by first | rfl | (simp; done) | (simp [*]; done)), (by first | rfl | (simp; done) | (simp [*]; done)), H', ⟨Nat.le_refl _⟩, ⟨by repeat (first | (with_reducible first | exact HB.out | apply below_alloc | apply pw_below_drewN | apply below_drew1) | exact HB.out)⟩⟩
 case round =>
  clear H'
  obtain ⟨x3_1, x4_1, rfl, rfl, HA, HK1, HB⟩ := hrel
  cases gk with
  | zero => exact absurd HA.out (by simp [gristmillref1_Deep.l0])
  | succ k1 =>
   have H := HA.out
   clear HA
   simp only [gristmillref1_Deep.l0] at H
   by_cases c2 : x4_1 < (l0.length : Int)
   ·rw [if_pos c2] at H
    have c2b0 : decide (x4_1 < (l0.length : Int)) = true := decide_eq_true c2
    clear c2
    by_cases c3 : 0 ≤ x4_1
    ·rw [if_pos c3] at H
     have c3b0 : decide (0 ≤ x4_1) = true := decide_eq_true c3
     clear c3
     by_cases c4 : ((rd_T56 l0 x4_1).f0).toList = ([] : List UInt8)
     ·rw [if_pos c4] at H
      have c4b0 : (((rd_T56 l0 x4_1).f0).toList == ([] : List UInt8)) = true := beq_iff_eq.mpr c4
      have c4b1 : (((rd_T56 l0 x4_1).f0).toList != ([] : List UInt8)) = false := bne_eq_false_iff_eq.mpr c4
      clear c4
      replace H := Option.bind_eq_some_iff.mp H
      obtain ⟨t151, A50, H⟩ := H
      replace H : (gristmillref1_Deep.l0 k1 l0 (mx x3_1 (wrap64 (1 + t151))) (wrap64 (x4_1 + 1))) = some r := H
      have A5 := Aside0.mk A50
      clear A50
      obtain ⟨ji6, hji6⟩ : ∃ j_ : Int, (mx x3_1 (wrap64 (1 + t151))) = j_ := ⟨_, rfl⟩
      replace H : (gristmillref1_Deep.l0 k1 l0 ji6 (wrap64 (x4_1 + 1))) = some r := by first | (rw [hji6] at H; exact H) | (simp only [hji6] at H ⊢; exact H)
      (try rw [hji6] at A5)
      have hji6_ : (if x3_1 < (wrap64 (1 + t151)) then (wrap64 (1 + t151)) else x3_1) = ji6 := hji6
      have H' := Aside0.mk H
      clear H
      have p149 : 0 ≤ (x4_1 : Int) := of_decide_eq_true (by first | (with_reducible assumption) | assumption)
      have q149 : x4_1 < (l0.length : Int) := of_decide_eq_true (by first | (with_reducible assumption) | assumption)
      obtain ⟨ad149, A149_1, c149_1, e149, hx149_0, hx149_1, hx149_2, hl149_1, hi149_1⟩ := at_T56 HR0.out x4_1 p149 q149
      cases e149
      replace hx149_0 := (HB.out.cell (World.block_lt_of_cell? w _ hx149_0)).trans hx149_0
      replace hx149_1 := (HB.out.cell (World.block_lt_of_cell? w _ hx149_1)).trans hx149_1
      replace hx149_2 := (HB.out.cell (World.block_lt_of_cell? w _ hx149_2)).trans hx149_2
      have HR149_1 := Aside0.mk hi149_1
      have HC149_1 := Aside0.mk hl149_1
      clear hi149_1 hl149_1
      replace p149 := eq_true p149
      replace q149 := eq_true q149
      have p150 : 0 ≤ (x4_1 : Int) := of_decide_eq_true (by first | (with_reducible assumption) | assumption)
      have q150 : x4_1 < (l0.length : Int) := of_decide_eq_true (by first | (with_reducible assumption) | assumption)
      obtain ⟨ad150, A150_1, c150_1, e150, hx150_0, hx150_1, hx150_2, hl150_1, hi150_1⟩ := at_T56 HR0.out x4_1 p150 q150
      obtain rfl : ad149 = ad150 := (by injection e150)
      replace hx150_0 := (HB.out.cell (World.block_lt_of_cell? w _ hx150_0)).trans hx150_0
      replace hx150_1 := (HB.out.cell (World.block_lt_of_cell? w _ hx150_1)).trans hx150_1
      replace hx150_2 := (HB.out.cell (World.block_lt_of_cell? w _ hx150_2)).trans hx150_2
      have HR150_1 := Aside0.mk hi150_1
      have HC150_1 := Aside0.mk hl150_1
      clear hi150_1 hl150_1
      replace p150 := eq_true p150
      replace q150 := eq_true q150
      have ea_ := Option.some.inj (hx149_1.symm.trans hx150_1)
      injection ea_ with ea_ en_ ec_
      subst ea_
      subst ec_
      clear en_
      go_wp2_with (first | ((with_reducible refine gate_callee (f := 36) rfl ?_); refine goesL_ (some 23) rfl rfl Tryd.func36 (by kernel_rfl) rfl #[.slice A149_1 ((rd_T56 l0 x4_1).f1).length c149_1] rfl (by (try simp only [List.map_toArray, List.map_cons, List.map_nil]); first | done | rfl | (simp only [List.length_drop, List.length_take]; rfl)) ?_; (with_reducible refine (ih k1 (by have := HK1.out; omega) _ _ ((rd_T56 l0 x4_1).f1) t151 _ ?side85 ?side86 A5.out).mono ?_); (case side85 => repeat (first | exact (Kd.C_below HR150_1.out HB.out) | (with_reducible refine Kd.C_alloc ?_ _) | (with_reducible refine Kd.C_drewN ?_ _) | (with_reducible refine Kd.C_drew ?_))); (case side86 => exact HC150_1.out); rintro e w7 ⟨rfl, hb⟩; refine ⟨_, rfl, ?_⟩; have n0_ := Aside0.mk (below_step (by repeat (first | (with_reducible first | exact HB.out | apply below_alloc | apply pw_below_drewN | apply below_drew1) | exact HB.out)) hb); clear HB; have HB := n0_; clear n0_; (try clear hb); (try clear hb2); (try clear hk); (try clear hi)))
      go_roundg k1
      case measure => have := HK1.out; omega
      case rel => exact ⟨(ji6), (wrap64 (x4_1 + 1)), (by first | rfl | (simp; done) | (simp only [← hji6] <;> (first | rfl | simp)) | (simp [*]; done)), (by first | rfl | (simp; done) | (simp [*]; done)), H', ⟨by have := HK1.out; omega⟩, ⟨by repeat (first | (with_reducible first | exact HB.out | apply below_alloc | apply pw_below_drewN | apply below_drew1) | exact HB.out)⟩⟩
     ·rw [if_neg c4] at H
      have c4b0 : (((rd_T56 l0 x4_1).f0).toList == ([] : List UInt8)) = false := beq_eq_false_iff_ne.mpr c4
      have c4b1 : (((rd_T56 l0 x4_1).f0).toList != ([] : List UInt8)) = true := bne_iff_ne.mpr c4
      have H' := Aside0.mk H
      clear H
      have p149 : 0 ≤ (x4_1 : Int) := of_decide_eq_true (by first | (with_reducible assumption) | assumption)
      have q149 : x4_1 < (l0.length : Int) := of_decide_eq_true (by first | (with_reducible assumption) | assumption)
      obtain ⟨ad149, A149_1, c149_1, e149, hx149_0, hx149_1, hx149_2, hl149_1, hi149_1⟩ := at_T56 HR0.out x4_1 p149 q149
      cases e149
      replace hx149_0 := (HB.out.cell (World.block_lt_of_cell? w _ hx149_0)).trans hx149_0
      replace hx149_1 := (HB.out.cell (World.block_lt_of_cell? w _ hx149_1)).trans hx149_1
      replace hx149_2 := (HB.out.cell (World.block_lt_of_cell? w _ hx149_2)).trans hx149_2
      have HR149_1 := Aside0.mk hi149_1
      have HC149_1 := Aside0.mk hl149_1
      clear hi149_1 hl149_1
      replace p149 := eq_true p149
      replace q149 := eq_true q149
      go_wp2
      go_roundg k1
      case measure => have := HK1.out; omega
      case rel => exact ⟨(x3_1), (wrap64 (x4_1 + 1)), (by first | rfl | (simp; done) | (simp [*]; done)), (by first | rfl | (simp; done) | (simp [*]; done)), H', ⟨by have := HK1.out; omega⟩, ⟨by repeat (first | (with_reducible first | exact HB.out | apply below_alloc | apply pw_below_drewN | apply below_drew1) | exact HB.out)⟩⟩
    ·rw [if_neg c3] at H
     exact absurd H (by simp)
   ·rw [if_neg c2] at H
    have c2b0 : decide (x4_1 < (l0.length : Int)) = false := decide_eq_false c2
    clear c2
    obtain rfl := Option.some.inj H
    go_wp2
    go_ret
    exact ⟨by first | rfl | (simp [errW_none, errW_some] <;> rfl) | (simp [*, errW_none, errW_some] <;> rfl) | (simp [errW_none, errW_some] <;> (rw [Bool.eq_iff_iff]; simp; done)), by repeat (first | (with_reducible first | exact HB.out | apply below_alloc | apply pw_below_drewN | apply below_drew1) | exact HB.out)⟩
def gristmillref_Once.l0 : Nat → List ByteArray → List ByteArray → Int → Option (List ByteArray)
 | 0, _, _, _ => none
 | k + 1, x0, x3, x4 => if x4 < (x0.length : Int) then (if 0 ≤ x4 then ((gristmillref_Has.f k x3 (rdOf ByteArray.empty x0 x4)).bind fun t153 => (if t153 = true then (gristmillref_Once.l0 k x0 x3 (wrap64 (x4 + 1))) else (if x3.length < 8796093022208 then (gristmillref_Once.l0 k x0 (x3 ++ [rdOf ByteArray.empty x0 x4]) (wrap64 (x4 + 1))) else (none)))) else (none)) else (some x3)
def gristmillref_Once.f (k : Nat) (l0 : List ByteArray) : Option (List ByteArray) := gristmillref_Once.l0 k l0 ([] : List ByteArray) 0
theorem gristmillref_Once.mono_l : ∀ k, (∀ y0 y1 y2, LeO (gristmillref_Once.l0 k y0 y1 y2) (gristmillref_Once.l0 (k + 1) y0 y1 y2))
 | 0 => fun _ _ _ r h => by simp [gristmillref_Once.l0] at h
 | k + 1 => by
  have ih0 := gristmillref_Once.mono_l k
  ·intro y0 y1 y2
   unfold gristmillref_Once.l0
   repeat' first
   | (with_reducible exact ih0 _ _ _)
   | (with_reducible exact gristmillref_Has.mono _ _ _)
   | (with_reducible exact LeO.refl _)
   | (with_reducible exact LeO.none _)
   | (with_reducible refine LeO.ite ?_ ?_)
   | (with_reducible refine LeO.bind ?_ (fun _ => ?_))
   | exact ih0 _ _ _
   | exact gristmillref_Has.mono _ _ _
   | exact LeO.none _
   | refine LeO.ite ?_ ?_
   | refine LeO.bind ?_ (fun _ => ?_)
theorem gristmillref_Once.mono : ∀ a0 k, LeO (gristmillref_Once.f k a0) (gristmillref_Once.f (k + 1) a0) := by
 intro a0 k
 have ih0 := gristmillref_Once.mono_l k
 unfold gristmillref_Once.f
 repeat' first
   | (with_reducible exact ih0 _ _ _)
   | (with_reducible exact gristmillref_Has.mono _ _ _)
   | (with_reducible exact LeO.refl _)
   | (with_reducible exact LeO.none _)
   | (with_reducible refine LeO.ite ?_ ?_)
   | (with_reducible refine LeO.bind ?_ (fun _ => ?_))
   | exact ih0 _ _ _
   | exact gristmillref_Has.mono _ _ _
   | exact LeO.none _
   | refine LeO.ite ?_ ?_
   | refine LeO.bind ?_ (fun _ => ?_)
set_option maxHeartbeats 8000000 in
set_option maxRecDepth 100000 in
theorem gristmillref_Once.calls (k : Nat) (A0 : Option Addr) (c0 : Nat) (l0 : List ByteArray) (r : List ByteArray) (w : World) (hr0 : Kd.C Kd.string w A0 l0.length l0) (hc0 : l0.length ≤ c0) (h : gristmillref_Once.f k l0 = some r) :
  Calls Tryd.prog 16 #[.slice A0 l0.length c0] w fun e w' => ∃ v0_ : Value, e = .returned (v0_) ∧ Kd.R Kd.string 9 w' w.heap.size (fun _ => True) v0_ r ∧ Below w.heap.size w w' := by
 have HR0 := Aside0.mk hr0
 have HC0 := Aside0.mk hc0
 clear hr0 hc0
 have HB := Aside0.mk (Below.refl w.heap.size w)
 have H : (gristmillref_Once.l0 k l0 ([] : List ByteArray) 0) = some r := h
 clear h
 have H' := Aside0.mk H
 clear H
 go_enter Tryd.func16, Tryd.ntmps16
 go_wp2
 go_loopg [3, 4] k (fun kq v3 v4 w' => ∃ (x3_1 : List ByteArray) (x4_1 : Int), v4 = .int .i64 x4_1 ∧ Aside0 (gristmillref_Once.l0 kq l0 x3_1 x4_1 = some r) ∧ Aside0 (kq ≤ k) ∧ Aside0 (Kd.R Kd.string 9 w' w.heap.size (fun _ => True) v3 x3_1) ∧ Aside0 (Below w.heap.size w w'))
 case atStart => exact ⟨(([] : List ByteArray)), (0), (by first | rfl | (simp; done) | (simp [*]; done)), H', ⟨Nat.le_refl _⟩, ⟨by first | exact Kd.R_nil _ _ _ _ _ | exact Kd.N_nil _ _ _ _ _ | exact Kd.V_nil _ _ _ _ _ | exact Kd.Q_nil _ _ _ _ _ | exact Kd.S_nil _ _ _ _ _⟩, ⟨by repeat (first | (with_reducible first | exact HB.out | apply below_alloc | apply pw_below_drewN | apply below_drew1) | exact HB.out)⟩⟩
 case round =>
  clear H'
  try clear c1
  obtain ⟨x3_1, x4_1, rfl, HA, HK1, HO_3, HB⟩ := hrel
  cases gk with
  | zero => exact absurd HA.out (by simp [gristmillref_Once.l0])
  | succ k1 =>
   have H := HA.out
   clear HA
   simp only [gristmillref_Once.l0] at H
   by_cases c2 : x4_1 < (l0.length : Int)
   ·rw [if_pos c2] at H
    have c2b0 : decide (x4_1 < (l0.length : Int)) = true := decide_eq_true c2
    clear c2
    by_cases c3 : 0 ≤ x4_1
    ·rw [if_pos c3] at H
     have c3b0 : decide (0 ≤ x4_1) = true := decide_eq_true c3
     clear c3
     replace H := Option.bind_eq_some_iff.mp H
     obtain ⟨t153, A40, H⟩ := H
     replace H : (if t153 = true then (gristmillref_Once.l0 k1 l0 x3_1 (wrap64 (x4_1 + 1))) else (if x3_1.length < 8796093022208 then (gristmillref_Once.l0 k1 l0 (x3_1 ++ [rdOf ByteArray.empty l0 x4_1]) (wrap64 (x4_1 + 1))) else (none))) = some r := H
     have A4 := Aside0.mk A40
     clear A40
     by_cases c5 : t153 = true
     ·subst c5
      have H1 : (gristmillref_Once.l0 k1 l0 x3_1 (wrap64 (x4_1 + 1))) = some r := by rw [if_pos rfl] at H; exact H
      clear H
      have H := H1
      clear H1
      have H' := Aside0.mk H
      clear H
      have p152 : 0 ≤ (x4_1 : Int) := of_decide_eq_true (by first | (with_reducible assumption) | assumption)
      have q152 : x4_1 < (l0.length : Int) := of_decide_eq_true (by first | (with_reducible assumption) | assumption)
      obtain ⟨ad152, e152, hx152_0⟩ := Kd.at_string HR0.out x4_1 p152 q152
      cases e152
      replace hx152_0 := (HB.out.cell (World.block_lt_of_cell? w _ hx152_0)).trans hx152_0
      replace p152 := eq_true p152
      replace q152 := eq_true q152
      obtain ⟨Ao6, co6, eo6⟩ := Kd.R_slice HO_3.out
      subst eo6
      go_wp2_with (first | ((with_reducible refine gate_callee (f := 12) rfl ?_); refine goesL_ (some 16) rfl rfl Tryd.func12 (by kernel_rfl) rfl #[.slice Ao6 x3_1.length co6, .string (rdOf ByteArray.empty l0 x4_1)] rfl (by (try simp only [List.map_toArray, List.map_cons, List.map_nil]); first | done | rfl | (simp only [List.length_drop, List.length_take]; rfl)) ?_; (with_reducible refine (gristmillref_Has.calls k1 _ _ x3_1 (rdOf ByteArray.empty l0 x4_1) true _ ?side87 ?side88 A4.out).mono ?_); (case side87 => repeat (first | exact (Kd.R_reads' HO_3.out).2.2 | (with_reducible refine Kd.C_alloc ?_ _) | (with_reducible refine Kd.C_drewN ?_ _) | (with_reducible refine Kd.C_drew ?_))); (case side88 => exact (Kd.R_reads' HO_3.out).2.1); rintro e w' ⟨rfl, ⟨nd, rfl⟩⟩; refine ⟨_, rfl, ?_⟩))
      go_roundg k1
      case measure => have := HK1.out; omega
      case rel => exact ⟨(x3_1), (wrap64 (x4_1 + 1)), (by first | rfl | (simp; done) | (simp [*]; done)), H', ⟨by have := HK1.out; omega⟩, ⟨by (with_reducible repeat (first | apply Kd.R_alloc | apply Kd.R_drewN | apply Kd.R_drew)); exact HO_3.out⟩, ⟨by repeat (first | (with_reducible first | exact HB.out | apply below_alloc | apply pw_below_drewN | apply below_drew1) | exact HB.out)⟩⟩
     ·replace c5 := Bool.eq_false_iff.mpr c5
      subst c5
      have H1 : (if x3_1.length < 8796093022208 then (gristmillref_Once.l0 k1 l0 (x3_1 ++ [rdOf ByteArray.empty l0 x4_1]) (wrap64 (x4_1 + 1))) else (none)) = some r := by rw [if_neg (show ¬ (false = true) by decide)] at H; exact H
      clear H
      have H := H1
      clear H1
      by_cases c7 : x3_1.length < 8796093022208
      ·rw [if_pos c7] at H
       have LMc7 := Aside0.mk c7
       clear c7
       obtain ⟨y155, hy155⟩ : ∃ y_ : List ByteArray, y_ = (x3_1 ++ [rdOf ByteArray.empty l0 x4_1]) := ⟨_, rfl⟩
       replace H : (gristmillref_Once.l0 k1 l0 y155 (wrap64 (x4_1 + 1))) = some r := by first | (rw [hy155]; with_reducible exact H) | (have H2_ := (Option.bind_some _ _).symm.trans H; rw [hy155]; with_reducible exact H2_) | (have H2_ := (Option.bind_some _ _).symm.trans H; with_reducible exact H2_) | with_reducible exact H | (rw [hy155]; exact H) | exact H
       have Ny155 := Aside0.mk hy155
       clear hy155
       have H' := Aside0.mk H
       clear H
       have p152 : 0 ≤ (x4_1 : Int) := of_decide_eq_true (by first | (with_reducible assumption) | assumption)
       have q152 : x4_1 < (l0.length : Int) := of_decide_eq_true (by first | (with_reducible assumption) | assumption)
       obtain ⟨ad152, e152, hx152_0⟩ := Kd.at_string HR0.out x4_1 p152 q152
       cases e152
       replace hx152_0 := (HB.out.cell (World.block_lt_of_cell? w _ hx152_0)).trans hx152_0
       replace p152 := eq_true p152
       replace q152 := eq_true q152
       obtain ⟨Ao8, co8, eo8⟩ := Kd.R_slice HO_3.out
       subst eo8
       go_wp2_with (first | ((with_reducible refine gate_callee (f := 12) rfl ?_); refine goesL_ (some 16) rfl rfl Tryd.func12 (by kernel_rfl) rfl #[.slice Ao8 x3_1.length co8, .string (rdOf ByteArray.empty l0 x4_1)] rfl (by (try simp only [List.map_toArray, List.map_cons, List.map_nil]); first | done | rfl | (simp only [List.length_drop, List.length_take]; rfl)) ?_; (with_reducible refine (gristmillref_Has.calls k1 _ _ x3_1 (rdOf ByteArray.empty l0 x4_1) false _ ?side89 ?side90 A4.out).mono ?_); (case side89 => repeat (first | exact (Kd.R_reads' HO_3.out).2.2 | (with_reducible refine Kd.C_alloc ?_ _) | (with_reducible refine Kd.C_drewN ?_ _) | (with_reducible refine Kd.C_drew ?_))); (case side90 => exact (Kd.R_reads' HO_3.out).2.1); rintro e w' ⟨rfl, ⟨nd, rfl⟩⟩; refine ⟨_, rfl, ?_⟩; have p154 : 0 ≤ (x4_1 : Int) := of_decide_eq_true (by first | (with_reducible assumption) | assumption); have q154 : x4_1 < (l0.length : Int) := of_decide_eq_true (by first | (with_reducible assumption) | assumption); obtain ⟨ad154, e154, hx154_0⟩ := Kd.at_string HR0.out x4_1 p154 q154; obtain rfl : ad152 = ad154 := (by injection e154); replace hx154_0 := (HB.out.cell (World.block_lt_of_cell? w _ hx154_0)).trans hx154_0; replace p154 := eq_true p154; replace q154 := eq_true q154) | ((with_reducible refine gate_builtin (b := .append) (xs := #[.tmp 18, .tmp 23]) rfl ?_); at_builtin; refine Kd.R_append Kd.string (w0 := w) w.heap.size rfl (.tmp 18) (.tmp 23) 22 9 (.string ⟨#[]⟩) 16 rfl Tryd.underlying22 info9 rfl (by decide) (by omega) (.slice Ao8 x3_1.length co8) x3_1 (rdOf ByteArray.empty l0 x4_1) [.string (rdOf ByteArray.empty l0 x4_1)] (fun _ => True) (fun _ => False) rfl rfl ?aP (fun _ hk => hk.elim) ?aF ?aO ?aB ?aS ?aL ?_; (case aP => exact rfl); (case aB => exact (by repeat (first | (with_reducible first | exact HB.out | apply below_alloc | apply pw_below_drewN | apply below_drew1) | exact HB.out))); (case aF => exact (fun _ _ => trivial)); (case aO => exact (by (with_reducible repeat (first | apply Kd.R_alloc | apply Kd.R_drewN | apply Kd.R_drew)); exact HO_3.out)); (case aS => exact (below_size (by repeat (first | (with_reducible first | exact HB.out | apply below_alloc | apply pw_below_drewN | apply below_drew1) | exact HB.out)))); (case aL => have := LMc7.out; omega); intro v156 w9 ho hb hg hat; rw [← Ny155.out] at ho; have n0_ := Aside0.mk (hb); have n1_ := Aside0.mk (ho); clear HB; clear HO_3; have HB := n0_; have HO157 := n1_; clear n0_ n1_; clear ho hb hg hat))
       go_roundg k1
       case measure => have := HK1.out; omega
       case rel => exact ⟨(y155), (wrap64 (x4_1 + 1)), (by first | rfl | (simp; done) | (simp [*]; done)), H', ⟨by have := HK1.out; omega⟩, ⟨by (with_reducible repeat (first | apply Kd.R_alloc | apply Kd.R_drewN | apply Kd.R_drew)); exact HO157.out⟩, ⟨by repeat (first | (with_reducible first | exact HB.out | apply below_alloc | apply pw_below_drewN | apply below_drew1) | exact HB.out)⟩⟩
      ·rw [if_neg c7] at H
       exact absurd H (by simp)
    ·rw [if_neg c3] at H
     exact absurd H (by simp)
   ·rw [if_neg c2] at H
    have c2b0 : decide (x4_1 < (l0.length : Int)) = false := decide_eq_false c2
    clear c2
    obtain rfl := Option.some.inj H
    go_wp2
    go_ret
    exact ⟨_, by first | rfl | (simp [errW_none, errW_some] <;> rfl) | (simp [*, errW_none, errW_some] <;> rfl) | (simp [errW_none, errW_some] <;> (rw [Bool.eq_iff_iff]; simp; done)), by (with_reducible repeat (first | apply Kd.R_alloc | apply Kd.R_drewN | apply Kd.R_drew)); exact HO_3.out, by repeat (first | (with_reducible first | exact HB.out | apply below_alloc | apply pw_below_drewN | apply below_drew1) | exact HB.out)⟩
end Go.Proofs.YtmoeekidmkhkoaaDoor.PFreeA

