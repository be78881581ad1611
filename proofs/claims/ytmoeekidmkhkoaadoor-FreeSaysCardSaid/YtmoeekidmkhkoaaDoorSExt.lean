/- What the calls of free.Names, free.Bound, gristmillref.Texts, strconv.Itoa (0 to 99) come to. No other condition. -/
import Derived.Test.YtmoeekidmkhkoaaDoorSFreeAD
import Derived.Test.YtmoeekidmkhkoaaDoorSShelf
import Derived.Test.YtmoeekidmkhkoaaDoorSPFreeS
import Derived.Laws.Cover1
import Derived.WalkKit
namespace Go.Proofs.YtmoeekidmkhkoaaDoor.Ext
open Go.RowKit Go.Proofs.YtmoeekidmkhkoaaDoorW.PrintWords Go.Proofs.YtmoeekidmkhkoaaDoorW.PrintLast Go.Proofs.YtmoeekidmkhkoaaDoorW.PrintMore Go.Proofs.YtmoeekidmkhkoaaDoor.PFreeA Go.Proofs.YtmoeekidmkhkoaaDoor.FreeA
set_option linter.unusedVariables false
set_option linter.unusedSimpArgs false
def fits (e : S33) : Bool := okE e && decide (cost e ≤ 100000000000)
def free_Names.f (a0_0 : Int) (a0_1 : ByteArray) (a0_2 : Int) (l0_3 : List ByteArray) (l0_4 : List S33) (l0_5 : List S40) : Option (List ByteArray) := if fits ⟨a0_0, a0_1, a0_2, l0_3, l0_4, l0_5⟩ = true then some (fx ⟨a0_0, a0_1, a0_2, l0_3, l0_4, l0_5⟩ [] []) else none
theorem free_Names.calls (a0_0 : Int) (a0_1 : ByteArray) (a0_2 : Int) (A0_3 : Option Addr) (c0_3 : Nat) (l0_3 : List ByteArray) (A0_4 : Option Addr) (c0_4 : Nat) (l0_4 : List (S33)) (A0_5 : Option Addr) (c0_5 : Nat) (l0_5 : List (S40)) (r : List ByteArray) (w : World) (hr0_3 : Kd.C Kd.string w A0_3 l0_3.length l0_3) (hc0_3 : l0_3.length ≤ c0_3) (hr0_4 : Kd.C k33 w A0_4 l0_4.length l0_4) (hc0_4 : l0_4.length ≤ c0_4) (hr0_5 : Kd.C k40 w A0_5 l0_5.length l0_5) (hc0_5 : l0_5.length ≤ c0_5) (h : free_Names.f a0_0 a0_1 a0_2 l0_3 l0_4 l0_5 = some r) :
  Calls Tryd.prog 15 #[.agg #[.int .i64 a0_0, .string a0_1, .int .i64 a0_2, .slice A0_3 l0_3.length c0_3, .slice A0_4 l0_4.length c0_4, .slice A0_5 l0_5.length c0_5]] w fun e w' => ∃ v0_ : Value, e = .returned (v0_) ∧ Kd.R Kd.string 9 w' w.heap.size (fun _ => True) v0_ r ∧ Below w.heap.size w w' := by
 unfold free_Names.f fits at h
 split at h
 ·rename_i hf
  simp only [Bool.and_eq_true, decide_eq_true_eq] at hf
  obtain rfl := Option.some.inj h
  exact names_calls ⟨a0_0, a0_1, a0_2, l0_3, l0_4, l0_5⟩ w hf.1 hf.2 hr0_3 hr0_4 hr0_5
 ·cases h
def free_Bound.f (a0_0 : Int) (a0_1 : ByteArray) (a0_2 : Int) (l0_3 : List ByteArray) (l0_4 : List S33) (l0_5 : List S40) : Option (List ByteArray) := if fits ⟨a0_0, a0_1, a0_2, l0_3, l0_4, l0_5⟩ = true then some (bx ⟨a0_0, a0_1, a0_2, l0_3, l0_4, l0_5⟩ []) else none
theorem free_Bound.calls (a0_0 : Int) (a0_1 : ByteArray) (a0_2 : Int) (A0_3 : Option Addr) (c0_3 : Nat) (l0_3 : List ByteArray) (A0_4 : Option Addr) (c0_4 : Nat) (l0_4 : List (S33)) (A0_5 : Option Addr) (c0_5 : Nat) (l0_5 : List (S40)) (r : List ByteArray) (w : World) (hr0_3 : Kd.C Kd.string w A0_3 l0_3.length l0_3) (hc0_3 : l0_3.length ≤ c0_3) (hr0_4 : Kd.C k33 w A0_4 l0_4.length l0_4) (hc0_4 : l0_4.length ≤ c0_4) (hr0_5 : Kd.C k40 w A0_5 l0_5.length l0_5) (hc0_5 : l0_5.length ≤ c0_5) (h : free_Bound.f a0_0 a0_1 a0_2 l0_3 l0_4 l0_5 = some r) :
  Calls Tryd.prog 21 #[.agg #[.int .i64 a0_0, .string a0_1, .int .i64 a0_2, .slice A0_3 l0_3.length c0_3, .slice A0_4 l0_4.length c0_4, .slice A0_5 l0_5.length c0_5]] w fun e w' => ∃ v0_ : Value, e = .returned (v0_) ∧ Kd.R Kd.string 9 w' w.heap.size (fun _ => True) v0_ r ∧ Below w.heap.size w w' := by
 unfold free_Bound.f fits at h
 split at h
 ·rename_i hf
  simp only [Bool.and_eq_true, decide_eq_true_eq] at hf
  obtain rfl := Option.some.inj h
  exact bound0_calls ⟨a0_0, a0_1, a0_2, l0_3, l0_4, l0_5⟩ w hf.1 hf.2 hr0_3 hr0_4 hr0_5
 ·cases h
def strconv_Itoa.f (a0 : Int) : Option ByteArray := if 0 ≤ a0 then (if a0 < 100 then some (⟨(Lib.decDigits a0.toNat).toArray⟩ : ByteArray) else none) else none
theorem strconv_Itoa.calls (a0 : Int) (r : ByteArray) (w : World) (h : strconv_Itoa.f a0 = some r) :
  Calls Tryd.prog 31 #[.int .i64 a0] w fun e w' => e = .returned (.string r) ∧ Drawn0 w w' := by
 unfold strconv_Itoa.f at h
 by_cases h1 : 0 ≤ a0
 ·by_cases h2 : a0 < 100
  ·rw [if_pos h1, if_pos h2] at h
   obtain rfl := Option.some.inj h
   obtain ⟨m, rfl⟩ := Int.eq_ofNat_of_zero_le h1
   refine (Tryd.strconv_Itoa_small m (by omega) w).mono fun e w' ⟨he, hw⟩ => ⟨he, ?_⟩
   rw [hw]
   exact Drawn0.refl w
  ·rw [if_pos h1, if_neg h2] at h
   cases h
 ·rw [if_neg h1] at h
  cases h
def gristmillref_Texts.f (l0 : List ByteArray) : Option (List ByteArray) := if l0.length ≤ 1000000000000 then some l0 else none
set_option maxHeartbeats 4000000 in
set_option maxRecDepth 100000 in
theorem texts_calls (l : List ByteArray) (w : World) (hl : l.length ≤ 1000000000000) {A : Option Addr} {c : Nat} (hC : Kd.C Kd.string w A l.length l) :
  Calls Tryd.prog 11 #[.slice A l.length c] w fun e w' => ∃ v0_ : Value, e = .returned (v0_) ∧ Kd.R Kd.string 9 w' w.heap.size (fun _ => True) v0_ l ∧ Below w.heap.size w w' := by
 obtain ⟨i0, hi, hzz⟩ := Option.map_eq_some_iff.1 inf9
 simp only [Prod.mk.injEq] at hzz
 obtain ⟨hz0, hz1, hz2⟩ := hzz
 have hr := run_make (P := Tryd.prog) (w := w) 22 9 i0 (.string ⟨#[]⟩) Tryd.underlying22 hi hz0 .i64 .i64 0 (l.length : Int) (by omega) (by omega) (by rw [hz2]; omega) (by omega)
 simp only [Int.toNat_natCast, Int.toNat_zero] at hr
 rw [hz1] at hr
 have hown := World.ownsRow_made (base := w.heap.size) (size := 1) (e := 9) w (madeCells (Value.string ⟨#[]⟩).cells (l.length * 1)) l.length (Nat.le_refl _) (by unfold maxLen; omega) (by simp [size_madeCells])
 have hR : Kd.R Kd.string 9 (w.alloc (.cells (madeCells (Value.string ⟨#[]⟩).cells (l.length * 1)) 9)) w.heap.size (fun _ => True) (.slice (some ⟨w.heap.size, 0, none⟩) 0 l.length) [] := ⟨fun _ _ => trivial, [], hown, ⟨rfl, fun j p hj => by simp at hj⟩⟩
 have hb1 := below_alloc (Below.refl w.heap.size w) (.cells (madeCells (Value.string ⟨#[]⟩).cells (l.length * 1)) 9)
 rw [Nat.mul_one] at hR hb1
 have hR : Aside0 (Kd.R Kd.string 9 (w.alloc (.cells (madeCells #[.string ⟨#[]⟩] l.length) 9)) w.heap.size (fun _ => True) (.slice (some ⟨w.heap.size, 0, none⟩) 0 l.length) (l.take 0)) := ⟨hR⟩
 have hb1 : Aside0 (Below w.heap.size w (w.alloc (.cells (madeCells #[.string ⟨#[]⟩] l.length) 9))) := ⟨hb1⟩
 have hC9 := Aside0.mk hC
 clear hC hown
 go_enter Tryd.func11, Tryd.ntmps11
 go_wp2
 go_loopg [3, 4] (l.length + 1) (fun kq v3 v4 w' => ∃ (i : Nat) (A1 : Option Addr) (c1 m1 : Nat), v3 = .slice A1 m1 c1 ∧ v4 = .int .i64 (i : Int) ∧ i + kq = l.length + 1 ∧ 1 ≤ kq ∧ Aside0 (m1 = i) ∧ Aside0 (Kd.R Kd.string 9 w' w.heap.size (fun _ => True) (.slice A1 m1 c1) (l.take i)) ∧ Aside0 (Below w.heap.size w w'))
 case atStart => exact ⟨0, _, _, _, rfl, rfl, by omega, by omega, ⟨rfl⟩, hR, hb1⟩
 case round =>
  obtain ⟨i, A1, c1, m1, rfl, rfl, hi, hk, hm, hRr, hBr⟩ := hrel
  by_cases hlt : i < l.length
  ·obtain ⟨ad, rfl, hv⟩ := at_str (Kd.C_below hC9.out hBr.out) i hlt hlt
   have p0 : (0 : Int) ≤ (i : Int) := by omega
   have q0 : (i : Int) < (l.length : Int) := by omega
   have q1 : decide ((i : Int) < (l.length : Int)) = true := decide_eq_true q0
   have htk : Aside0 (l.take (i + 1) = l.take i ++ [l[i]]) := ⟨by simp [List.take_append_getElem, hlt]⟩
   have hL : Aside0 (((l.take i).length + 1) * 16 ≤ 140737488355328) := ⟨by rw [List.length_take]; omega⟩
   generalize l[i] = s at *
   go_wp2_with (first | ((with_reducible refine gate_builtin (b := .append) (xs := #[.tmp 14, .tmp 19]) rfl ?_); at_builtin; go_loud (refine Kd.R_append Kd.string (w0 := w) w.heap.size rfl (.tmp 14) (.tmp 19) 22 9 (.string ⟨#[]⟩) 16 rfl Tryd.underlying22 inf9 rfl (by decide) (by decide) (.slice A1 m1 c1) (l.take i) s [.string s] (fun _ => True) (fun _ => False) rfl rfl ?aP (fun _ hk => hk.elim) (fun _ _ => trivial) ?aO ?aB ?aS ?aL ?_); (case aP => exact rfl); (case aO => exact hRr.out); (case aB => exact hBr.out); (case aS => exact hBr.out.size); (case aL => exact hL.out); intro v3 w3 hr3 hb3 hg3 hat3; obtain ⟨A3, c3, hv3⟩ := Kd.R_slice hr3; rw [List.length_append, List.length_singleton, List.length_take, Nat.min_eq_left (by omega)] at hv3; subst hv3; rw [← htk.out] at hr3; have hr3 := Aside0.mk hr3; have hb3 := Aside0.mk hb3; clear hg3 hat3))
   go_roundg (gk - 1)
   case measure => omega
   case rel => exact ⟨i + 1, A3, c3, i + 1, rfl, by go_num, by omega, by omega, ⟨rfl⟩, hr3, hb3⟩
  ·have q1 : decide ((i : Int) < (l.length : Int)) = false := decide_eq_false (by omega)
   have hall : l.take i = l := List.take_of_length_le (by omega)
   have hfin := Aside0.mk (hall ▸ hRr.out)
   go_wp2
   go_ret
   exact ⟨_, rfl, hfin.out, hBr.out⟩
theorem gristmillref_Texts.calls (A0 : Option Addr) (c0 : Nat) (l0 r : List ByteArray) (w : World) (hr0 : Kd.C Kd.string w A0 l0.length l0) (hc0 : l0.length ≤ c0) (h : gristmillref_Texts.f l0 = some r) :
  Calls Tryd.prog 11 #[.slice A0 l0.length c0] w fun e w' => ∃ v0_ : Value, e = .returned (v0_) ∧ Kd.R Kd.string 9 w' w.heap.size (fun _ => True) v0_ r ∧ Below w.heap.size w w' := by
 unfold gristmillref_Texts.f at h
 split at h
 ·rename_i hl
  obtain rfl := Option.some.inj h
  exact texts_calls l0 w hl hr0
 ·cases h
theorem same_calls (a : ByteArray) (w : World) {A B : Option Addr} {c d : Nat} (hA : Kd.C Kd.string w A 1 [a]) (hc : 1 ≤ c) (hB : Kd.C Kd.string w B 1 [a]) (hd : 1 ≤ d) :
  Calls Tryd.prog 17 #[.slice A 1 c, .slice B 1 d] w fun e w' => e = .returned (.bool true) ∧ Drawn0 w w' :=
 PFreeS.gristmillref_SameTexts.calls 2 A c [a] B d [a] true w hA hc hB hd (by simp [PFreeS.gristmillref_SameTexts.f, PFreeS.gristmillref_SameTexts.l0, wrap64])
theorem names1 : free_Names.f 6 (⟨#[]⟩ : ByteArray) 0 [⟨#[120]⟩] [⟨5, ⟨#[]⟩, 0, [], [⟨1, ⟨#[120]⟩, 0, [], [], []⟩, ⟨1, ⟨#[121]⟩, 0, [], [], []⟩], []⟩] [] = some [⟨#[121]⟩] := by decide +kernel
theorem bound1 : free_Bound.f 6 (⟨#[]⟩ : ByteArray) 0 [⟨#[120]⟩] [⟨5, ⟨#[]⟩, 0, [], [⟨1, ⟨#[120]⟩, 0, [], [], []⟩, ⟨1, ⟨#[121]⟩, 0, [], [], []⟩], []⟩] [] = some [⟨#[120]⟩] := by decide +kernel
theorem v_calls (a : ByteArray) (w : World) : Calls Tryd.prog 29 #[.string a] w fun e w' => e = .returned (.agg #[.int .i64 1, .string a, .int .i64 0, .slice none 0 0, .slice none 0 0, .slice none 0 0]) ∧ Below w.heap.size w w' := by
 go_enter Tryd.func29, Tryd.ntmps29
 go_wp2
 refine bodyPost_ret (v := .agg #[.int .i64 1, .string a, .int .i64 0, .slice none 0 0, .slice none 0 0, .slice none 0 0]) (by simp [results, Tryd.results29, go_sem]) rfl ⟨rfl, below_alloc (Below.refl _ _) _⟩
theorem a_calls (A : Option Addr) (n c : Nat) (w : World) : Calls Tryd.prog 30 #[.slice A n c] w fun e w' => e = .returned (.agg #[.int .i64 5, .string ⟨#[]⟩, .int .i64 0, .slice none 0 0, .slice A n c, .slice none 0 0]) ∧ Below w.heap.size w w' := by
 go_enter Tryd.func30, Tryd.ntmps30
 go_wp2
 refine bodyPost_ret (v := .agg #[.int .i64 5, .string ⟨#[]⟩, .int .i64 0, .slice none 0 0, .slice A n c, .slice none 0 0]) (by simp [results, Tryd.results30, go_sem]) rfl ⟨rfl, below_alloc (Below.refl _ _) _⟩
theorem c_str (w : World) (a : ByteArray) : Kd.C Kd.string (w.alloc (.cells #[.string a] 9)) (some ⟨w.heap.size, 0, none⟩) 1 [a] := by
 refine ⟨rfl, by decide, fun _ => ⟨_, rfl, fun j p hj => ?_⟩⟩
 have hb := blk_new w (.cells #[.string a] 9 (0, 0))
 match j, hj with
 | 0, hj =>
  obtain rfl := Option.some.inj hj
  refine ⟨[.string a], rfl, rfl, fun i u hu => ?_⟩
  match i, hu with
  | 0, hu => exact ((blk_cell hb 0).trans rfl).trans hu
def eV (a : ByteArray) : S33 := ⟨1, a, 0, [], [], []⟩
def eA (x y : ByteArray) : S33 := ⟨5, ⟨#[]⟩, 0, [], [eV x, eV y], []⟩
theorem k_v (w : World) (a : ByteArray) : k33.K w (eV a) [.int .i64 1, .string a, .int .i64 0, .slice none 0 0, .slice none 0 0, .slice none 0 0] :=
 k33_mk w (eV a) (Nat.le_refl _) (Kd.C_nil _ _) (Nat.le_refl _) (Kd.C_nil _ _) (Nat.le_refl _) (Kd.C_nil _ _)
theorem c_vv (w : World) (x y : ByteArray) : Kd.C k33 (w.alloc (.cells #[.int .i64 1, .string x, .int .i64 0, .slice none 0 0, .slice none 0 0, .slice none 0 0, .int .i64 1, .string y, .int .i64 0, .slice none 0 0, .slice none 0 0, .slice none 0 0] 33)) (some ⟨w.heap.size, 0, none⟩) 2 [eV x, eV y] := by
 refine ⟨rfl, by decide, fun _ => ⟨_, rfl, fun j p hj => ?_⟩⟩
 have hb := blk_new w (.cells #[.int .i64 1, .string x, .int .i64 0, .slice none 0 0, .slice none 0 0, .slice none 0 0, .int .i64 1, .string y, .int .i64 0, .slice none 0 0, .slice none 0 0, .slice none 0 0] 33 (0, 0))
 match j, hj with
 | 0, hj =>
  obtain rfl := Option.some.inj hj
  refine ⟨_, rfl, k_v _ x, fun i u hu => ?_⟩
  match i, hu with
  | 0, hu => exact ((blk_cell hb 0).trans rfl).trans hu
  | 1, hu => exact ((blk_cell hb 1).trans rfl).trans hu
  | 2, hu => exact ((blk_cell hb 2).trans rfl).trans hu
  | 3, hu => exact ((blk_cell hb 3).trans rfl).trans hu
  | 4, hu => exact ((blk_cell hb 4).trans rfl).trans hu
  | 5, hu => exact ((blk_cell hb 5).trans rfl).trans hu
 | 1, hj =>
  obtain rfl := Option.some.inj hj
  refine ⟨_, rfl, k_v _ y, fun i u hu => ?_⟩
  match i, hu with
  | 0, hu => exact ((blk_cell hb 6).trans rfl).trans hu
  | 1, hu => exact ((blk_cell hb 7).trans rfl).trans hu
  | 2, hu => exact ((blk_cell hb 8).trans rfl).trans hu
  | 3, hu => exact ((blk_cell hb 9).trans rfl).trans hu
  | 4, hu => exact ((blk_cell hb 10).trans rfl).trans hu
  | 5, hu => exact ((blk_cell hb 11).trans rfl).trans hu
theorem c_a1 {w : World} {x y : ByteArray} {A : Option Addr} {c : Nat} (hA : Kd.C k33 w A 2 [eV x, eV y]) (hc : 2 ≤ c) : Kd.C k33 (w.alloc (.cells #[.int .i64 5, .string ⟨#[]⟩, .int .i64 0, .slice none 0 0, .slice A 2 c, .slice none 0 0] 33)) (some ⟨w.heap.size, 0, none⟩) 1 [eA x y] := by
 refine ⟨rfl, by decide, fun _ => ⟨_, rfl, fun j p hj => ?_⟩⟩
 have hb := blk_new w (.cells #[.int .i64 5, .string ⟨#[]⟩, .int .i64 0, .slice none 0 0, .slice A 2 c, .slice none 0 0] 33 (0, 0))
 match j, hj with
 | 0, hj =>
  obtain rfl := Option.some.inj hj
  refine ⟨_, rfl, k33_mk _ (eA x y) (Nat.le_refl _) (Kd.C_nil _ _) hc (Kd.C_below hA (below_alloc (Below.refl _ _) _)) (Nat.le_refl _) (Kd.C_nil _ _), fun i u hu => ?_⟩
  match i, hu with
  | 0, hu => exact ((blk_cell hb 0).trans rfl).trans hu
  | 1, hu => exact ((blk_cell hb 1).trans rfl).trans hu
  | 2, hu => exact ((blk_cell hb 2).trans rfl).trans hu
  | 3, hu => exact ((blk_cell hb 3).trans rfl).trans hu
  | 4, hu => exact ((blk_cell hb 4).trans rfl).trans hu
  | 5, hu => exact ((blk_cell hb 5).trans rfl).trans hu
set_option maxHeartbeats 4000000 in
theorem f_calls (a x y : ByteArray) (A : Option Addr) (c : Nat) (w : World) (hA : Kd.C k33 w A 2 [eV x, eV y]) (hc : 2 ≤ c) : Calls Tryd.prog 20 #[.string a, .agg #[.int .i64 5, .string ⟨#[]⟩, .int .i64 0, .slice none 0 0, .slice A 2 c, .slice none 0 0]] w fun e w' => ∃ A1 A2, e = .returned (.agg #[.int .i64 6, .string ⟨#[]⟩, .int .i64 0, .slice A1 1 1, .slice A2 1 1, .slice none 0 0]) ∧ Kd.C Kd.string w' A1 1 [a] ∧ Kd.C k33 w' A2 1 [eA x y] ∧ Below w.heap.size w w' := by
 have E : ∀ W : World, ∀ o : Obj, (W.alloc o).heap.size = W.heap.size + 1 := fun W o => Array.size_push _
 have hb2 := below_alloc (below_alloc (Below.refl w.heap.size w) (.cells #[.int .i64 5, .string ⟨#[]⟩, .int .i64 0, .slice none 0 0, .slice A 2 c, .slice none 0 0] 33)) (.cells #[.int .i64 6, .string ⟨#[]⟩, .int .i64 0, .slice (some ⟨w.heap.size + 1 + 1, 0, none⟩) 1 1, .slice (some ⟨w.heap.size + 1 + 1 + 1, 0, none⟩) 1 1, .slice none 0 0] 33)
 have hb4 := below_alloc (below_alloc hb2 (.cells #[.string a] 9)) (.cells #[.int .i64 5, .string ⟨#[]⟩, .int .i64 0, .slice none 0 0, .slice A 2 c, .slice none 0 0] 33)
 have hs := c_str ((w.alloc (.cells #[.int .i64 5, .string ⟨#[]⟩, .int .i64 0, .slice none 0 0, .slice A 2 c, .slice none 0 0] 33)).alloc (.cells #[.int .i64 6, .string ⟨#[]⟩, .int .i64 0, .slice (some ⟨w.heap.size + 1 + 1, 0, none⟩) 1 1, .slice (some ⟨w.heap.size + 1 + 1 + 1, 0, none⟩) 1 1, .slice none 0 0] 33)) a
 rw [E, E] at hs
 have hs2 := Kd.C_below hs (below_alloc (Below.refl _ _) (.cells #[.int .i64 5, .string ⟨#[]⟩, .int .i64 0, .slice none 0 0, .slice A 2 c, .slice none 0 0] 33))
 have h3 := c_a1 (Kd.C_below hA (below_alloc hb2 (.cells #[.string a] 9))) hc
 rw [E, E, E] at h3
 clear hA
 go_enter Tryd.func20, Tryd.ntmps20
 go_wp2
 exact bodyPost_ret (v := .agg #[.int .i64 6, .string ⟨#[]⟩, .int .i64 0, .slice (some ⟨w.heap.size + 1 + 1, 0, none⟩) 1 1, .slice (some ⟨w.heap.size + 1 + 1 + 1, 0, none⟩) 1 1, .slice none 0 0]) (by simp [results, Tryd.results20, go_sem]) rfl ⟨_, _, rfl, hs2, h3, hb4⟩
set_option maxHeartbeats 8000000 in
set_option maxRecDepth 100000 in
theorem first_calls (w : World) : Calls Tryd.prog 7 #[] w fun e w' => e = .returned (.bool true) ∧ Below w.heap.size w w' := by
 have C1 := v_calls ⟨#[120]⟩ w
 go_enter Tryd.func7, Tryd.ntmps7
 go_wp2_with (first | (go_at_call 29; go_loud (with_reducible refine C1.mono ?_); rintro e w1 ⟨rfl, hb1⟩; have HB1 := Aside0.mk hb1; have C2 := v_calls ⟨#[121]⟩ w1; clear hb1 C1) | (go_at_call 29; go_loud (with_reducible refine C2.mono ?_); rintro e w2 ⟨rfl, hb2⟩; have HB2 := Aside0.mk (below_step HB1.out hb2); have hbl := below_alloc (Below.refl w2.heap.size w2) (.cells #[.int .i64 1, .string ⟨#[120]⟩, .int .i64 0, .slice none 0 0, .slice none 0 0, .slice none 0 0, .int .i64 1, .string ⟨#[121]⟩, .int .i64 0, .slice none 0 0, .slice none 0 0, .slice none 0 0] 33); have hcv := c_vv w2 ⟨#[120]⟩ ⟨#[121]⟩; have C3 := a_calls (some ⟨w2.heap.size, 0, none⟩) 2 2 (w2.alloc (.cells #[.int .i64 1, .string ⟨#[120]⟩, .int .i64 0, .slice none 0 0, .slice none 0 0, .slice none 0 0, .int .i64 1, .string ⟨#[121]⟩, .int .i64 0, .slice none 0 0, .slice none 0 0, .slice none 0 0] 33)); have HL := Aside0.mk (below_step HB2.out hbl); have HC := Aside0.mk hcv; clear hb2 hbl hcv C2) | (go_at_call 30; go_loud (with_reducible refine C3.mono ?_); rintro e w3 ⟨rfl, hb3⟩; have HB3 := Aside0.mk (below_step HL.out hb3); have C4 := f_calls ⟨#[120]⟩ ⟨#[120]⟩ ⟨#[121]⟩ (some ⟨w2.heap.size, 0, none⟩) 2 w3 (Kd.C_below HC.out hb3) (Nat.le_refl _); clear hb3 C3) | (go_at_call 20; go_loud (with_reducible refine C4.mono ?_); rintro e w4 ⟨A1, A2, rfl, hA1, hA2, hb4⟩; have HB4 := Aside0.mk (below_step HB3.out hb4); have hal := below_alloc (Below.refl w4.heap.size w4) (.cells #[.int .i64 6, .string ⟨#[]⟩, .int .i64 0, .slice A1 1 1, .slice A2 1 1, .slice none 0 0] 33); have HA1 := Aside0.mk (Kd.C_below hA1 hal); have HA2 := Aside0.mk (Kd.C_below hA2 hal); have HM := Aside0.mk (below_step HB4.out hal); have HK := Aside0.mk (blk_new w4 (.cells #[.int .i64 6, .string ⟨#[]⟩, .int .i64 0, .slice A1 1 1, .slice A2 1 1, .slice none 0 0] 33 (0, 0))); have CN := free_Names.calls 6 ⟨#[]⟩ 0 A1 1 [⟨#[120]⟩] A2 1 [eA ⟨#[120]⟩ ⟨#[121]⟩] none 0 [] [⟨#[121]⟩] (w4.alloc (.cells #[.int .i64 6, .string ⟨#[]⟩, .int .i64 0, .slice A1 1 1, .slice A2 1 1, .slice none 0 0] 33)) HA1.out (Nat.le_refl _) HA2.out (Nat.le_refl _) (Kd.C_nil _ _) (Nat.le_refl _) names1; simp only [List.length_cons, List.length_nil, Nat.zero_add] at CN; clear hb4 hA1 hA2 hal C4) | (go_at_call 15; go_loud (with_reducible refine CN.mono ?_); rintro e w6 ⟨v6, rfl, hr6, hb6⟩; obtain ⟨A6, c6, hv6⟩ := Kd.R_slice hr6; simp only [List.length_cons, List.length_nil, Nat.zero_add] at hv6; subst hv6; have hk6 := blk_below HK.out hb6; have HK6 := Aside0.mk hk6; have HB6 := Aside0.mk (below_step HM.out hb6); have HA16 := Aside0.mk (Kd.C_below HA1.out hb6); have HA26 := Aside0.mk (Kd.C_below HA2.out hb6); have CS := same_calls ⟨#[121]⟩ (w6.alloc (.cells #[.string ⟨#[121]⟩] 9)) (Kd.C_below (Kd.R_reads' hr6).2.2 (below_alloc (Below.refl _ _) _)) (Kd.R_reads' hr6).2.1 (d := 1) (c_str w6 ⟨#[121]⟩) (Nat.le_refl _); clear hr6 hb6 hk6 CN HK) | (go_at_call 17; go_loud (with_reducible refine CS.mono ?_); rintro e w7 ⟨rfl, hd7⟩; have hb7 := below_step (below_alloc (Below.refl w6.heap.size w6) (.cells #[.string ⟨#[121]⟩] 9)) hd7.below; have hk7 := blk_below HK6.out hb7; have hx0 := (blk_cell hk7 0).trans rfl; have hx1 := (blk_cell hk7 1).trans rfl; have hx2 := (blk_cell hk7 2).trans rfl; have hx3 := (blk_cell hk7 3).trans rfl; have hx4 := (blk_cell hk7 4).trans rfl; have hx5 := (blk_cell hk7 5).trans rfl; have HB7 := Aside0.mk (below_step HB6.out hb7); have CB := free_Bound.calls 6 ⟨#[]⟩ 0 A1 1 [⟨#[120]⟩] A2 1 [eA ⟨#[120]⟩ ⟨#[121]⟩] none 0 [] [⟨#[120]⟩] w7 (Kd.C_below HA16.out hb7) (Nat.le_refl _) (Kd.C_below HA26.out hb7) (Nat.le_refl _) (Kd.C_nil _ _) (Nat.le_refl _) bound1; simp only [List.length_cons, List.length_nil, Nat.zero_add] at CB; clear hd7 hb7 hk7 CS) | (go_at_call 21; go_loud (with_reducible refine CB.mono ?_); rintro e w8 ⟨v8, rfl, hr8, hb8⟩; obtain ⟨A8, c8, hv8⟩ := Kd.R_slice hr8; simp only [List.length_cons, List.length_nil, Nat.zero_add] at hv8; subst hv8; have HB8 := Aside0.mk (below_step HB7.out hb8); have CT := same_calls ⟨#[120]⟩ (w8.alloc (.cells #[.string ⟨#[120]⟩] 9)) (Kd.C_below (Kd.R_reads' hr8).2.2 (below_alloc (Below.refl _ _) _)) (Kd.R_reads' hr8).2.1 (d := 1) (c_str w8 ⟨#[120]⟩) (Nat.le_refl _); clear hr8 hb8 CB hx0 hx1 hx2 hx3 hx4 hx5) | (go_at_call 17; go_loud (with_reducible refine CT.mono ?_); rintro e w9 ⟨rfl, hd9⟩; have HB9 := Aside0.mk (below_step HB8.out (below_step (below_alloc (Below.refl w8.heap.size w8) (.cells #[.string ⟨#[120]⟩] 9)) hd9.below)); clear hd9 CT))
 go_ret
 exact ⟨rfl, HB9.out⟩
def gristmilllaw10_first.f : Option Bool := some true
theorem gristmilllaw10_first.calls (r : Bool) (w : World) (h : gristmilllaw10_first.f = some r) : Calls Tryd.prog 7 #[] w fun e w' => e = .returned (.bool r) ∧ Below w.heap.size w w' := by
 obtain rfl := Option.some.inj h
 exact first_calls w
end Go.Proofs.YtmoeekidmkhkoaaDoor.Ext

