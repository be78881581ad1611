/- Texts of the walks put together: DepI, DepJ, DepK, DepL, DepR. Conditions: as each states. -/
import Derived.Test.YtlgpoigbadajnaaDoorODA
import Derived.Test.YtlgpoigbadajnaaDoorOPS
namespace Go.Proofs.YtlgpoigbadajnaaDoor.DepA
open Go.RowKit Go.Proofs.YtlgpoigbadajnaaDoorW.PrintWords Go.Proofs.YtlgpoigbadajnaaDoorW.PrintLast Go.Proofs.YtlgpoigbadajnaaDoorW.PrintMore Go.Proofs.YtlgpoigbadajnaaDoor.PDepA
set_option linter.unusedVariables false
set_option linter.unusedSimpArgs false
theorem ZL {α : Type} {d : Kd α} {W : World} {b : Nat} {cs : Array Value} {e : TypeId} (hb : W.heap[b]? = some (.cells cs e (0, 0))) {xs : List α} (h : QB (d.K W) d.sz xs cs.toList) (hm : xs.length ≤ 9223372036854775807) : d.C W (some ⟨b, 0, none⟩) xs.length xs := by
 refine ⟨rfl, hm, fun _ => ⟨_, rfl, fun j p hj => ?_⟩⟩
 have hK := h.2 j p hj
 refine ⟨(cs.toList.drop (j * d.sz)).take d.sz, d.K_len hK, hK, fun i u hu => ?_⟩
 rw [add_i, Qa hb]
 rw [List.getElem?_take] at hu
 split at hu
 ·rw [List.getElem?_drop] at hu
  simpa using hu
 ·cases hu
theorem C_strs {W : World} {b : Nat} {e : TypeId} (l : List ByteArray) (hb : W.heap[b]? = some (.cells (l.map Value.string).toArray e (0, 0))) (hm : l.length ≤ 9223372036854775807) : Kd.C Kd.string W (some ⟨b, 0, none⟩) l.length l := by
 refine ZL hb ?_ hm
 have h := Kd.reps_scalar (enc := Value.string) l
 have e1 : encs Value.string l = (l.map Value.string).toArray.toList := by simp [encs]
 rw [e1] at h
 exact h
theorem v_calls (a : ByteArray) (w : World) : Calls Tryd.prog 9 #[.string a] w fun e w' => e = .returned (.agg #[.int .i64 1, .string a, .int .i64 0, .slice none 0 0, .slice none 0 0, .slice none 0 0]) ∧ Below w.heap.size w w' := by
 go_enter Tryd.func9, Tryd.ntmps9
 go_wp2
 refine bodyPost_ret (v := .agg #[.int .i64 1, .string a, .int .i64 0, .slice none 0 0, .slice none 0 0, .slice none 0 0]) (by simp [results, Tryd.results9, go_sem]) rfl ⟨rfl, Qd (Below.refl _ _) _⟩
theorem i_calls (n : Int) (w : World) : Calls Tryd.prog 8 #[.int .i64 n] w fun e w' => e = .returned (.agg #[.int .i64 2, .string ⟨#[]⟩, .int .i64 n, .slice none 0 0, .slice none 0 0, .slice none 0 0]) ∧ Below w.heap.size w w' := by
 go_enter Tryd.func8, Tryd.ntmps8
 go_wp2
 refine bodyPost_ret (v := .agg #[.int .i64 2, .string ⟨#[]⟩, .int .i64 n, .slice none 0 0, .slice none 0 0, .slice none 0 0]) (by simp [results, Tryd.results8, go_sem]) rfl ⟨rfl, Qd (Below.refl _ _) _⟩
theorem c_calls (a : ByteArray) (w : World) : Calls Tryd.prog 24 #[.string a] w fun e w' => e = .returned (.agg #[.int .i64 4, .string a, .int .i64 0, .slice none 0 0, .slice none 0 0, .slice none 0 0]) ∧ Below w.heap.size w w' := by
 go_enter Tryd.func24, Tryd.ntmps24
 go_wp2
 refine bodyPost_ret (v := .agg #[.int .i64 4, .string a, .int .i64 0, .slice none 0 0, .slice none 0 0, .slice none 0 0]) (by simp [results, Tryd.results24, go_sem]) rfl ⟨rfl, Qd (Below.refl _ _) _⟩
theorem a_calls (A : Option Addr) (n c : Nat) (w : World) : Calls Tryd.prog 23 #[.slice A n c] w fun e w' => e = .returned (.agg #[.int .i64 5, .string ⟨#[]⟩, .int .i64 0, .slice none 0 0, .slice A n c, .slice none 0 0]) ∧ Below w.heap.size w w' := by
 go_enter Tryd.func23, Tryd.ntmps23
 go_wp2
 refine bodyPost_ret (v := .agg #[.int .i64 5, .string ⟨#[]⟩, .int .i64 0, .slice none 0 0, .slice A n c, .slice none 0 0]) (by simp [results, Tryd.results23, go_sem]) rfl ⟨rfl, Qd (Below.refl _ _) _⟩
theorem p_calls (a : ByteArray) (A : Option Addr) (n c : Nat) (w : World) : Calls Tryd.prog 48 #[.string a, .slice A n c] w fun e w' => e = .returned (.agg #[.int .i64 9, .string a, .int .i64 0, .slice none 0 0, .slice A n c, .slice none 0 0]) ∧ Below w.heap.size w w' := by
 go_enter Tryd.func48, Tryd.ntmps48
 go_wp2
 refine bodyPost_ret (v := .agg #[.int .i64 9, .string a, .int .i64 0, .slice none 0 0, .slice A n c, .slice none 0 0]) (by simp [results, Tryd.results48, go_sem]) rfl ⟨rfl, Qd (Below.refl _ _) _⟩
theorem d_calls (a : ByteArray) {A : Option Addr} {n c : Nat} {x0 x2 : Int} {x1 : ByteArray} {A3 A4 A5 : Option Addr} {n3 c3 n4 c4 n5 c5 : Nat} (w : World) : Calls Tryd.prog 11 #[.string a, .slice A n c, .agg #[.int .i64 x0, .string x1, .int .i64 x2, .slice A3 n3 c3, .slice A4 n4 c4, .slice A5 n5 c5]] w fun e w' => e = .returned (.agg #[.string a, .slice A n c, .int .i64 x0, .string x1, .int .i64 x2, .slice A3 n3 c3, .slice A4 n4 c4, .slice A5 n5 c5]) ∧ Below w.heap.size w w' := by
 go_enter Tryd.func11, Tryd.ntmps11
 go_wp2
 refine bodyPost_ret (v := .agg #[.string a, .slice A n c, .int .i64 x0, .string x1, .int .i64 x2, .slice A3 n3 c3, .slice A4 n4 c4, .slice A5 n5 c5]) (by simp [results, Tryd.results11, go_sem]) rfl ⟨rfl, Qd (Qd (Below.refl _ _) _) _⟩
set_option maxHeartbeats 4000000 in
theorem lists_calls (w : World) : Calls Tryd.prog 27 #[] w fun e w' => ∃ A1 A2, e = .returned (.agg #[.string ⟨#[76, 105, 115, 116]⟩, .slice A1 1 1, .slice A2 2 2]) ∧ Below w.heap.size w w' := by
 go_enter Tryd.func27, Tryd.ntmps27
 go_wp2
 refine bodyPost_ret (v := .agg #[.string ⟨#[76, 105, 115, 116]⟩, .slice (some ⟨w.heap.size + 1 + 1, 0, none⟩) 1 1, .slice (some ⟨w.heap.size + 1 + 1 + 1 + 1 + 1, 0, none⟩) 2 2]) (by simp [results, Tryd.results27, go_sem]) rfl ⟨_, _, rfl, Qd (Qd (Qd (Qd (Qd (Qd (Below.refl _ _) _) _) _) _) _) _⟩
theorem far8 (W : World) (b : Nat) (v0 v1 v2 v3 v4 v5 v6 v7 : Value) {j : Nat} (h : j ≠ b) : ((((((((W.setCell ⟨b, 0, none⟩ v0).setCell ⟨b, 1, none⟩ v1).setCell ⟨b, 2, none⟩ v2).setCell ⟨b, 3, none⟩ v3).setCell ⟨b, 4, none⟩ v4).setCell ⟨b, 5, none⟩ v5).setCell ⟨b, 6, none⟩ v6).setCell ⟨b, 7, none⟩ v7).heap[j]? = W.heap[j]? := by
 rw [Below.heap_setCell _ _ _ _ h, Below.heap_setCell _ _ _ _ h, Below.heap_setCell _ _ _ _ h, Below.heap_setCell _ _ _ _ h, Below.heap_setCell _ _ _ _ h, Below.heap_setCell _ _ _ _ h, Below.heap_setCell _ _ _ _ h, Below.heap_setCell _ _ _ _ h]
theorem low8 {w0 W : World} {b : Nat} (hb : Below b w0 W) (v0 v1 v2 v3 v4 v5 v6 v7 : Value) : Below b w0 ((((((((W.setCell ⟨b, 0, none⟩ v0).setCell ⟨b, 1, none⟩ v1).setCell ⟨b, 2, none⟩ v2).setCell ⟨b, 3, none⟩ v3).setCell ⟨b, 4, none⟩ v4).setCell ⟨b, 5, none⟩ v5).setCell ⟨b, 6, none⟩ v6).setCell ⟨b, 7, none⟩ v7) :=
 (((((((hb.setCell (p := ⟨b, 0, none⟩) (Nat.le_refl _) v0).setCell (p := ⟨b, 1, none⟩) (Nat.le_refl _) v1).setCell (p := ⟨b, 2, none⟩) (Nat.le_refl _) v2).setCell (p := ⟨b, 3, none⟩) (Nat.le_refl _) v3).setCell (p := ⟨b, 4, none⟩) (Nat.le_refl _) v4).setCell (p := ⟨b, 5, none⟩) (Nat.le_refl _) v5).setCell (p := ⟨b, 6, none⟩) (Nat.le_refl _) v6).setCell (p := ⟨b, 7, none⟩) (Nat.le_refl _) v7
def sS : ByteArray := ⟨#[115, 117, 109]⟩
def sN : ByteArray := ⟨#[78, 105, 108]⟩
def eV (a : ByteArray) : S29 := ⟨1, a, 0, [], [], []⟩
def eI (n : Int) : S29 := ⟨2, ⟨#[]⟩, n, [], [], []⟩
def eC (a : ByteArray) : S29 := ⟨4, a, 0, [], [], []⟩
def eA (l : List S29) : S29 := ⟨5, ⟨#[]⟩, 0, [], l, []⟩
def eP (a : ByteArray) (l : List S29) : S29 := ⟨9, a, 0, [], l, []⟩
def dSum : S34 := ⟨sS, [⟨#[108]⟩], ⟨8, ⟨#[]⟩, 0, [], [eV ⟨#[108]⟩], [⟨1, sN, 0, [], eI 0⟩, ⟨1, ⟨#[67, 111, 110, 115]⟩, 0, [⟨#[104]⟩, ⟨#[116]⟩], eP ⟨#[43]⟩ [eV ⟨#[104]⟩, eA [eV sS, eV ⟨#[116]⟩]]⟩]⟩⟩
theorem k_0 (w : World) (x0 x2 : Int) (x1 : ByteArray) : k29.K w ⟨x0, x1, x2, [], [], []⟩ [.int .i64 x0, .string x1, .int .i64 x2, .slice none 0 0, .slice none 0 0, .slice none 0 0] :=
 k29_mk w ⟨x0, x1, x2, [], [], []⟩ (Nat.le_refl _) (Kd.C_nil _ _) (Nat.le_refl _) (Kd.C_nil _ _) (Nat.le_refl _) (Kd.C_nil _ _)
set_option maxHeartbeats 8000000 in
set_option maxRecDepth 100000 in
theorem sum_calls (w : World) : Calls Tryd.prog 25 #[] w fun e w' => ∃ A1 A4 A5, e = .returned (.agg #[.string sS, .slice A1 1 1, .int .i64 8, .string ⟨#[]⟩, .int .i64 0, .slice none 0 0, .slice A4 1 1, .slice A5 2 2]) ∧ k34.K w' dSum [.string sS, .slice A1 1 1, .int .i64 8, .string ⟨#[]⟩, .int .i64 0, .slice none 0 0, .slice A4 1 1, .slice A5 2 2] ∧ Below w.heap.size w w' := by
 have E : ∀ W : World, ∀ o : Obj, (W.alloc o).heap.size = W.heap.size + 1 := fun W o => Array.size_push _
 have infDf : (Tryd.prog.info? 34).map (·.size) = some 8 := by kernel_rfl
 go_enter Tryd.func25, Tryd.ntmps25
 have T1 : True := trivial
 go_wp2_with (first | (clear T1; go_at_call 9; go_loud (with_reducible refine (v_calls _ _).mono ?_); rintro e w1 ⟨rfl, hb1⟩; have HB1 := Qb.mk hb1; clear hb1; have T2 : True := trivial) | (clear T2; go_at_call 8; go_loud (with_reducible refine (i_calls _ _).mono ?_); rintro e w2 ⟨rfl, hb2⟩; have HB2 := Qb.mk hb2; clear hb2; have T3 : True := trivial) | (clear T3; go_at_call 9; go_loud (with_reducible refine (v_calls _ _).mono ?_); rintro e w3 ⟨rfl, hb3⟩; have HB3 := Qb.mk hb3; clear hb3; have T4 : True := trivial) | (clear T4; go_at_call 9; go_loud (with_reducible refine (v_calls _ _).mono ?_); rintro e w4 ⟨rfl, hb4⟩; have HB4 := Qb.mk hb4; clear hb4; have T5 : True := trivial) | (clear T5; go_at_call 9; go_loud (with_reducible refine (v_calls _ _).mono ?_); rintro e w5 ⟨rfl, hb5⟩; have HB5 := Qb.mk hb5; clear hb5; have T6 : True := trivial) | (clear T6; go_at_call 23; go_loud (with_reducible refine (a_calls _ _ _ _).mono ?_); rintro e w6 ⟨rfl, hb6⟩; have HB6 := Qb.mk hb6; clear hb6; have T7 : True := trivial) | (clear T7; go_at_call 48; go_loud (with_reducible refine (p_calls _ _ _ _ _).mono ?_); rintro e w7 ⟨rfl, hb7⟩; have HB7 := Qb.mk hb7; clear hb7; have T8 : True := trivial))
 (with_reducible refine (d_calls _ _).mono ?_)
 rintro e w8 ⟨rfl, hb8⟩
 have HB8 := Qb.mk hb8
 have c8 := HB8.out
 have c7 := Qe (Qd (Below.refl w7.heap.size w7) _) HB8.out
 have c6 := Qe (Qe (Qd (Below.refl w6.heap.size w6) _) HB7.out) c7
 have c5 := Qe (Qe (Qd (Below.refl w5.heap.size w5) _) HB6.out) c6
 have c4 := Qe HB5.out c5
 have c3 := Qe HB4.out c4
 have c2 := Qe (Qe (Qd (Below.refl w2.heap.size w2) _) HB3.out) c3
 have c1 := Qe (Qe (Qd (Below.refl w1.heap.size w1) _) HB2.out) c2
 have c0 := Qe HB1.out c1
 have hres := Qc ((Below.heap_alloc _ _ _ (by rw [E]; omega)).trans (Qv w _)) c0
 have hx0 := (Qa hres 0).trans rfl
 have hf0 := Qg hres 0
 have hx1 := (Qa hres 1).trans rfl
 have hf1 := Qg hres 1
 have hx2 := (Qa hres 2).trans rfl
 have hf2 := Qg hres 2
 have hx3 := (Qa hres 3).trans rfl
 have hf3 := Qg hres 3
 have hx4 := (Qa hres 4).trans rfl
 have hf4 := Qg hres 4
 have hx5 := (Qa hres 5).trans rfl
 have hf5 := Qg hres 5
 have hx6 := (Qa hres 6).trans rfl
 have hf6 := Qg hres 6
 have hx7 := (Qa hres 7).trans rfl
 have hf7 := Qg hres 7
 have cw := Qe (Qd (Qd (Below.refl w.heap.size w) _) _) c0
 have k1 := Qc (Qv _ _) c0
 have k2 := Qc (Qc (Qv w1 _) HB2.out) c2
 have k3 := Qc (Qc (Qv w2 _) HB3.out) c3
 have k4 := Qc (Qc (Qv w5 _) HB6.out) c6
 have k5 := Qc (Qc (Qv w6 _) HB7.out) c7
 have k6 := Qc (Qv w7 _) c8
 rw [E] at k1
 have l0 := cw.size
 have l1 : w.heap.size < w1.heap.size := by have := HB1.out.size; rw [E, E] at this; omega
 have l2 := c1.size
 have l3 : w1.heap.size ≤ w2.heap.size := by have := HB2.out.size; rw [E] at this; omega
 have l4 : w2.heap.size ≤ w5.heap.size := by have := HB3.out.size; have := HB4.out.size; have := HB5.out.size; rw [E] at *; omega
 have l5 : w5.heap.size ≤ w6.heap.size := by have := HB6.out.size; rw [E] at this; omega
 have l6 : w6.heap.size ≤ w7.heap.size := by have := HB7.out.size; rw [E] at this; omega
 have HK := Qb.mk (And.intro k1 (And.intro k2 (And.intro k3 (And.intro k4 (And.intro k5 k6)))))
 have HL := Qb.mk (And.intro l1 (And.intro l3 (And.intro l4 (And.intro l5 l6))))
 have HW := Qb.mk cw
 clear hres c0 c1 c2 c3 c4 c5 c6 c7 c8 k1 k2 k3 k4 k5 k6 l0 l1 l2 l3 l4 l5 l6 cw HB1 HB2 HB3 HB4 HB5 HB6 HB7 HB8
 go_wp2
 obtain ⟨k1, k2, k3, k4, k5, k6⟩ := HK.out
 obtain ⟨l1, l3, l4, l5, l6⟩ := HL.out
 refine bodyPost_ret (v := .agg #[.string ⟨#[115, 117, 109]⟩, .slice (some ⟨w.heap.size + 1, 0, none⟩) 1 1, .int .i64 8, .string ⟨#[]⟩, .int .i64 0, .slice none 0 0, .slice (some ⟨w1.heap.size, 0, none⟩) 1 1, .slice (some ⟨w7.heap.size, 0, none⟩) 2 2]) (by simp [results, Tryd.results25, go_sem, *]) rfl ⟨_, _, _, rfl, ?_, low8 HW.out _ _ _ _ _ _ _ _⟩
 have q1 := (far8 w8 w.heap.size (.string ⟨#[115, 117, 109]⟩) (.slice (some ⟨w.heap.size + 1, 0, none⟩) 1 1) (.int .i64 8) (.string ⟨#[]⟩) (.int .i64 0) (.slice none 0 0) (.slice (some ⟨w1.heap.size, 0, none⟩) 1 1) (.slice (some ⟨w7.heap.size, 0, none⟩) 2 2) (j := w.heap.size + 1) (by omega)).trans k1
 have q2 := (far8 w8 w.heap.size (.string ⟨#[115, 117, 109]⟩) (.slice (some ⟨w.heap.size + 1, 0, none⟩) 1 1) (.int .i64 8) (.string ⟨#[]⟩) (.int .i64 0) (.slice none 0 0) (.slice (some ⟨w1.heap.size, 0, none⟩) 1 1) (.slice (some ⟨w7.heap.size, 0, none⟩) 2 2) (j := w1.heap.size) (by omega)).trans k2
 have q3 := (far8 w8 w.heap.size (.string ⟨#[115, 117, 109]⟩) (.slice (some ⟨w.heap.size + 1, 0, none⟩) 1 1) (.int .i64 8) (.string ⟨#[]⟩) (.int .i64 0) (.slice none 0 0) (.slice (some ⟨w1.heap.size, 0, none⟩) 1 1) (.slice (some ⟨w7.heap.size, 0, none⟩) 2 2) (j := w2.heap.size) (by omega)).trans k3
 have q4 := (far8 w8 w.heap.size (.string ⟨#[115, 117, 109]⟩) (.slice (some ⟨w.heap.size + 1, 0, none⟩) 1 1) (.int .i64 8) (.string ⟨#[]⟩) (.int .i64 0) (.slice none 0 0) (.slice (some ⟨w1.heap.size, 0, none⟩) 1 1) (.slice (some ⟨w7.heap.size, 0, none⟩) 2 2) (j := w5.heap.size) (by omega)).trans k4
 have q5 := (far8 w8 w.heap.size (.string ⟨#[115, 117, 109]⟩) (.slice (some ⟨w.heap.size + 1, 0, none⟩) 1 1) (.int .i64 8) (.string ⟨#[]⟩) (.int .i64 0) (.slice none 0 0) (.slice (some ⟨w1.heap.size, 0, none⟩) 1 1) (.slice (some ⟨w7.heap.size, 0, none⟩) 2 2) (j := w6.heap.size) (by omega)).trans k5
 have q6 := (far8 w8 w.heap.size (.string ⟨#[115, 117, 109]⟩) (.slice (some ⟨w.heap.size + 1, 0, none⟩) 1 1) (.int .i64 8) (.string ⟨#[]⟩) (.int .i64 0) (.slice none 0 0) (.slice (some ⟨w1.heap.size, 0, none⟩) 1 1) (.slice (some ⟨w7.heap.size, 0, none⟩) 2 2) (j := w7.heap.size) (by omega)).trans k6
 generalize ((((((((w8.setCell ⟨w.heap.size, 0, none⟩ (.string ⟨#[115, 117, 109]⟩)).setCell ⟨w.heap.size, 1, none⟩ (.slice (some ⟨w.heap.size + 1, 0, none⟩) 1 1)).setCell ⟨w.heap.size, 2, none⟩ (.int .i64 8)).setCell ⟨w.heap.size, 3, none⟩ (.string ⟨#[]⟩)).setCell ⟨w.heap.size, 4, none⟩ (.int .i64 0)).setCell ⟨w.heap.size, 5, none⟩ (.slice none 0 0)).setCell ⟨w.heap.size, 6, none⟩ (.slice (some ⟨w1.heap.size, 0, none⟩) 1 1)).setCell ⟨w.heap.size, 7, none⟩ (.slice (some ⟨w7.heap.size, 0, none⟩) 2 2)) = Wf at *
 have g2 : k29.C Wf (some ⟨w1.heap.size, 0, none⟩) 1 [eV ⟨#[108]⟩] := ZL q2 (QB.c6 (k_0 _ _ _ _) (QB.none _ _)) (by decide)
 have g4 : k29.C Wf (some ⟨w5.heap.size, 0, none⟩) 2 [eV sS, eV ⟨#[116]⟩] := ZL q4 (QB.c6 (k_0 _ _ _ _) (QB.c6 (k_0 _ _ _ _) (QB.none _ _))) (by decide)
 have g5 : k29.C Wf (some ⟨w6.heap.size, 0, none⟩) 2 [eV ⟨#[104]⟩, eA [eV sS, eV ⟨#[116]⟩]] := ZL q5 (QB.c6 (k_0 _ _ _ _) (QB.c6 (k29_mk Wf (eA [eV sS, eV ⟨#[116]⟩]) (Nat.le_refl _) (Kd.C_nil _ _) (Nat.le_refl 2) g4 (Nat.le_refl _) (Kd.C_nil _ _)) (QB.none _ _))) (by decide)
 have g6 : k88.C Wf (some ⟨w7.heap.size, 0, none⟩) 2 dSum.f2.f5 := ZL q6 (QB.c10 (k88_mk Wf ⟨1, sN, 0, [], eI 0⟩ (Nat.le_refl _) (Kd.C_nil _ _) (Nat.le_refl _) (Kd.C_nil _ _) (Nat.le_refl _) (Kd.C_nil _ _) (Nat.le_refl _) (Kd.C_nil _ _)) (QB.c10 (k88_mk Wf ⟨1, ⟨#[67, 111, 110, 115]⟩, 0, [⟨#[104]⟩, ⟨#[116]⟩], eP ⟨#[43]⟩ [eV ⟨#[104]⟩, eA [eV sS, eV ⟨#[116]⟩]]⟩ (Nat.le_refl 2) (C_strs [⟨#[104]⟩, ⟨#[116]⟩] q3 (by decide)) (Nat.le_refl _) (Kd.C_nil _ _) (Nat.le_refl 2) g5 (Nat.le_refl _) (Kd.C_nil _ _)) (QB.none _ _))) (by decide)
 exact k34_mk Wf dSum (Nat.le_refl 1) (C_strs [⟨#[108]⟩] q1 (by decide)) (Nat.le_refl _) (Kd.C_nil _ _) (Nat.le_refl 1) g2 (Nat.le_refl 2) g6
theorem heapE : Kd.Heap k29 := Kd.heap_fix (fun d hd => Kd.heap_iso _ (Kd.ZH (Kd.heap_int _) (Kd.ZH Kd.Vl (Kd.ZH (Kd.heap_int _) (Kd.ZH (Kd.heap_slice _ Kd.Vl) (Kd.ZH (Kd.heap_slice _ hd) (Kd.heap_slice _ (Kd.heap_iso _ (Kd.ZH (Kd.heap_int _) (Kd.ZH Kd.Vl (Kd.ZH (Kd.heap_int _) (Kd.ZH (Kd.heap_slice _ Kd.Vl) hd))))))))))))
theorem heapD : Kd.Heap k34 := Kd.heap_iso _ (Kd.ZH Kd.Vl (Kd.ZH (Kd.heap_slice _ Kd.Vl) heapE))
theorem below_own {W W1 : World} (hg : W.grownBy W1 none) : Below W.heap.size W W1 := ⟨hg.os, hg.tape, hg.output, hg.size, fun j hj => hg.block j hj (by simp)⟩
theorem mainF {w W : World} {ok0 : Nat → Prop} {x : S29} {A3 A4 A5 : Option Addr} {n3 c3 n4 c4 n5 c5 b : Nat} (hK : Kd.FK k29 w ok0 x [.int .i64 x.f0, .string x.f1, .int .i64 x.f2, .slice A3 n3 c3, .slice A4 n4 c4, .slice A5 n5 c5]) (hw : ∀ k, k < w.heap.size → W.heap[k]? = w.heap[k]?) (hb : W.heap[b]? = some (.cells #[.string ⟨#[109, 97, 105, 110]⟩, .slice none 0 0, .int .i64 x.f0, .string x.f1, .int .i64 x.f2, .slice A3 n3 c3, .slice A4 n4 c4, .slice A5 n5 c5] 34 (0, 0))) :
  Kd.F k34 W (fun k => (ok0 k ∧ k < w.heap.size) ∨ k = b) (some ⟨b, 0, none⟩) 1 [⟨⟨#[109, 97, 105, 110]⟩, [], x⟩] := by
 intro W' h
 have hlt := (Array.getElem?_eq_some_iff.1 hb).1
 refine ZL ((h b (.inr rfl) hlt).trans hb) (QB.c8 ?_ (QB.none _ _)) (by simp)
 have hKW : k29.K W' x _ := hK W' (fun k hok hk => by
  have h1 := hw k hk
  have h2 : k < W.heap.size := by
   by_cases hk2 : k < W.heap.size
   ·exact hk2
   ·rw [Array.getElem?_eq_none (by omega), Array.getElem?_eq_getElem hk] at h1
    cases h1
  exact (h k (.inl ⟨hok, hk⟩) h2).trans h1)
 exact ⟨[.string ⟨#[109, 97, 105, 110]⟩], _, rfl, rfl, ⟨[.slice none 0 0], _, rfl, ⟨none, 0, rfl, Nat.le_refl _, Kd.C_nil _ _⟩, hKW⟩⟩
set_option maxHeartbeats 16000000 in
set_option maxRecDepth 100000 in
theorem mainF_calls (w : World) {ok0 : Nat → Prop} (x : S29) {A3 A4 A5 : Option Addr} {n3 c3 n4 c4 n5 c5 : Nat} (hKx : Kd.FK k29 w ok0 x [.int .i64 x.f0, .string x.f1, .int .i64 x.f2, .slice A3 n3 c3, .slice A4 n4 c4, .slice A5 n5 c5]) (ds : List S34) (hlen : ds.length ≤ 1000) {A : Option Addr} {c : Nat} (hC : Kd.F k34 w ok0 A ds.length ds) :
  Calls Tryd.prog 12 #[.agg #[.int .i64 x.f0, .string x.f1, .int .i64 x.f2, .slice A3 n3 c3, .slice A4 n4 c4, .slice A5 n5 c5], .slice A ds.length c] w fun e w' => ∃ A1 A2 c2, e = .returned (.agg #[.slice A1 1 1, .slice A2 (ds.length + 1) c2]) ∧ Kd.F k34 w' (fun k => (ok0 k ∧ k < w.heap.size) ∨ w.heap.size ≤ k) A2 (ds.length + 1) (ds ++ [⟨⟨#[109, 97, 105, 110]⟩, [], x⟩]) ∧ Below w.heap.size w w' := by
 have E : ∀ W : World, ∀ o : Obj, (W.alloc o).heap.size = W.heap.size + 1 := fun W o => Array.size_push _
 obtain ⟨W0, hW0⟩ : ∃ W0, (w.alloc (.cells #[.int .i64 x.f0, .string x.f1, .int .i64 x.f2, .slice A3 n3 c3, .slice A4 n4 c4, .slice A5 n5 c5] 29)).alloc (.cells #[.slice none 0 0, .slice none 0 0] 38) = W0 := ⟨_, rfl⟩
 have HB0 : Qb (Below w.heap.size w W0) := ⟨by rw [← hW0]; exact Qd (Qd (Below.refl _ _) _) _⟩
 have hbx : Qb (W0.heap[w.heap.size]? = some (.cells #[.int .i64 x.f0, .string x.f1, .int .i64 x.f2, .slice A3 n3 c3, .slice A4 n4 c4, .slice A5 n5 c5] 29 (0, 0))) := ⟨by rw [← hW0]; exact (Below.heap_alloc _ _ _ (by rw [E]; omega)).trans (Qv w _)⟩
 have hrx : Qb (W0.heap[w.heap.size + 1]? = some (.cells #[.slice none 0 0, .slice none 0 0] 38 (0, 0))) := ⟨by rw [← hW0, ← E w]; exact Qv _ _⟩
 have hl1 : Qb (w.heap.size + 1 < W0.heap.size) := ⟨by rw [← hW0, E, E]; omega⟩
 have hF : Qb (Kd.F k34 w (fun k => ok0 k ∧ k < w.heap.size) A ds.length ds) := ⟨Kd.F_bound hC⟩
 obtain ⟨okN, hokN⟩ : ∃ okN : Nat → Prop, okN = fun k => (ok0 k ∧ k < w.heap.size) ∨ W0.heap.size ≤ k := ⟨_, rfl⟩
 have hok1 : Qb (∀ k, W0.heap.size ≤ k → okN k) := ⟨fun k hk => by rw [hokN]; exact .inr hk⟩
 have hok2 : Qb (∀ k, ok0 k ∧ k < w.heap.size → okN k) := ⟨fun k hk => by rw [hokN]; exact .inl hk⟩
 have hok3 : Qb (∀ k, okN k → k ≠ w.heap.size + 1) := ⟨fun k hk e => by rw [hokN] at hk; have := hl1.out; rcases hk with hk | hk <;> omega⟩
 have hok4 : Qb (∀ k, okN k → (ok0 k ∧ k < w.heap.size) ∨ w.heap.size ≤ k) := ⟨fun k hk => by rw [hokN] at hk; have := hl1.out; rcases hk with hk | hk; exact .inl hk; exact .inr (by omega)⟩
 clear hokN
 replace hKx := Qb.mk hKx
 clear hC
 go_enter Tryd.func12, Tryd.ntmps12
 go_wp2
 try rw [hW0]
 clear hW0
 have HB_ : Below W0.heap.size W0 W0.drew := Qi (Below.refl _ _)
 refine QZ (n := 11) (S := fun w' => w'.cell? ⟨w.heap.size, 0, none⟩ = some (.int .i64 x.f0) ∧ w'.cell? ⟨w.heap.size, 1, none⟩ = some (.string x.f1) ∧ w'.cell? ⟨w.heap.size, 2, none⟩ = some (.int .i64 x.f2) ∧ w'.cell? ⟨w.heap.size, 3, none⟩ = some (.slice A3 n3 c3) ∧ w'.cell? ⟨w.heap.size, 4, none⟩ = some (.slice A4 n4 c4) ∧ w'.cell? ⟨w.heap.size, 5, none⟩ = some (.slice A5 n5 c5)) (ds := [10]) (bm 11 0) (by kernel_rfl) rfl rfl ⟨(Qa (Qc hbx.out HB_) 0).trans rfl, (Qa (Qc hbx.out HB_) 1).trans rfl, (Qa (Qc hbx.out HB_) 2).trans rfl, (Qa (Qc hbx.out HB_) 3).trans rfl, (Qa (Qc hbx.out HB_) 4).trans rfl, (Qa (Qc hbx.out HB_) 5).trans rfl⟩ (fun hHeld => ?_)
 generalize W0.drew = W9 at *
 refine Q4 (i := 3) (N := some 8) (v := ?_) (a' := ?_) (bm 11 8) rfl rfl (by kernel_rfl) (fun _ _ _ h => h) (Or.inl ⟨by rfl, ?_⟩) ?_ ?_
 rotate_left
 ·intro w'
  go_simp
  with_reducible rfl
 rotate_left
 ·simp only [Act.put, sA, sB, sC, Qk, Ql]
  rfl
 refine QE (i := 5) (N := some 10) (v := ?_) (a' := ?_) (bm 11 40) rfl rfl (by kernel_rfl) (fun _ _ _ h => h) (Or.inl ⟨by rfl, ?_⟩) hHeld ?_ ?_
 rotate_left
 ·rintro w' ⟨s0, s1, s2, s3, s4, s5⟩
  go_simp
  with_reducible rfl
 rotate_left
 ·simp only [Act.put, sA, sB, sC, Qk, Ql]
  rfl
 refine Ze (σ := Option Addr × Option Addr × Option Addr × Value × Value × Value × Value) 2 (bm 11 511) (fun s_ => [(5, .agg #[.string ⟨#[76, 105, 115, 116]⟩, .slice s_.1 1 1, .slice s_.2.1 2 2]), (6, .slice s_.2.2.1 1 1), (7, s_.2.2.2.1), (9, s_.2.2.2.2.1), (11, .agg #[.string ⟨#[109, 97, 105, 110]⟩, .slice none 0 0, .int .i64 x.f0, .string x.f1, .int .i64 x.f2, .slice A3 n3 c3, .slice A4 n4 c4, .slice A5 n5 c5]), (12, s_.2.2.2.2.2.1), (13, s_.2.2.2.2.2.2)]) (fun s_ w' => (Below W0.heap.size W0 w') ∧ (Kd.N k34 34 w' W0.heap.size okN (s_.2.2.2.2.2.2) (ds ++ [⟨⟨#[109, 97, 105, 110]⟩, [], x⟩]))) ?_ ?_
 rotate_left
 ·intro hJ0_1_2_4_6_7_8
  refine Ze (σ := Option Addr × Option Addr × Option Addr × Value × Value × Value × Value) 3 (bm 11 255) (fun s_ => [(5, .agg #[.string ⟨#[76, 105, 115, 116]⟩, .slice s_.1 1 1, .slice s_.2.1 2 2]), (6, .slice s_.2.2.1 1 1), (7, s_.2.2.2.1), (9, s_.2.2.2.2.1), (11, .agg #[.string ⟨#[109, 97, 105, 110]⟩, .slice none 0 0, .int .i64 x.f0, .string x.f1, .int .i64 x.f2, .slice A3 n3 c3, .slice A4 n4 c4, .slice A5 n5 c5]), (12, s_.2.2.2.2.2.1)]) (fun s_ w' => (Below W0.heap.size W0 w') ∧ (Kd.N k34 34 w' W0.heap.size okN (s_.2.2.2.2.1) (ds)) ∧ (∃ b, s_.2.2.2.2.2.1 = .slice (some ⟨b, 0, none⟩) 1 1 ∧ w'.heap[b]? = some (.cells #[.string ⟨#[109, 97, 105, 110]⟩, .slice none 0 0, .int .i64 x.f0, .string x.f1, .int .i64 x.f2, .slice A3 n3 c3, .slice A4 n4 c4, .slice A5 n5 c5] 34 (0, 0)) ∧ W0.heap.size ≤ b ∧ some b ≠ (s_.2.2.2.2.1).ownBlock)) ?_ ?_
  rotate_left
  ·intro hJ0_1_2_4_6_7
   refine Ze (σ := Option Addr × Option Addr × Option Addr × Value × Value × Value × Value) 3 (bm 11 509) (fun s_ => [(5, .agg #[.string ⟨#[76, 105, 115, 116]⟩, .slice s_.1 1 1, .slice s_.2.1 2 2]), (7, s_.2.2.2.1), (9, s_.2.2.2.2.1), (11, .agg #[.string ⟨#[109, 97, 105, 110]⟩, .slice none 0 0, .int .i64 x.f0, .string x.f1, .int .i64 x.f2, .slice A3 n3 c3, .slice A4 n4 c4, .slice A5 n5 c5]), (12, s_.2.2.2.2.2.1), (13, s_.2.2.2.2.2.2)]) (fun s_ w' => (Below W0.heap.size W0 w') ∧ (Kd.N k34 34 w' W0.heap.size okN (s_.2.2.2.2.2.2) (ds ++ [⟨⟨#[109, 97, 105, 110]⟩, [], x⟩]))) ?_ ?_
   rotate_left
   ·intro hJ0_2_4_6_7_8
    refine Ze (σ := Option Addr × Option Addr × Option Addr × Value × Value × Value × Value) 4 (bm 11 127) (fun s_ => [(5, .agg #[.string ⟨#[76, 105, 115, 116]⟩, .slice s_.1 1 1, .slice s_.2.1 2 2]), (6, .slice s_.2.2.1 1 1), (7, s_.2.2.2.1), (9, s_.2.2.2.2.1), (11, .agg #[.string ⟨#[109, 97, 105, 110]⟩, .slice none 0 0, .int .i64 x.f0, .string x.f1, .int .i64 x.f2, .slice A3 n3 c3, .slice A4 n4 c4, .slice A5 n5 c5])]) (fun s_ w' => (Below W0.heap.size W0 w') ∧ (Kd.N k34 34 w' W0.heap.size okN (s_.2.2.2.2.1) (ds))) ?_ ?_
    rotate_left
    ·intro hJ0_1_2_4_6
     refine Ze (σ := Option Addr × Option Addr × Option Addr × Value × Value × Value × Value) 4 (bm 11 253) (fun s_ => [(5, .agg #[.string ⟨#[76, 105, 115, 116]⟩, .slice s_.1 1 1, .slice s_.2.1 2 2]), (7, s_.2.2.2.1), (9, s_.2.2.2.2.1), (11, .agg #[.string ⟨#[109, 97, 105, 110]⟩, .slice none 0 0, .int .i64 x.f0, .string x.f1, .int .i64 x.f2, .slice A3 n3 c3, .slice A4 n4 c4, .slice A5 n5 c5]), (12, s_.2.2.2.2.2.1)]) (fun s_ w' => (Below W0.heap.size W0 w') ∧ (Kd.N k34 34 w' W0.heap.size okN (s_.2.2.2.2.1) (ds)) ∧ (∃ b, s_.2.2.2.2.2.1 = .slice (some ⟨b, 0, none⟩) 1 1 ∧ w'.heap[b]? = some (.cells #[.string ⟨#[109, 97, 105, 110]⟩, .slice none 0 0, .int .i64 x.f0, .string x.f1, .int .i64 x.f2, .slice A3 n3 c3, .slice A4 n4 c4, .slice A5 n5 c5] 34 (0, 0)) ∧ W0.heap.size ≤ b ∧ some b ≠ (s_.2.2.2.2.1).ownBlock)) ?_ ?_
     rotate_left
     ·intro hJ0_2_4_6_7
      refine Ze (σ := Option Addr × Option Addr × Option Addr × Value × Value × Value × Value) 5 (bm 11 63) (fun s_ => [(5, .agg #[.string ⟨#[76, 105, 115, 116]⟩, .slice s_.1 1 1, .slice s_.2.1 2 2]), (6, .slice s_.2.2.1 1 1), (7, s_.2.2.2.1), (9, s_.2.2.2.2.1)]) (fun s_ w' => (Below W0.heap.size W0 w') ∧ (Kd.N k34 34 w' W0.heap.size okN (s_.2.2.2.2.1) (ds))) ?_ ?_
      rotate_left
      ·intro hJ0_1_2_4
       refine Ze (σ := Option Addr × Option Addr × Option Addr × Value × Value × Value × Value) 5 (bm 11 125) (fun s_ => [(5, .agg #[.string ⟨#[76, 105, 115, 116]⟩, .slice s_.1 1 1, .slice s_.2.1 2 2]), (7, s_.2.2.2.1), (9, s_.2.2.2.2.1), (11, .agg #[.string ⟨#[109, 97, 105, 110]⟩, .slice none 0 0, .int .i64 x.f0, .string x.f1, .int .i64 x.f2, .slice A3 n3 c3, .slice A4 n4 c4, .slice A5 n5 c5])]) (fun s_ w' => (Below W0.heap.size W0 w') ∧ (Kd.N k34 34 w' W0.heap.size okN (s_.2.2.2.2.1) (ds))) ?_ ?_
       rotate_left
       ·intro hJ0_2_4_6
        refine Ze (σ := Option Addr × Option Addr × Option Addr × Value × Value × Value × Value) 6 (bm 11 47) (fun s_ => [(5, .agg #[.string ⟨#[76, 105, 115, 116]⟩, .slice s_.1 1 1, .slice s_.2.1 2 2]), (6, .slice s_.2.2.1 1 1), (7, s_.2.2.2.1)]) (fun s_ w' => (Below W0.heap.size W0 w') ∧ (Kd.N k34 34 w' W0.heap.size okN (s_.2.2.2.1) ([]))) ?_ ?_
        rotate_left
        ·intro hJ0_1_2
         refine Ze (σ := Option Addr × Option Addr × Option Addr × Value × Value × Value × Value) 6 (bm 11 61) (fun s_ => [(5, .agg #[.string ⟨#[76, 105, 115, 116]⟩, .slice s_.1 1 1, .slice s_.2.1 2 2]), (7, s_.2.2.2.1), (9, s_.2.2.2.2.1)]) (fun s_ w' => (Below W0.heap.size W0 w') ∧ (Kd.N k34 34 w' W0.heap.size okN (s_.2.2.2.2.1) (ds))) ?_ ?_
         rotate_left
         ·intro hJ0_2_4
          refine Ze (σ := Option Addr × Option Addr × Option Addr × Value × Value × Value × Value) 7 (bm 11 43) (fun s_ => [(5, .agg #[.string ⟨#[76, 105, 115, 116]⟩, .slice s_.1 1 1, .slice s_.2.1 2 2]), (6, .slice s_.2.2.1 1 1)]) (fun s_ w' => (Below W0.heap.size W0 w')) ?_ ?_
          rotate_left
          ·intro hJ0_1
           refine Ze (σ := Option Addr × Option Addr × Option Addr × Value × Value × Value × Value) 7 (bm 11 45) (fun s_ => [(5, .agg #[.string ⟨#[76, 105, 115, 116]⟩, .slice s_.1 1 1, .slice s_.2.1 2 2]), (7, s_.2.2.2.1)]) (fun s_ w' => (Below W0.heap.size W0 w') ∧ (Kd.N k34 34 w' W0.heap.size okN (s_.2.2.2.1) ([]))) ?_ ?_
           rotate_left
           ·intro hJ0_2
            refine Ze (σ := Option Addr × Option Addr × Option Addr × Value × Value × Value × Value) 8 (bm 11 41) (fun s_ => [(5, .agg #[.string ⟨#[76, 105, 115, 116]⟩, .slice s_.1 1 1, .slice s_.2.1 2 2])]) (fun s_ w' => (Below W0.heap.size W0 w')) ?_ ?_
            rotate_left
            ·intro hJ0
             refine Ze (σ := Option Addr × Option Addr × Option Addr × Value × Value × Value × Value) 8 (bm 11 44) (fun s_ => [(7, s_.2.2.2.1)]) (fun s_ w' => (Below W0.heap.size W0 w') ∧ (Kd.N k34 34 w' W0.heap.size okN (s_.2.2.2.1) ([]))) ?_ ?_
             rotate_left
             ·intro hJ2
              refine two_ (i := 0) (j := 2) (Ni := some 5) (Nj := some 7) (bm 11 41) (bm 11 44) rfl rfl rfl rfl (by kernel_rfl) (by decide) (by decide) (fun K hK => ?_) (fun K hK => ?_)
              ·skip
               refine QI Tryd.func27 (by kernel_rfl) rfl #[] (by rfl) rfl rfl (by simp only [List.map_toArray, List.map_nil]) ?_
               (with_reducible refine (lists_calls W9).mono ?_)
               rintro e w3 ⟨x1, x2, rfl, hbq⟩
               refine ⟨_, rfl, ?_⟩
               have HBn := Qe HB_ hbq
               refine hK.out _ _ ⟨(Qa (Qc hbx.out HBn) 0).trans rfl, (Qa (Qc hbx.out HBn) 1).trans rfl, (Qa (Qc hbx.out HBn) 2).trans rfl, (Qa (Qc hbx.out HBn) 3).trans rfl, (Qa (Qc hbx.out HBn) 4).trans rfl, (Qa (Qc hbx.out HBn) 5).trans rfl⟩ (fun hHeld => ?_)
               clear hK K
               refine Qq (a' := ?_) ?_ ?_
               rotate_left
               ·show Act.put _ (some 5) _ = _
                simp only [Act.put, sA, sB, sC, Qk, Ql]
                rfl
               exact Qq (by first | (simp only [Qs, Act.put, List.setIfInBounds_toArray, List.set_cons_zero, List.set_cons_succ]; done) | (simp only [Qs, Act.put, List.setIfInBounds_toArray, List.set_cons_zero, List.set_cons_succ]; rfl)) (hJ0 (x1, x2, none, (.slice none 0 0), (.slice none 0 0), (.slice none 0 0), (.slice none 0 0)) _ HBn)
              ·skip
               refine Kd.N_lit_step k34 (w0 := W0) W0.heap.size 34 (by rfl) rfl (xs := []) (inner := []) (ok := okN) (okp := fun _ => False) ?_ (QB.none _ _) (fun _ hk => hk.elim) ?_ HB_ HB_.size (by decide) ?_
               ·go_simp
               ·exact hok1.out _ HB_.size
               intro v3 w3 hn3 hb3 hg3 hat3
               have hbq : Below W9.heap.size W9 w3 := below_own hg3
               have HBn := Qe HB_ hbq
               refine hK.out _ _ ⟨(Qa (Qc hbx.out HBn) 0).trans rfl, (Qa (Qc hbx.out HBn) 1).trans rfl, (Qa (Qc hbx.out HBn) 2).trans rfl, (Qa (Qc hbx.out HBn) 3).trans rfl, (Qa (Qc hbx.out HBn) 4).trans rfl, (Qa (Qc hbx.out HBn) 5).trans rfl⟩ (fun hHeld => ?_)
               clear hK K
               refine Qq (a' := ?_) ?_ ?_
               rotate_left
               ·show Act.put _ (some 7) _ = _
                simp only [Act.put, sA, sB, sC, Qk, Ql]
                rfl
               exact Qq (by first | (simp only [Qs, Act.put, List.setIfInBounds_toArray, List.set_cons_zero, List.set_cons_succ]; done) | (simp only [Qs, Act.put, List.setIfInBounds_toArray, List.set_cons_zero, List.set_cons_succ]; rfl)) (hJ2 (none, none, none, v3, (.slice none 0 0), (.slice none 0 0), (.slice none 0 0)) _ ⟨HBn, hn3⟩)
             ·skip
              rintro ⟨a1, a2, a6, v7, v9, v12, v13⟩ W9 ⟨HB_, hN7⟩
              have hHeld : W9.cell? ⟨w.heap.size, 0, none⟩ = some (.int .i64 x.f0) ∧ W9.cell? ⟨w.heap.size, 1, none⟩ = some (.string x.f1) ∧ W9.cell? ⟨w.heap.size, 2, none⟩ = some (.int .i64 x.f2) ∧ W9.cell? ⟨w.heap.size, 3, none⟩ = some (.slice A3 n3 c3) ∧ W9.cell? ⟨w.heap.size, 4, none⟩ = some (.slice A4 n4 c4) ∧ W9.cell? ⟨w.heap.size, 5, none⟩ = some (.slice A5 n5 c5) := ⟨(Qa (Qc hbx.out HB_) 0).trans rfl, (Qa (Qc hbx.out HB_) 1).trans rfl, (Qa (Qc hbx.out HB_) 2).trans rfl, (Qa (Qc hbx.out HB_) 3).trans rfl, (Qa (Qc hbx.out HB_) 4).trans rfl, (Qa (Qc hbx.out HB_) 5).trans rfl⟩
              refine Qq (a' := ?_) ?_ ?_
              rotate_left
              ·simp only [Qs, Act.put, List.setIfInBounds_toArray, List.set_cons_zero, List.set_cons_succ]
               rfl
              refine QQ (i := 0) (N := some 5) (bm 11 45) rfl rfl (by kernel_rfl) (by decide) (fun K hK => ?_)
              refine QI Tryd.func27 (by kernel_rfl) rfl #[] (by rfl) rfl rfl (by simp only [List.map_toArray, List.map_nil]) ?_
              (with_reducible refine (lists_calls W9).mono ?_)
              rintro e w3 ⟨x1, x2, rfl, hbq⟩
              refine ⟨_, rfl, ?_⟩
              have HBn := Qe HB_ hbq
              refine hK.out _ _ ⟨(Qa (Qc hbx.out HBn) 0).trans rfl, (Qa (Qc hbx.out HBn) 1).trans rfl, (Qa (Qc hbx.out HBn) 2).trans rfl, (Qa (Qc hbx.out HBn) 3).trans rfl, (Qa (Qc hbx.out HBn) 4).trans rfl, (Qa (Qc hbx.out HBn) 5).trans rfl⟩ (fun hHeld => ?_)
              clear hK K
              refine Qq (a' := ?_) ?_ ?_
              rotate_left
              ·show Act.put _ (some 5) _ = _
               simp only [Act.put, sA, sB, sC, Qk, Ql]
               rfl
              exact Qq (by first | (simp only [Qs, Act.put, List.setIfInBounds_toArray, List.set_cons_zero, List.set_cons_succ]; done) | (simp only [Qs, Act.put, List.setIfInBounds_toArray, List.set_cons_zero, List.set_cons_succ]; rfl)) (hJ0_2 (x1, x2, a6, v7, v9, v12, v13) _ ⟨HBn, Kd.Vf hN7 hbq⟩)
            ·skip
             rintro ⟨a1, a2, a6, v7, v9, v12, v13⟩ W9 HB_
             have hHeld : W9.cell? ⟨w.heap.size, 0, none⟩ = some (.int .i64 x.f0) ∧ W9.cell? ⟨w.heap.size, 1, none⟩ = some (.string x.f1) ∧ W9.cell? ⟨w.heap.size, 2, none⟩ = some (.int .i64 x.f2) ∧ W9.cell? ⟨w.heap.size, 3, none⟩ = some (.slice A3 n3 c3) ∧ W9.cell? ⟨w.heap.size, 4, none⟩ = some (.slice A4 n4 c4) ∧ W9.cell? ⟨w.heap.size, 5, none⟩ = some (.slice A5 n5 c5) := ⟨(Qa (Qc hbx.out HB_) 0).trans rfl, (Qa (Qc hbx.out HB_) 1).trans rfl, (Qa (Qc hbx.out HB_) 2).trans rfl, (Qa (Qc hbx.out HB_) 3).trans rfl, (Qa (Qc hbx.out HB_) 4).trans rfl, (Qa (Qc hbx.out HB_) 5).trans rfl⟩
             refine Qq (a' := ?_) ?_ ?_
             rotate_left
             ·simp only [Qs, Act.put, List.setIfInBounds_toArray, List.set_cons_zero, List.set_cons_succ]
              rfl
             refine two_ (i := 1) (j := 2) (Ni := some 6) (Nj := some 7) (bm 11 43) (bm 11 45) rfl rfl rfl rfl (by kernel_rfl) (by decide) (by decide) (fun K hK => ?_) (fun K hK => ?_)
             ·skip
              refine QM (w1 := ?_) (v := ?_) (by rfl) rfl ?_ ?_
              rotate_left 2
              ·go_simp
               constructor
               ·rfl
               ·rfl
              have hbq := Qd (Below.refl W9.heap.size W9) (.cells #[.string ⟨#[76, 105, 115, 116]⟩, .slice a1 1 1, .slice a2 2 2] 56)
              have HBn := Qe HB_ hbq
              refine hK.out _ _ ⟨(Qa (Qc hbx.out HBn) 0).trans rfl, (Qa (Qc hbx.out HBn) 1).trans rfl, (Qa (Qc hbx.out HBn) 2).trans rfl, (Qa (Qc hbx.out HBn) 3).trans rfl, (Qa (Qc hbx.out HBn) 4).trans rfl, (Qa (Qc hbx.out HBn) 5).trans rfl⟩ (fun hHeld => ?_)
              clear hK K
              refine Qq (a' := ?_) ?_ ?_
              rotate_left
              ·show Act.put _ (some 6) _ = _
               simp only [Act.put, sA, sB, sC, Qk, Ql]
               rfl
              exact Qq (by first | (simp only [Qs, Act.put, List.setIfInBounds_toArray, List.set_cons_zero, List.set_cons_succ]; done) | (simp only [Qs, Act.put, List.setIfInBounds_toArray, List.set_cons_zero, List.set_cons_succ]; rfl)) (hJ0_1 (a1, a2, (some ⟨W9.heap.size, 0, none⟩), v7, v9, v12, v13) _ HBn)
             ·skip
              refine Kd.N_lit_step k34 (w0 := W0) W0.heap.size 34 (by rfl) rfl (xs := []) (inner := []) (ok := okN) (okp := fun _ => False) ?_ (QB.none _ _) (fun _ hk => hk.elim) ?_ HB_ HB_.size (by decide) ?_
              ·go_simp
              ·exact hok1.out _ HB_.size
              intro v3 w3 hn3 hb3 hg3 hat3
              have hbq : Below W9.heap.size W9 w3 := below_own hg3
              have HBn := Qe HB_ hbq
              refine hK.out _ _ ⟨(Qa (Qc hbx.out HBn) 0).trans rfl, (Qa (Qc hbx.out HBn) 1).trans rfl, (Qa (Qc hbx.out HBn) 2).trans rfl, (Qa (Qc hbx.out HBn) 3).trans rfl, (Qa (Qc hbx.out HBn) 4).trans rfl, (Qa (Qc hbx.out HBn) 5).trans rfl⟩ (fun hHeld => ?_)
              clear hK K
              refine Qq (a' := ?_) ?_ ?_
              rotate_left
              ·show Act.put _ (some 7) _ = _
               simp only [Act.put, sA, sB, sC, Qk, Ql]
               rfl
              exact Qq (by first | (simp only [Qs, Act.put, List.setIfInBounds_toArray, List.set_cons_zero, List.set_cons_succ]; done) | (simp only [Qs, Act.put, List.setIfInBounds_toArray, List.set_cons_zero, List.set_cons_succ]; rfl)) (hJ0_2 (a1, a2, a6, v3, v9, v12, v13) _ ⟨HBn, hn3⟩)
           ·skip
            rintro ⟨a1, a2, a6, v7, v9, v12, v13⟩ W9 ⟨HB_, hN7⟩
            have hHeld : W9.cell? ⟨w.heap.size, 0, none⟩ = some (.int .i64 x.f0) ∧ W9.cell? ⟨w.heap.size, 1, none⟩ = some (.string x.f1) ∧ W9.cell? ⟨w.heap.size, 2, none⟩ = some (.int .i64 x.f2) ∧ W9.cell? ⟨w.heap.size, 3, none⟩ = some (.slice A3 n3 c3) ∧ W9.cell? ⟨w.heap.size, 4, none⟩ = some (.slice A4 n4 c4) ∧ W9.cell? ⟨w.heap.size, 5, none⟩ = some (.slice A5 n5 c5) := ⟨(Qa (Qc hbx.out HB_) 0).trans rfl, (Qa (Qc hbx.out HB_) 1).trans rfl, (Qa (Qc hbx.out HB_) 2).trans rfl, (Qa (Qc hbx.out HB_) 3).trans rfl, (Qa (Qc hbx.out HB_) 4).trans rfl, (Qa (Qc hbx.out HB_) 5).trans rfl⟩
            refine Qq (a' := ?_) ?_ ?_
            rotate_left
            ·simp only [Qs, Act.put, List.setIfInBounds_toArray, List.set_cons_zero, List.set_cons_succ]
             rfl
            refine two_ (i := 1) (j := 4) (Ni := some 6) (Nj := some 9) (bm 11 47) (bm 11 61) rfl rfl rfl rfl (by kernel_rfl) (by decide) (by decide) (fun K hK => ?_) (fun K hK => ?_)
            ·skip
             refine QM (w1 := ?_) (v := ?_) (by rfl) rfl ?_ ?_
             rotate_left 2
             ·go_simp
              constructor
              ·rfl
              ·rfl
             have hbq := Qd (Below.refl W9.heap.size W9) (.cells #[.string ⟨#[76, 105, 115, 116]⟩, .slice a1 1 1, .slice a2 2 2] 56)
             have HBn := Qe HB_ hbq
             refine hK.out _ _ ⟨(Qa (Qc hbx.out HBn) 0).trans rfl, (Qa (Qc hbx.out HBn) 1).trans rfl, (Qa (Qc hbx.out HBn) 2).trans rfl, (Qa (Qc hbx.out HBn) 3).trans rfl, (Qa (Qc hbx.out HBn) 4).trans rfl, (Qa (Qc hbx.out HBn) 5).trans rfl⟩ (fun hHeld => ?_)
             clear hK K
             refine Qq (a' := ?_) ?_ ?_
             rotate_left
             ·show Act.put _ (some 6) _ = _
              simp only [Act.put, sA, sB, sC, Qk, Ql]
              rfl
             exact Qq (by first | (simp only [Qs, Act.put, List.setIfInBounds_toArray, List.set_cons_zero, List.set_cons_succ]; done) | (simp only [Qs, Act.put, List.setIfInBounds_toArray, List.set_cons_zero, List.set_cons_succ]; rfl)) (hJ0_1_2 (a1, a2, (some ⟨W9.heap.size, 0, none⟩), v7, v9, v12, v13) _ ⟨HBn, Kd.Vf hN7 hbq⟩)
            ·skip
             refine Kd.Z5 k34 (w0 := W0) W0.heap.size (by rfl) (.tmp 7) (.tmp 8) 24 34 _ 144 rfl Tryd.underlying24 info34 rfl (by decide) (by decide) (v7) [] ds A ds.length c okN (fun k => ok0 k ∧ k < w.heap.size) rfl rfl hN7 (Kd.F_step hF.out (fun k hk _ => ?_)) ?_ (fun k hk => ?_) HB_ HB_.size ?_ ?_
             ·exact (HB_.block k (Nat.lt_of_lt_of_le hk.2 HB0.out.size)).trans (HB0.out.block k hk.2)
             ·intro k hk; exact ⟨hok2.out k hk, fun e => by have := Kd.N_base hN7 k e.symm; have := HB0.out.size; omega⟩
             ·exact hok1.out _ (Nat.le_trans HB_.size hk)
             ·simp only [List.length_nil]; omega
             intro v3 w3 hn3 hb3 hg3 hat3
             have HBn := hb3
             refine hK.out _ _ ⟨(Qa (Qc hbx.out HBn) 0).trans rfl, (Qa (Qc hbx.out HBn) 1).trans rfl, (Qa (Qc hbx.out HBn) 2).trans rfl, (Qa (Qc hbx.out HBn) 3).trans rfl, (Qa (Qc hbx.out HBn) 4).trans rfl, (Qa (Qc hbx.out HBn) 5).trans rfl⟩ (fun hHeld => ?_)
             clear hK K
             refine Qq (a' := ?_) ?_ ?_
             rotate_left
             ·show Act.put _ (some 9) _ = _
              simp only [Act.put, sA, sB, sC, Qk, Ql]
              rfl
             exact Qq (by first | (simp only [Qs, Act.put, List.setIfInBounds_toArray, List.set_cons_zero, List.set_cons_succ]; done) | (simp only [Qs, Act.put, List.setIfInBounds_toArray, List.set_cons_zero, List.set_cons_succ]; rfl)) (hJ0_2_4 (a1, a2, a6, v7, v3, v12, v13) _ ⟨HBn, hn3⟩)
          ·skip
           rintro ⟨a1, a2, a6, v7, v9, v12, v13⟩ W9 HB_
           have hHeld : W9.cell? ⟨w.heap.size, 0, none⟩ = some (.int .i64 x.f0) ∧ W9.cell? ⟨w.heap.size, 1, none⟩ = some (.string x.f1) ∧ W9.cell? ⟨w.heap.size, 2, none⟩ = some (.int .i64 x.f2) ∧ W9.cell? ⟨w.heap.size, 3, none⟩ = some (.slice A3 n3 c3) ∧ W9.cell? ⟨w.heap.size, 4, none⟩ = some (.slice A4 n4 c4) ∧ W9.cell? ⟨w.heap.size, 5, none⟩ = some (.slice A5 n5 c5) := ⟨(Qa (Qc hbx.out HB_) 0).trans rfl, (Qa (Qc hbx.out HB_) 1).trans rfl, (Qa (Qc hbx.out HB_) 2).trans rfl, (Qa (Qc hbx.out HB_) 3).trans rfl, (Qa (Qc hbx.out HB_) 4).trans rfl, (Qa (Qc hbx.out HB_) 5).trans rfl⟩
           refine Qq (a' := ?_) ?_ ?_
           rotate_left
           ·simp only [Qs, Act.put, List.setIfInBounds_toArray, List.set_cons_zero, List.set_cons_succ]
            rfl
           refine QQ (i := 2) (N := some 7) (bm 11 47) rfl rfl (by kernel_rfl) (by decide) (fun K hK => ?_)
           refine Kd.N_lit_step k34 (w0 := W0) W0.heap.size 34 (by rfl) rfl (xs := []) (inner := []) (ok := okN) (okp := fun _ => False) ?_ (QB.none _ _) (fun _ hk => hk.elim) ?_ HB_ HB_.size (by decide) ?_
           ·go_simp
           ·exact hok1.out _ HB_.size
           intro v3 w3 hn3 hb3 hg3 hat3
           have hbq : Below W9.heap.size W9 w3 := below_own hg3
           have HBn := Qe HB_ hbq
           refine hK.out _ _ ⟨(Qa (Qc hbx.out HBn) 0).trans rfl, (Qa (Qc hbx.out HBn) 1).trans rfl, (Qa (Qc hbx.out HBn) 2).trans rfl, (Qa (Qc hbx.out HBn) 3).trans rfl, (Qa (Qc hbx.out HBn) 4).trans rfl, (Qa (Qc hbx.out HBn) 5).trans rfl⟩ (fun hHeld => ?_)
           clear hK K
           refine Qq (a' := ?_) ?_ ?_
           rotate_left
           ·show Act.put _ (some 7) _ = _
            simp only [Act.put, sA, sB, sC, Qk, Ql]
            rfl
           exact Qq (by first | (simp only [Qs, Act.put, List.setIfInBounds_toArray, List.set_cons_zero, List.set_cons_succ]; done) | (simp only [Qs, Act.put, List.setIfInBounds_toArray, List.set_cons_zero, List.set_cons_succ]; rfl)) (hJ0_1_2 (a1, a2, a6, v3, v9, v12, v13) _ ⟨HBn, hn3⟩)
         ·skip
          rintro ⟨a1, a2, a6, v7, v9, v12, v13⟩ W9 ⟨HB_, hN9⟩
          have hHeld : W9.cell? ⟨w.heap.size, 0, none⟩ = some (.int .i64 x.f0) ∧ W9.cell? ⟨w.heap.size, 1, none⟩ = some (.string x.f1) ∧ W9.cell? ⟨w.heap.size, 2, none⟩ = some (.int .i64 x.f2) ∧ W9.cell? ⟨w.heap.size, 3, none⟩ = some (.slice A3 n3 c3) ∧ W9.cell? ⟨w.heap.size, 4, none⟩ = some (.slice A4 n4 c4) ∧ W9.cell? ⟨w.heap.size, 5, none⟩ = some (.slice A5 n5 c5) := ⟨(Qa (Qc hbx.out HB_) 0).trans rfl, (Qa (Qc hbx.out HB_) 1).trans rfl, (Qa (Qc hbx.out HB_) 2).trans rfl, (Qa (Qc hbx.out HB_) 3).trans rfl, (Qa (Qc hbx.out HB_) 4).trans rfl, (Qa (Qc hbx.out HB_) 5).trans rfl⟩
          refine Qq (a' := ?_) ?_ ?_
          rotate_left
          ·simp only [Qs, Act.put, List.setIfInBounds_toArray, List.set_cons_zero, List.set_cons_succ]
           rfl
          refine two_ (i := 1) (j := 6) (Ni := some 6) (Nj := some 11) (bm 11 63) (bm 11 125) rfl rfl rfl rfl (by kernel_rfl) (by decide) (by decide) (fun K hK => ?_) (fun K hK => ?_)
          ·skip
           refine QM (w1 := ?_) (v := ?_) (by rfl) rfl ?_ ?_
           rotate_left 2
           ·go_simp
            constructor
            ·rfl
            ·rfl
           have hbq := Qd (Below.refl W9.heap.size W9) (.cells #[.string ⟨#[76, 105, 115, 116]⟩, .slice a1 1 1, .slice a2 2 2] 56)
           have HBn := Qe HB_ hbq
           refine hK.out _ _ ⟨(Qa (Qc hbx.out HBn) 0).trans rfl, (Qa (Qc hbx.out HBn) 1).trans rfl, (Qa (Qc hbx.out HBn) 2).trans rfl, (Qa (Qc hbx.out HBn) 3).trans rfl, (Qa (Qc hbx.out HBn) 4).trans rfl, (Qa (Qc hbx.out HBn) 5).trans rfl⟩ (fun hHeld => ?_)
           clear hK K
           refine Qq (a' := ?_) ?_ ?_
           rotate_left
           ·show Act.put _ (some 6) _ = _
            simp only [Act.put, sA, sB, sC, Qk, Ql]
            rfl
           exact Qq (by first | (simp only [Qs, Act.put, List.setIfInBounds_toArray, List.set_cons_zero, List.set_cons_succ]; done) | (simp only [Qs, Act.put, List.setIfInBounds_toArray, List.set_cons_zero, List.set_cons_succ]; rfl)) (hJ0_1_2_4 (a1, a2, (some ⟨W9.heap.size, 0, none⟩), v7, v9, v12, v13) _ ⟨HBn, Kd.Vf hN9 hbq⟩)
          ·skip
           refine QI Tryd.func11 (by kernel_rfl) rfl #[.string ⟨#[109, 97, 105, 110]⟩, .slice none 0 0, .agg #[.int .i64 x.f0, .string x.f1, .int .i64 x.f2, .slice A3 n3 c3, .slice A4 n4 c4, .slice A5 n5 c5]] (by rfl) rfl rfl (by simp only [List.map_toArray, List.map_cons, List.map_nil]; rfl) ?_
           (with_reducible refine (d_calls ⟨#[109, 97, 105, 110]⟩ W9).mono ?_)
           rintro e w3 ⟨rfl, hbq⟩
           refine ⟨_, rfl, ?_⟩
           have HBn := Qe HB_ hbq
           refine hK.out _ _ ⟨(Qa (Qc hbx.out HBn) 0).trans rfl, (Qa (Qc hbx.out HBn) 1).trans rfl, (Qa (Qc hbx.out HBn) 2).trans rfl, (Qa (Qc hbx.out HBn) 3).trans rfl, (Qa (Qc hbx.out HBn) 4).trans rfl, (Qa (Qc hbx.out HBn) 5).trans rfl⟩ (fun hHeld => ?_)
           clear hK K
           refine Qq (a' := ?_) ?_ ?_
           rotate_left
           ·show Act.put _ (some 11) _ = _
            simp only [Act.put, sA, sB, sC, Qk, Ql]
            rfl
           exact Qq (by first | (simp only [Qs, Act.put, List.setIfInBounds_toArray, List.set_cons_zero, List.set_cons_succ]; done) | (simp only [Qs, Act.put, List.setIfInBounds_toArray, List.set_cons_zero, List.set_cons_succ]; rfl)) (hJ0_2_4_6 (a1, a2, a6, v7, v9, v12, v13) _ ⟨HBn, Kd.Vf hN9 hbq⟩)
        ·skip
         rintro ⟨a1, a2, a6, v7, v9, v12, v13⟩ W9 ⟨HB_, hN7⟩
         have hHeld : W9.cell? ⟨w.heap.size, 0, none⟩ = some (.int .i64 x.f0) ∧ W9.cell? ⟨w.heap.size, 1, none⟩ = some (.string x.f1) ∧ W9.cell? ⟨w.heap.size, 2, none⟩ = some (.int .i64 x.f2) ∧ W9.cell? ⟨w.heap.size, 3, none⟩ = some (.slice A3 n3 c3) ∧ W9.cell? ⟨w.heap.size, 4, none⟩ = some (.slice A4 n4 c4) ∧ W9.cell? ⟨w.heap.size, 5, none⟩ = some (.slice A5 n5 c5) := ⟨(Qa (Qc hbx.out HB_) 0).trans rfl, (Qa (Qc hbx.out HB_) 1).trans rfl, (Qa (Qc hbx.out HB_) 2).trans rfl, (Qa (Qc hbx.out HB_) 3).trans rfl, (Qa (Qc hbx.out HB_) 4).trans rfl, (Qa (Qc hbx.out HB_) 5).trans rfl⟩
         refine Qq (a' := ?_) ?_ ?_
         rotate_left
         ·simp only [Qs, Act.put, List.setIfInBounds_toArray, List.set_cons_zero, List.set_cons_succ]
          rfl
         refine QQ (i := 4) (N := some 9) (bm 11 63) rfl rfl (by kernel_rfl) (by decide) (fun K hK => ?_)
         refine Kd.Z5 k34 (w0 := W0) W0.heap.size (by rfl) (.tmp 7) (.tmp 8) 24 34 _ 144 rfl Tryd.underlying24 info34 rfl (by decide) (by decide) (v7) [] ds A ds.length c okN (fun k => ok0 k ∧ k < w.heap.size) rfl rfl hN7 (Kd.F_step hF.out (fun k hk _ => ?_)) ?_ (fun k hk => ?_) HB_ HB_.size ?_ ?_
         ·exact (HB_.block k (Nat.lt_of_lt_of_le hk.2 HB0.out.size)).trans (HB0.out.block k hk.2)
         ·intro k hk; exact ⟨hok2.out k hk, fun e => by have := Kd.N_base hN7 k e.symm; have := HB0.out.size; omega⟩
         ·exact hok1.out _ (Nat.le_trans HB_.size hk)
         ·simp only [List.length_nil]; omega
         intro v3 w3 hn3 hb3 hg3 hat3
         have HBn := hb3
         refine hK.out _ _ ⟨(Qa (Qc hbx.out HBn) 0).trans rfl, (Qa (Qc hbx.out HBn) 1).trans rfl, (Qa (Qc hbx.out HBn) 2).trans rfl, (Qa (Qc hbx.out HBn) 3).trans rfl, (Qa (Qc hbx.out HBn) 4).trans rfl, (Qa (Qc hbx.out HBn) 5).trans rfl⟩ (fun hHeld => ?_)
         clear hK K
         refine Qq (a' := ?_) ?_ ?_
         rotate_left
         ·show Act.put _ (some 9) _ = _
          simp only [Act.put, sA, sB, sC, Qk, Ql]
          rfl
         exact Qq (by first | (simp only [Qs, Act.put, List.setIfInBounds_toArray, List.set_cons_zero, List.set_cons_succ]; done) | (simp only [Qs, Act.put, List.setIfInBounds_toArray, List.set_cons_zero, List.set_cons_succ]; rfl)) (hJ0_1_2_4 (a1, a2, a6, v7, v3, v12, v13) _ ⟨HBn, hn3⟩)
       ·skip
        rintro ⟨a1, a2, a6, v7, v9, v12, v13⟩ W9 ⟨HB_, hN9⟩
        have hHeld : W9.cell? ⟨w.heap.size, 0, none⟩ = some (.int .i64 x.f0) ∧ W9.cell? ⟨w.heap.size, 1, none⟩ = some (.string x.f1) ∧ W9.cell? ⟨w.heap.size, 2, none⟩ = some (.int .i64 x.f2) ∧ W9.cell? ⟨w.heap.size, 3, none⟩ = some (.slice A3 n3 c3) ∧ W9.cell? ⟨w.heap.size, 4, none⟩ = some (.slice A4 n4 c4) ∧ W9.cell? ⟨w.heap.size, 5, none⟩ = some (.slice A5 n5 c5) := ⟨(Qa (Qc hbx.out HB_) 0).trans rfl, (Qa (Qc hbx.out HB_) 1).trans rfl, (Qa (Qc hbx.out HB_) 2).trans rfl, (Qa (Qc hbx.out HB_) 3).trans rfl, (Qa (Qc hbx.out HB_) 4).trans rfl, (Qa (Qc hbx.out HB_) 5).trans rfl⟩
        refine Qq (a' := ?_) ?_ ?_
        rotate_left
        ·simp only [Qs, Act.put, List.setIfInBounds_toArray, List.set_cons_zero, List.set_cons_succ]
         rfl
        refine two_ (i := 1) (j := 7) (Ni := some 6) (Nj := some 12) (bm 11 127) (bm 11 253) rfl rfl rfl rfl (by kernel_rfl) (by decide) (by decide) (fun K hK => ?_) (fun K hK => ?_)
        ·skip
         refine QM (w1 := ?_) (v := ?_) (by rfl) rfl ?_ ?_
         rotate_left 2
         ·go_simp
          constructor
          ·rfl
          ·rfl
         have hbq := Qd (Below.refl W9.heap.size W9) (.cells #[.string ⟨#[76, 105, 115, 116]⟩, .slice a1 1 1, .slice a2 2 2] 56)
         have HBn := Qe HB_ hbq
         refine hK.out _ _ ⟨(Qa (Qc hbx.out HBn) 0).trans rfl, (Qa (Qc hbx.out HBn) 1).trans rfl, (Qa (Qc hbx.out HBn) 2).trans rfl, (Qa (Qc hbx.out HBn) 3).trans rfl, (Qa (Qc hbx.out HBn) 4).trans rfl, (Qa (Qc hbx.out HBn) 5).trans rfl⟩ (fun hHeld => ?_)
         clear hK K
         refine Qq (a' := ?_) ?_ ?_
         rotate_left
         ·show Act.put _ (some 6) _ = _
          simp only [Act.put, sA, sB, sC, Qk, Ql]
          rfl
         exact Qq (by first | (simp only [Qs, Act.put, List.setIfInBounds_toArray, List.set_cons_zero, List.set_cons_succ]; done) | (simp only [Qs, Act.put, List.setIfInBounds_toArray, List.set_cons_zero, List.set_cons_succ]; rfl)) (hJ0_1_2_4_6 (a1, a2, (some ⟨W9.heap.size, 0, none⟩), v7, v9, v12, v13) _ ⟨HBn, Kd.Vf hN9 hbq⟩)
        ·skip
         refine QM (w1 := ?_) (v := ?_) (by rfl) rfl ?_ ?_
         rotate_left 2
         ·go_simp
          constructor
          ·rfl
          ·rfl
         have hbq := Qd (Below.refl W9.heap.size W9) (.cells #[.string ⟨#[109, 97, 105, 110]⟩, .slice none 0 0, .int .i64 x.f0, .string x.f1, .int .i64 x.f2, .slice A3 n3 c3, .slice A4 n4 c4, .slice A5 n5 c5] 34)
         have HBn := Qe HB_ hbq
         refine hK.out _ _ ⟨(Qa (Qc hbx.out HBn) 0).trans rfl, (Qa (Qc hbx.out HBn) 1).trans rfl, (Qa (Qc hbx.out HBn) 2).trans rfl, (Qa (Qc hbx.out HBn) 3).trans rfl, (Qa (Qc hbx.out HBn) 4).trans rfl, (Qa (Qc hbx.out HBn) 5).trans rfl⟩ (fun hHeld => ?_)
         clear hK K
         refine Qq (a' := ?_) ?_ ?_
         rotate_left
         ·show Act.put _ (some 12) _ = _
          simp only [Act.put, sA, sB, sC, Qk, Ql]
          rfl
         exact Qq (by first | (simp only [Qs, Act.put, List.setIfInBounds_toArray, List.set_cons_zero, List.set_cons_succ]; done) | (simp only [Qs, Act.put, List.setIfInBounds_toArray, List.set_cons_zero, List.set_cons_succ]; rfl)) (hJ0_2_4_6_7 (a1, a2, a6, v7, v9, (.slice (some ⟨W9.heap.size, 0, none⟩) 1 1), v13) _ ⟨HBn, Kd.Vf hN9 hbq, ⟨W9.heap.size, rfl, Qv W9 _, HB_.size, fun e => by have := Kd.N_lt hN9 _ e.symm; omega⟩⟩)
      ·skip
       rintro ⟨a1, a2, a6, v7, v9, v12, v13⟩ W9 ⟨HB_, hN9⟩
       have hHeld : W9.cell? ⟨w.heap.size, 0, none⟩ = some (.int .i64 x.f0) ∧ W9.cell? ⟨w.heap.size, 1, none⟩ = some (.string x.f1) ∧ W9.cell? ⟨w.heap.size, 2, none⟩ = some (.int .i64 x.f2) ∧ W9.cell? ⟨w.heap.size, 3, none⟩ = some (.slice A3 n3 c3) ∧ W9.cell? ⟨w.heap.size, 4, none⟩ = some (.slice A4 n4 c4) ∧ W9.cell? ⟨w.heap.size, 5, none⟩ = some (.slice A5 n5 c5) := ⟨(Qa (Qc hbx.out HB_) 0).trans rfl, (Qa (Qc hbx.out HB_) 1).trans rfl, (Qa (Qc hbx.out HB_) 2).trans rfl, (Qa (Qc hbx.out HB_) 3).trans rfl, (Qa (Qc hbx.out HB_) 4).trans rfl, (Qa (Qc hbx.out HB_) 5).trans rfl⟩
       refine Qq (a' := ?_) ?_ ?_
       rotate_left
       ·simp only [Qs, Act.put, List.setIfInBounds_toArray, List.set_cons_zero, List.set_cons_succ]
        rfl
       refine QQ (i := 6) (N := some 11) (bm 11 127) rfl rfl (by kernel_rfl) (by decide) (fun K hK => ?_)
       refine QI Tryd.func11 (by kernel_rfl) rfl #[.string ⟨#[109, 97, 105, 110]⟩, .slice none 0 0, .agg #[.int .i64 x.f0, .string x.f1, .int .i64 x.f2, .slice A3 n3 c3, .slice A4 n4 c4, .slice A5 n5 c5]] (by rfl) rfl rfl (by simp only [List.map_toArray, List.map_cons, List.map_nil]; rfl) ?_
       (with_reducible refine (d_calls ⟨#[109, 97, 105, 110]⟩ W9).mono ?_)
       rintro e w3 ⟨rfl, hbq⟩
       refine ⟨_, rfl, ?_⟩
       have HBn := Qe HB_ hbq
       refine hK.out _ _ ⟨(Qa (Qc hbx.out HBn) 0).trans rfl, (Qa (Qc hbx.out HBn) 1).trans rfl, (Qa (Qc hbx.out HBn) 2).trans rfl, (Qa (Qc hbx.out HBn) 3).trans rfl, (Qa (Qc hbx.out HBn) 4).trans rfl, (Qa (Qc hbx.out HBn) 5).trans rfl⟩ (fun hHeld => ?_)
       clear hK K
       refine Qq (a' := ?_) ?_ ?_
       rotate_left
       ·show Act.put _ (some 11) _ = _
        simp only [Act.put, sA, sB, sC, Qk, Ql]
        rfl
       exact Qq (by first | (simp only [Qs, Act.put, List.setIfInBounds_toArray, List.set_cons_zero, List.set_cons_succ]; done) | (simp only [Qs, Act.put, List.setIfInBounds_toArray, List.set_cons_zero, List.set_cons_succ]; rfl)) (hJ0_1_2_4_6 (a1, a2, a6, v7, v9, v12, v13) _ ⟨HBn, Kd.Vf hN9 hbq⟩)
     ·skip
      rintro ⟨a1, a2, a6, v7, v9, v12, v13⟩ W9 ⟨HB_, hN9, h12⟩
      have hHeld : W9.cell? ⟨w.heap.size, 0, none⟩ = some (.int .i64 x.f0) ∧ W9.cell? ⟨w.heap.size, 1, none⟩ = some (.string x.f1) ∧ W9.cell? ⟨w.heap.size, 2, none⟩ = some (.int .i64 x.f2) ∧ W9.cell? ⟨w.heap.size, 3, none⟩ = some (.slice A3 n3 c3) ∧ W9.cell? ⟨w.heap.size, 4, none⟩ = some (.slice A4 n4 c4) ∧ W9.cell? ⟨w.heap.size, 5, none⟩ = some (.slice A5 n5 c5) := ⟨(Qa (Qc hbx.out HB_) 0).trans rfl, (Qa (Qc hbx.out HB_) 1).trans rfl, (Qa (Qc hbx.out HB_) 2).trans rfl, (Qa (Qc hbx.out HB_) 3).trans rfl, (Qa (Qc hbx.out HB_) 4).trans rfl, (Qa (Qc hbx.out HB_) 5).trans rfl⟩
      refine Qq (a' := ?_) ?_ ?_
      rotate_left
      ·simp only [Qs, Act.put, List.setIfInBounds_toArray, List.set_cons_zero, List.set_cons_succ]
       rfl
      refine two_ (i := 1) (j := 8) (Ni := some 6) (Nj := some 13) (bm 11 255) (bm 11 509) rfl rfl rfl rfl (by kernel_rfl) (by decide) (by decide) (fun K hK => ?_) (fun K hK => ?_)
      ·skip
       refine QM (w1 := ?_) (v := ?_) (by rfl) rfl ?_ ?_
       rotate_left 2
       ·go_simp
        constructor
        ·rfl
        ·rfl
       have hbq := Qd (Below.refl W9.heap.size W9) (.cells #[.string ⟨#[76, 105, 115, 116]⟩, .slice a1 1 1, .slice a2 2 2] 56)
       have HBn := Qe HB_ hbq
       refine hK.out _ _ ⟨(Qa (Qc hbx.out HBn) 0).trans rfl, (Qa (Qc hbx.out HBn) 1).trans rfl, (Qa (Qc hbx.out HBn) 2).trans rfl, (Qa (Qc hbx.out HBn) 3).trans rfl, (Qa (Qc hbx.out HBn) 4).trans rfl, (Qa (Qc hbx.out HBn) 5).trans rfl⟩ (fun hHeld => ?_)
       clear hK K
       refine Qq (a' := ?_) ?_ ?_
       rotate_left
       ·show Act.put _ (some 6) _ = _
        simp only [Act.put, sA, sB, sC, Qk, Ql]
        rfl
       exact Qq (by first | (simp only [Qs, Act.put, List.setIfInBounds_toArray, List.set_cons_zero, List.set_cons_succ]; done) | (simp only [Qs, Act.put, List.setIfInBounds_toArray, List.set_cons_zero, List.set_cons_succ]; rfl)) (hJ0_1_2_4_6_7 (a1, a2, (some ⟨W9.heap.size, 0, none⟩), v7, v9, v12, v13) _ ⟨HBn, Kd.Vf hN9 hbq, h12.elim fun b h => ⟨b, h.1, Qc h.2.1 hbq, h.2.2⟩⟩)
      ·skip
       obtain ⟨b, rfl, hb12, hge, hne⟩ := h12
       refine Kd.Z5 k34 (w0 := W0) W0.heap.size (by rfl) (.tmp 9) (.tmp 12) 24 34 _ 144 rfl Tryd.underlying24 info34 rfl (by decide) (by decide) v9 ds [⟨⟨#[109, 97, 105, 110]⟩, [], x⟩] (some ⟨b, 0, none⟩) 1 1 okN (fun k => (ok0 k ∧ k < w.heap.size) ∨ k = b) rfl rfl hN9 ?_ ?_ (fun k hk => ?_) HB_ HB_.size ?_ ?_
       ·exact mainF hKx.out (fun k hk => (HB_.block k (Nat.lt_of_lt_of_le hk HB0.out.size)).trans (HB0.out.block k hk)) hb12
       ·rintro k (hk | rfl)
        ·exact ⟨hok2.out _ hk, fun e => by have := Kd.N_base hN9 _ e.symm; have := HB0.out.size; omega⟩
        ·exact ⟨hok1.out _ hge, hne⟩
       ·exact hok1.out _ (Nat.le_trans HB_.size hk)
       ·omega
       intro v3 w3 hn3 hb3 hg3 hat3
       have HBn := hb3
       refine hK.out _ _ ⟨(Qa (Qc hbx.out HBn) 0).trans rfl, (Qa (Qc hbx.out HBn) 1).trans rfl, (Qa (Qc hbx.out HBn) 2).trans rfl, (Qa (Qc hbx.out HBn) 3).trans rfl, (Qa (Qc hbx.out HBn) 4).trans rfl, (Qa (Qc hbx.out HBn) 5).trans rfl⟩ (fun hHeld => ?_)
       clear hK K
       refine Qq (a' := ?_) ?_ ?_
       rotate_left
       ·show Act.put _ (some 13) _ = _
        simp only [Act.put, sA, sB, sC, Qk, Ql]
        rfl
       exact Qq (by first | (simp only [Qs, Act.put, List.setIfInBounds_toArray, List.set_cons_zero, List.set_cons_succ]; done) | (simp only [Qs, Act.put, List.setIfInBounds_toArray, List.set_cons_zero, List.set_cons_succ]; rfl)) (hJ0_2_4_6_7_8 (a1, a2, a6, v7, v9, (.slice (some ⟨b, 0, none⟩) 1 1), v3) _ ⟨HBn, hn3⟩)
    ·skip
     rintro ⟨a1, a2, a6, v7, v9, v12, v13⟩ W9 ⟨HB_, hN9⟩
     have hHeld : W9.cell? ⟨w.heap.size, 0, none⟩ = some (.int .i64 x.f0) ∧ W9.cell? ⟨w.heap.size, 1, none⟩ = some (.string x.f1) ∧ W9.cell? ⟨w.heap.size, 2, none⟩ = some (.int .i64 x.f2) ∧ W9.cell? ⟨w.heap.size, 3, none⟩ = some (.slice A3 n3 c3) ∧ W9.cell? ⟨w.heap.size, 4, none⟩ = some (.slice A4 n4 c4) ∧ W9.cell? ⟨w.heap.size, 5, none⟩ = some (.slice A5 n5 c5) := ⟨(Qa (Qc hbx.out HB_) 0).trans rfl, (Qa (Qc hbx.out HB_) 1).trans rfl, (Qa (Qc hbx.out HB_) 2).trans rfl, (Qa (Qc hbx.out HB_) 3).trans rfl, (Qa (Qc hbx.out HB_) 4).trans rfl, (Qa (Qc hbx.out HB_) 5).trans rfl⟩
     refine Qq (a' := ?_) ?_ ?_
     rotate_left
     ·simp only [Qs, Act.put, List.setIfInBounds_toArray, List.set_cons_zero, List.set_cons_succ]
      rfl
     refine QQ (i := 7) (N := some 12) (bm 11 255) rfl rfl (by kernel_rfl) (by decide) (fun K hK => ?_)
     refine QM (w1 := ?_) (v := ?_) (by rfl) rfl ?_ ?_
     rotate_left 2
     ·go_simp
      constructor
      ·rfl
      ·rfl
     have hbq := Qd (Below.refl W9.heap.size W9) (.cells #[.string ⟨#[109, 97, 105, 110]⟩, .slice none 0 0, .int .i64 x.f0, .string x.f1, .int .i64 x.f2, .slice A3 n3 c3, .slice A4 n4 c4, .slice A5 n5 c5] 34)
     have HBn := Qe HB_ hbq
     refine hK.out _ _ ⟨(Qa (Qc hbx.out HBn) 0).trans rfl, (Qa (Qc hbx.out HBn) 1).trans rfl, (Qa (Qc hbx.out HBn) 2).trans rfl, (Qa (Qc hbx.out HBn) 3).trans rfl, (Qa (Qc hbx.out HBn) 4).trans rfl, (Qa (Qc hbx.out HBn) 5).trans rfl⟩ (fun hHeld => ?_)
     clear hK K
     refine Qq (a' := ?_) ?_ ?_
     rotate_left
     ·show Act.put _ (some 12) _ = _
      simp only [Act.put, sA, sB, sC, Qk, Ql]
      rfl
     exact Qq (by first | (simp only [Qs, Act.put, List.setIfInBounds_toArray, List.set_cons_zero, List.set_cons_succ]; done) | (simp only [Qs, Act.put, List.setIfInBounds_toArray, List.set_cons_zero, List.set_cons_succ]; rfl)) (hJ0_1_2_4_6_7 (a1, a2, a6, v7, v9, (.slice (some ⟨W9.heap.size, 0, none⟩) 1 1), v13) _ ⟨HBn, Kd.Vf hN9 hbq, ⟨W9.heap.size, rfl, Qv W9 _, HB_.size, fun e => by have := Kd.N_lt hN9 _ e.symm; omega⟩⟩)
   ·skip
    rintro ⟨a1, a2, a6, v7, v9, v12, v13⟩ W9 ⟨HB_, hN13⟩
    have hHeld : W9.cell? ⟨w.heap.size, 0, none⟩ = some (.int .i64 x.f0) ∧ W9.cell? ⟨w.heap.size, 1, none⟩ = some (.string x.f1) ∧ W9.cell? ⟨w.heap.size, 2, none⟩ = some (.int .i64 x.f2) ∧ W9.cell? ⟨w.heap.size, 3, none⟩ = some (.slice A3 n3 c3) ∧ W9.cell? ⟨w.heap.size, 4, none⟩ = some (.slice A4 n4 c4) ∧ W9.cell? ⟨w.heap.size, 5, none⟩ = some (.slice A5 n5 c5) := ⟨(Qa (Qc hbx.out HB_) 0).trans rfl, (Qa (Qc hbx.out HB_) 1).trans rfl, (Qa (Qc hbx.out HB_) 2).trans rfl, (Qa (Qc hbx.out HB_) 3).trans rfl, (Qa (Qc hbx.out HB_) 4).trans rfl, (Qa (Qc hbx.out HB_) 5).trans rfl⟩
    refine Qq (a' := ?_) ?_ ?_
    rotate_left
    ·simp only [Qs, Act.put, List.setIfInBounds_toArray, List.set_cons_zero, List.set_cons_succ]
     rfl
    refine QQ (i := 1) (N := some 6) (bm 11 511) rfl rfl (by kernel_rfl) (by decide) (fun K hK => ?_)
    refine QM (w1 := ?_) (v := ?_) (by rfl) rfl ?_ ?_
    rotate_left 2
    ·go_simp
     constructor
     ·rfl
     ·rfl
    have hbq := Qd (Below.refl W9.heap.size W9) (.cells #[.string ⟨#[76, 105, 115, 116]⟩, .slice a1 1 1, .slice a2 2 2] 56)
    have HBn := Qe HB_ hbq
    refine hK.out _ _ ⟨(Qa (Qc hbx.out HBn) 0).trans rfl, (Qa (Qc hbx.out HBn) 1).trans rfl, (Qa (Qc hbx.out HBn) 2).trans rfl, (Qa (Qc hbx.out HBn) 3).trans rfl, (Qa (Qc hbx.out HBn) 4).trans rfl, (Qa (Qc hbx.out HBn) 5).trans rfl⟩ (fun hHeld => ?_)
    clear hK K
    refine Qq (a' := ?_) ?_ ?_
    rotate_left
    ·show Act.put _ (some 6) _ = _
     simp only [Act.put, sA, sB, sC, Qk, Ql]
     rfl
    exact Qq (by first | (simp only [Qs, Act.put, List.setIfInBounds_toArray, List.set_cons_zero, List.set_cons_succ]; done) | (simp only [Qs, Act.put, List.setIfInBounds_toArray, List.set_cons_zero, List.set_cons_succ]; rfl)) (hJ0_1_2_4_6_7_8 (a1, a2, (some ⟨W9.heap.size, 0, none⟩), v7, v9, v12, v13) _ ⟨HBn, Kd.Vf hN13 hbq⟩)
  ·skip
   rintro ⟨a1, a2, a6, v7, v9, v12, v13⟩ W9 ⟨HB_, hN9, h12⟩
   have hHeld : W9.cell? ⟨w.heap.size, 0, none⟩ = some (.int .i64 x.f0) ∧ W9.cell? ⟨w.heap.size, 1, none⟩ = some (.string x.f1) ∧ W9.cell? ⟨w.heap.size, 2, none⟩ = some (.int .i64 x.f2) ∧ W9.cell? ⟨w.heap.size, 3, none⟩ = some (.slice A3 n3 c3) ∧ W9.cell? ⟨w.heap.size, 4, none⟩ = some (.slice A4 n4 c4) ∧ W9.cell? ⟨w.heap.size, 5, none⟩ = some (.slice A5 n5 c5) := ⟨(Qa (Qc hbx.out HB_) 0).trans rfl, (Qa (Qc hbx.out HB_) 1).trans rfl, (Qa (Qc hbx.out HB_) 2).trans rfl, (Qa (Qc hbx.out HB_) 3).trans rfl, (Qa (Qc hbx.out HB_) 4).trans rfl, (Qa (Qc hbx.out HB_) 5).trans rfl⟩
   refine Qq (a' := ?_) ?_ ?_
   rotate_left
   ·simp only [Qs, Act.put, List.setIfInBounds_toArray, List.set_cons_zero, List.set_cons_succ]
    rfl
   refine QQ (i := 8) (N := some 13) (bm 11 511) rfl rfl (by kernel_rfl) (by decide) (fun K hK => ?_)
   obtain ⟨b, rfl, hb12, hge, hne⟩ := h12
   refine Kd.Z5 k34 (w0 := W0) W0.heap.size (by rfl) (.tmp 9) (.tmp 12) 24 34 _ 144 rfl Tryd.underlying24 info34 rfl (by decide) (by decide) v9 ds [⟨⟨#[109, 97, 105, 110]⟩, [], x⟩] (some ⟨b, 0, none⟩) 1 1 okN (fun k => (ok0 k ∧ k < w.heap.size) ∨ k = b) rfl rfl hN9 ?_ ?_ (fun k hk => ?_) HB_ HB_.size ?_ ?_
   ·exact mainF hKx.out (fun k hk => (HB_.block k (Nat.lt_of_lt_of_le hk HB0.out.size)).trans (HB0.out.block k hk)) hb12
   ·rintro k (hk | rfl)
    ·exact ⟨hok2.out _ hk, fun e => by have := Kd.N_base hN9 _ e.symm; have := HB0.out.size; omega⟩
    ·exact ⟨hok1.out _ hge, hne⟩
   ·exact hok1.out _ (Nat.le_trans HB_.size hk)
   ·omega
   intro v3 w3 hn3 hb3 hg3 hat3
   have HBn := hb3
   refine hK.out _ _ ⟨(Qa (Qc hbx.out HBn) 0).trans rfl, (Qa (Qc hbx.out HBn) 1).trans rfl, (Qa (Qc hbx.out HBn) 2).trans rfl, (Qa (Qc hbx.out HBn) 3).trans rfl, (Qa (Qc hbx.out HBn) 4).trans rfl, (Qa (Qc hbx.out HBn) 5).trans rfl⟩ (fun hHeld => ?_)
   clear hK K
   refine Qq (a' := ?_) ?_ ?_
   rotate_left
   ·show Act.put _ (some 13) _ = _
    simp only [Act.put, sA, sB, sC, Qk, Ql]
    rfl
   exact Qq (by first | (simp only [Qs, Act.put, List.setIfInBounds_toArray, List.set_cons_zero, List.set_cons_succ]; done) | (simp only [Qs, Act.put, List.setIfInBounds_toArray, List.set_cons_zero, List.set_cons_succ]; rfl)) (hJ0_1_2_4_6_7_8 (a1, a2, a6, v7, v9, (.slice (some ⟨b, 0, none⟩) 1 1), v3) _ ⟨HBn, hn3⟩)
 rintro ⟨a1, a2, a6, v7, v9, v12, v13⟩ W9 ⟨HB_, hN13⟩
 obtain ⟨A13, c13, hv13⟩ := Kd.N_slice hN13
 have hv13 : v13 = .slice A13 _ c13 := hv13
 subst hv13
 have HN := Qb.mk hN13
 clear hN13
 have hr0 := (Qa (Qc hrx.out HB_) 0).trans rfl
 have hr1 := (Qa (Qc hrx.out HB_) 1).trans rfl
 have hq0 := Qg (Qc hrx.out HB_) 0
 have hq1 := Qg (Qc hrx.out HB_) 1
 have hHeld : W9.cell? ⟨w.heap.size, 0, none⟩ = some (.int .i64 x.f0) ∧ W9.cell? ⟨w.heap.size, 1, none⟩ = some (.string x.f1) ∧ W9.cell? ⟨w.heap.size, 2, none⟩ = some (.int .i64 x.f2) ∧ W9.cell? ⟨w.heap.size, 3, none⟩ = some (.slice A3 n3 c3) ∧ W9.cell? ⟨w.heap.size, 4, none⟩ = some (.slice A4 n4 c4) ∧ W9.cell? ⟨w.heap.size, 5, none⟩ = some (.slice A5 n5 c5) := ⟨(Qa (Qc hbx.out HB_) 0).trans rfl, (Qa (Qc hbx.out HB_) 1).trans rfl, (Qa (Qc hbx.out HB_) 2).trans rfl, (Qa (Qc hbx.out HB_) 3).trans rfl, (Qa (Qc hbx.out HB_) 4).trans rfl, (Qa (Qc hbx.out HB_) 5).trans rfl⟩
 refine Qq (a' := ?_) ?_ ?_
 rotate_left
 ·simp only [Qs, Act.put, List.setIfInBounds_toArray, List.set_cons_zero, List.set_cons_succ]
  rfl
 refine Q4 (i := 9) (N := some 14) (v := ?_) (a' := ?_) (bm 11 1023) rfl rfl (by kernel_rfl) (fun _ _ _ h => h) (Or.inl ⟨by rfl, ?_⟩) ?_ ?_
 rotate_left
 ·intro w'
  go_simp
  with_reducible rfl
 rotate_left
 ·simp only [Act.put, sA, sB, sC, Qk, Ql]
  rfl
 refine Zw (i := 10) (N := none) (bm 11 2047) rfl rfl (by kernel_rfl) (by decide) (fun K hK => ?_)
 refine Vk (w1 := ?_) (by rfl) rfl ?_ ?_
 rotate_left
 ·go_simp
  rfl
 refine hK.out _ _ ?_
 clear hK K
 refine Zx (by kernel_rfl) ?_
 have HN : Qb (Kd.N k34 34 W9 W0.heap.size okN (.slice A13 (ds.length + 1) c13) (ds ++ [⟨⟨#[109, 97, 105, 110]⟩, [], x⟩])) := ⟨by have := HN.out; rw [List.length_append, List.length_singleton] at this; exact this⟩
 clear hHeld
 go_wp2
 refine bodyPost_ret (v := .agg #[.slice a6 1 1, .slice A13 (ds.length + 1) c13]) (by simp [results, Tryd.results12, go_sem, *]) rfl ⟨a6, A13, ⟨c13, rfl⟩, ?_, ?_⟩
 ·have h1 := Kd.N_far (Kd.N_far HN.out (p := ⟨w.heap.size + 1, 0, none⟩) hok3.out (.slice a6 1 1)) (p := ⟨w.heap.size + 1, 1, none⟩) hok3.out (.slice A13 (ds.length + 1) c13)
  exact Kd.F_mono (Kd.N_F h1) hok4.out
 ·have h1 := HB0.out.trans (HB_.mono HB0.out.size)
  exact (h1.setCell (p := ⟨w.heap.size + 1, 0, none⟩) (Nat.le_succ _) _).setCell (p := ⟨w.heap.size + 1, 1, none⟩) (Nat.le_succ _) _
theorem main_calls (w : World) (x : S29) {A3 A4 A5 : Option Addr} {n3 c3 n4 c4 n5 c5 : Nat} (hKx : k29.K w x [.int .i64 x.f0, .string x.f1, .int .i64 x.f2, .slice A3 n3 c3, .slice A4 n4 c4, .slice A5 n5 c5]) (ds : List S34) (hlen : ds.length ≤ 1000) {A : Option Addr} {c : Nat} (hC : Kd.C k34 w A ds.length ds) :
  Calls Tryd.prog 12 #[.agg #[.int .i64 x.f0, .string x.f1, .int .i64 x.f2, .slice A3 n3 c3, .slice A4 n4 c4, .slice A5 n5 c5], .slice A ds.length c] w fun e w' => ∃ A1 A2 c2, e = .returned (.agg #[.slice A1 1 1, .slice A2 (ds.length + 1) c2]) ∧ Kd.C k34 w' A2 (ds.length + 1) (ds ++ [⟨⟨#[109, 97, 105, 110]⟩, [], x⟩]) ∧ Below w.heap.size w w' := by
 refine (mainF_calls w (ok0 := fun k => k < w.heap.size) x (fun W' h => heapE.K (fun k hk => h k hk hk) hKx) ds hlen (Kd.C_F heapD hC)).mono ?_
 rintro e w' ⟨A1, A2, c2, he, hF, hb⟩
 exact ⟨A1, A2, c2, he, Kd.F_now hF, hb⟩
def needL (ds : List S34) (k : Nat) : List Int := ris (memN (ZN (allL ds) k)) ds.length 0
set_option maxHeartbeats 8000000 in
set_option maxRecDepth 100000 in
theorem needed1_calls {w : World} (ds : List S34) (hok : okDs ds = true) (hor : okR (allL ds) = true) (k : Nat) (hk : k < ds.length) {Ad Af : Option Addr} {nd cd cf : Nat} (hC : Kd.C k34 w Af ds.length ds) :
  Calls Tryd.prog 14 #[.agg #[.slice Ad nd cd, .slice Af ds.length cf], .int .i64 (k : Int)] w fun e w' => ∃ v0_ : Value, e = .returned v0_ ∧ Kd.R kI 3 w' w.heap.size (fun _ => True) v0_ (needL ds k) ∧ Below w.heap.size w w' := by
 have hl : ds.length ≤ 1000 := by simp only [okDs, Bool.and_eq_true, decide_eq_true_eq] at hok; exact hok.2
 have q0 : decide ((k : Int) < 0) = false := decide_eq_false (by omega)
 have q1 : decide ((ds.length : Int) ≤ (k : Int)) = false := decide_eq_false (by omega)
 have hlu : (allL ds).length = ds.length := by simp [allL]
 have hh := hor
 simp only [okR, Bool.and_eq_true, decide_eq_true_eq] at hor
 have hsm := hor.1.1.1
 have hne := needR_eq hh (j := k) (by omega)
 obtain ⟨W0, hW0⟩ : ∃ W0, w.alloc (.cells #[.slice Ad nd cd, .slice Af ds.length cf] 38) = W0 := ⟨_, rfl⟩
 have HB0 : Qb (Below w.heap.size w W0) := ⟨by rw [← hW0]; exact Qd (Below.refl _ _) _⟩
 have hbx : Qb (W0.heap[w.heap.size]? = some (.cells #[.slice Ad nd cd, .slice Af ds.length cf] 38 (0, 0))) := ⟨by rw [← hW0]; exact Qv w _⟩
 have hx0 := (Qa hbx.out 0).trans rfl
 have hx1 := (Qa hbx.out 1).trans rfl
 have hC0 := Qb.mk (Kd.Qj hC HB0.out)
 replace hok := Qb.mk hok
 replace hsm := Qb.mk hsm
 replace hne := Qb.mk hne
 clear hC hh hor
 go_enter Tryd.func14, Tryd.ntmps14
 go_wp2
 clear hW0 hx0 hx1
 have HB_ : Below W0.heap.size W0 W0.drew := Qi (Below.refl _ _)
 refine QZ (n := 9) (S := fun w' => w'.cell? ⟨w.heap.size, 0, none⟩ = some (.slice Ad nd cd) ∧ w'.cell? ⟨w.heap.size, 1, none⟩ = some (.slice Af ds.length cf)) (ds := []) (bm 9 0) (by kernel_rfl) rfl rfl ⟨(Qa (Qc hbx.out HB_) 0).trans rfl, (Qa (Qc hbx.out HB_) 1).trans rfl⟩ (fun hHeld => ?_)
 generalize W0.drew = W9 at *
 refine Q4 (i := 0) (N := some 14) (v := ?_) (a' := ?_) (bm 9 1) rfl rfl (by kernel_rfl) (fun _ _ _ h => h) (Or.inl ⟨by rfl, ?_⟩) ?_ ?_
 rotate_left
 ·intro w'
  go_simp
  with_reducible rfl
 rotate_left
 ·simp only [Act.put, sA, sB, sC, Qk, Ql]
  rfl
 refine Q4 (i := 5) (N := some 19) (v := ?_) (a' := ?_) (bm 9 33) rfl rfl (by kernel_rfl) (fun _ _ _ h => h) (Or.inl ⟨by rfl, ?_⟩) ?_ ?_
 rotate_left
 ·intro w'
  go_simp
  with_reducible rfl
 rotate_left
 ·simp only [Act.put, sA, sB, sC, Qk, Ql]
  rfl
 refine QE (i := 1) (N := some 15) (v := ?_) (a' := ?_) (bm 9 35) rfl rfl (by kernel_rfl) (fun _ _ _ h => h) (Or.inl ⟨by rfl, ?_⟩) hHeld ?_ ?_
 rotate_left
 ·rintro w' ⟨s0, s1⟩
  go_simp
  with_reducible rfl
 rotate_left
 ·simp only [Act.put, sA, sB, sC, Qk, Ql]
  rfl
 refine Q4 (i := 2) (N := some 16) (v := ?_) (a' := ?_) (bm 9 39) rfl rfl (by kernel_rfl) (fun _ _ _ h => h) (Or.inl ⟨by rfl, ?_⟩) ?_ ?_
 rotate_left
 ·intro w'
  go_simp
  with_reducible rfl
 rotate_left
 ·simp only [Act.put, sA, sB, sC, Qk, Ql]
  rfl
 refine QE (i := 3) (N := some 17) (v := ?_) (a' := ?_) (bm 9 47) rfl rfl (by kernel_rfl) (fun _ _ _ h => h) (Or.inl ⟨by rfl, ?_⟩) hHeld ?_ ?_
 rotate_left
 ·rintro w' ⟨s0, s1⟩
  go_simp
  with_reducible rfl
 rotate_left
 ·simp only [Act.put, sA, sB, sC, Qk, Ql]
  rfl
 refine QQ (i := 4) (N := some 18) (bm 9 63) rfl rfl (by kernel_rfl) (by decide) (fun K hK => ?_)
 refine QI Tryd.func28 (by kernel_rfl) rfl #[.agg #[.slice Ad nd cd, .slice Af ds.length cf]] (by rfl) rfl rfl (by simp only [List.map_toArray, List.map_cons, List.map_nil]; rfl) ?_
 (with_reducible refine (all_calls ds hok.out (Kd.Qj hC0.out HB_)).mono ?_)
 rintro e w3 ⟨U, rfl, hU3, hbq⟩
 refine ⟨_, rfl, ?_⟩
 have HB3 := Qe HB_ hbq
 refine hK.out _ _ ⟨(Qa (Qc hbx.out HB3) 0).trans rfl, (Qa (Qc hbx.out HB3) 1).trans rfl⟩ (fun hHeld => ?_)
 clear hK K
 refine Qq (a' := ?_) ?_ ?_
 rotate_left
 ·show Act.put _ (some 18) _ = _
  simp only [Act.put, sA, sB, sC, Qk, Ql]
  rfl
 refine QQ (i := 6) (N := some 20) (bm 9 127) rfl rfl (by kernel_rfl) (by decide) (fun K hK => ?_)
 refine QI Tryd.func29 (by kernel_rfl) rfl #[.slice U (allL ds).length (allL ds).length, .int .i64 (k : Int)] (by rfl) rfl rfl (by simp only [List.map_toArray, List.map_cons, List.map_nil]; rfl) ?_
 (with_reducible refine (needed_calls (allL ds) hsm.out hU3 (k : Int) ⟨by omega, by omega⟩ hne.out).mono ?_)
 rintro e w4 ⟨mb, mn, rfl, hm4, hge4, hbq4⟩
 refine ⟨_, rfl, ?_⟩
 have HB4 := Qe HB3 hbq4
 refine hK.out _ _ ⟨(Qa (Qc hbx.out HB4) 0).trans rfl, (Qa (Qc hbx.out HB4) 1).trans rfl⟩ (fun hHeld => ?_)
 clear hK K
 refine Qq (a' := ?_) ?_ ?_
 rotate_left
 ·show Act.put _ (some 20) _ = _
  simp only [Act.put, sA, sB, sC, Qk, Ql]
  rfl
 refine QQ (i := 7) (N := some 21) (bm 9 255) rfl rfl (by kernel_rfl) (by decide) (fun K hK => ?_)
 refine QI Tryd.func31 (by kernel_rfl) rfl #[.int .i64 (ds.length : Int), .map (some mb)] (by rfl) rfl rfl (by simp only [List.map_toArray, List.map_cons, List.map_nil]; rfl) ?_
 (with_reducible refine (rising_calls hm4.mapN ds.length (by omega)).mono ?_)
 rintro e w5 ⟨v5, rfl, hr5, hbq5⟩
 refine ⟨_, rfl, ?_⟩
 have HB5 := Qe HB4 hbq5
 refine hK.out _ _ ⟨(Qa (Qc hbx.out HB5) 0).trans rfl, (Qa (Qc hbx.out HB5) 1).trans rfl⟩ (fun hHeld => ?_)
 clear hK K
 refine Qq (a' := ?_) ?_ ?_
 rotate_left
 ·show Act.put _ (some 21) _ = _
  simp only [Act.put, sA, sB, sC, Qk, Ql]
  rfl
 refine Q4 (i := 8) (N := some 4) (v := ?_) (a' := ?_) (bm 9 511) rfl rfl (by kernel_rfl) (fun _ _ _ h => h) (Or.inl ⟨by rfl, ?_⟩) ?_ ?_
 rotate_left
 ·intro w'
  go_simp
  with_reducible rfl
 rotate_left
 ·simp only [Act.put, sA, sB, sC, Qk, Ql]
  rfl
 refine Zx (by kernel_rfl) ?_
 have HR := Qb.mk hr5
 have HB := Qb.mk HB5
 clear hHeld
 go_wp2
 go_ret
 refine ⟨_, rfl, Kd.ZT HR.out ?_, HB0.out.trans (HB.out.mono HB0.out.size)⟩
 have := HB0.out.size
 have := HB4.size
 omega
def ok3 (ds : List S34) : Bool := okDs ds && okR (allL ds)
theorem groups3_calls {w : World} (ds : List S34) (hok : ok3 ds = true) {R : List (List Int)} (hg : grps (rsL (allL ds)) 2000 [] [] = some R) {Ad Af : Option Addr} {nd cd cf : Nat} (n m : Nat) (hn : n = ds.length) (hm : m = R.length) (hC : Kd.C k34 w Af n ds) :
  Calls Tryd.prog 13 #[.agg #[.slice Ad nd cd, .slice Af n cf]] w fun e w' => ∃ A c, e = .returned (.slice A m c) ∧ m ≤ c ∧ Kd.C kII w' A R.length R ∧ Below w.heap.size w w' := by
 subst hn hm
 simp only [ok3, Bool.and_eq_true] at hok
 exact groups_calls ds hok.1 hok.2 hg hC
theorem c_ints {W : World} {b : Nat} {e : TypeId} (l : List Int) (hb : W.heap[b]? = some (.cells (l.map (Value.int .i64)).toArray e (0, 0))) (hm : l.length ≤ 9223372036854775807) : Kd.C kI W (some ⟨b, 0, none⟩) l.length l := by
 refine ZL hb ?_ hm
 have h := Kd.reps_scalar (enc := Value.int .i64) l
 have e1 : encs (Value.int .i64) l = (l.map (Value.int .i64)).toArray.toList := by simp [encs]
 rw [e1] at h
 exact h
theorem same1_calls (x : Int) (w : World) {A B : Option Addr} {c d : Nat} (hA : Kd.C kI w A 1 [x]) (hc : 1 ≤ c) (hB : Kd.C kI w B 1 [x]) (hd : 1 ≤ d) :
  Calls Tryd.prog 15 #[.slice A 1 c, .slice B 1 d] w fun e w' => e = .returned (.bool true) ∧ Qx w w' :=
 PDepS.Qw.calls 2 A c [x] B d [x] true w hA hc hB hd (by simp [PDepS.Qw.f, PDepS.Qw.l0, wrap64])
def dsF : List S34 := [dSum, ⟨⟨#[109, 97, 105, 110]⟩, [], eA [eV sS, eC sN]⟩]
theorem dsF_ok : ok3 dsF = true := by decide +kernel
theorem dsF_grps : grps (rsL (allL dsF)) 2000 [] [] = some [[0], [1]] := by decide +kernel
set_option maxHeartbeats 16000000 in
set_option maxRecDepth 100000 in
theorem first_calls (w : World) : Calls Tryd.prog 6 #[] w fun e w' => e = .returned (.bool true) ∧ Below w.heap.size w w' := by
 have T1 : True := trivial
 go_enter Tryd.func6, Tryd.ntmps6
 go_wp2_with (first | (clear T1; go_at_call 9; go_loud (with_reducible refine (v_calls _ _).mono ?_); rintro e w1 ⟨rfl, hb1⟩; have HB1 := Qb.mk hb1; clear hb1; have T2 : True := trivial) | (clear T2; go_at_call 24; go_loud (with_reducible refine (c_calls _ _).mono ?_); rintro e w2 ⟨rfl, hb2⟩; have HB2 := Qb.mk (Qe HB1.out hb2); clear hb2 HB1; have T3 : True := trivial) | (clear T3; go_at_call 23; go_loud (with_reducible refine (a_calls _ _ _ _).mono ?_); rintro e w3 ⟨rfl, hb3⟩; have hk3 := Qc (Qv w2 _) hb3; have hg3 : k29.C w3 (some ⟨w2.heap.size, 0, none⟩) 2 [eV sS, eC sN] := ZL hk3 (QB.c6 (k_0 _ _ _ _) (QB.c6 (k_0 _ _ _ _) (QB.none _ _))) (by decide); have HG3 := Qb.mk hg3; have HB3 := Qb.mk (Qe (Qd HB2.out _) hb3); clear hb3 HB2 hk3 hg3; have T4 : True := trivial) | (clear T4; go_at_call 25; go_loud (with_reducible refine (sum_calls _).mono ?_); rintro e w4 ⟨A1, A4, A5, rfl, hks, hb4⟩; have HB4 := Qb.mk (Qe HB3.out hb4); have HG4 := Qb.mk (Kd.Qj HG3.out hb4); have hC5 : k34.C (w4.alloc (.cells #[.string sS, .slice A1 1 1, .int .i64 8, .string ⟨#[]⟩, .int .i64 0, .slice none 0 0, .slice A4 1 1, .slice A5 2 2] 34)) (some ⟨w4.heap.size, 0, none⟩) 1 [dSum] := ZL (Qv w4 _) (QB.c8 (heapD.K (fun k hk => Below.heap_alloc _ _ _ hk) hks) (QB.none _ _)) (by decide); have hK5 := k29_mk (w4.alloc (.cells #[.string sS, .slice A1 1 1, .int .i64 8, .string ⟨#[]⟩, .int .i64 0, .slice none 0 0, .slice A4 1 1, .slice A5 2 2] 34)) (eA [eV sS, eC sN]) (Nat.le_refl _) (Kd.C_nil _ _) (Nat.le_refl 2) (Kd.Vb HG4.out _) (Nat.le_refl _) (Kd.C_nil _ _); have CM := main_calls _ (eA [eV sS, eC sN]) hK5 [dSum] (by decide) (c := 1) hC5; dsimp only [eA, List.length_singleton, List.length_nil, List.length_cons, Nat.reduceAdd] at CM; have HB5 := Qb.mk (Qd HB4.out (.cells #[.string sS, .slice A1 1 1, .int .i64 8, .string ⟨#[]⟩, .int .i64 0, .slice none 0 0, .slice A4 1 1, .slice A5 2 2] 34)); clear hb4 hks HB4 HG4 HG3 HB3 hK5 hC5; unfold sS at *; have T5 : True := trivial) | (clear T5; go_at_call 12; go_loud (with_reducible refine (CM).mono ?_); rintro e w6 ⟨B1, B2, c2, rfl, hC6, hb6⟩; have HB6 := Qb.mk (Qd (Qe HB5.out hb6) (.cells #[.slice B1 1 1, .slice B2 2 c2] 38)); have CG := groups3_calls dsF dsF_ok dsF_grps (Ad := B1) (nd := 1) (cd := 1) (cf := c2) 2 2 rfl rfl (Kd.Vb (show k34.C w6 B2 2 dsF from hC6) (.cells #[.slice B1 1 1, .slice B2 2 c2] 38)); clear hC6 hb6 HB5 CM; have T6 : True := trivial) | (clear T6; go_at_call 13; go_loud (with_reducible refine (CG).mono ?_); rintro e w7 ⟨G, cg, rfl, hgc, hC7, hb7⟩; have HB7 := Qb.mk (Qe HB6.out hb7); have HG7 := Qb.mk hC7; obtain ⟨adg, G0, d0, rfl, hx0, hC0, hd0⟩ := at_row (Below.refl _ _) hC7 0 (by decide); have hx0 : w7.cell? (adg.add 0) = some (.slice G0 1 d0) := hx0; rw [show (adg.add 0) = adg by simp [Addr.add]] at hx0; have CS := same1_calls 0 (w7.alloc (.cells #[.int .i64 0] 3)) (Kd.Vb (show kI.C w7 G0 1 [0] from hC0) _) hd0 (c_ints [0] (Qv w7 _) (by decide)) (Nat.le_refl _); clear hb7 hC7 HB6 CG hC0; have T7 : True := trivial) | (clear T7; go_at_call 15; go_loud (with_reducible refine (CS).mono ?_); rintro e w8 ⟨rfl, hd8⟩; have hb8 := Qe (Qd (Below.refl w7.heap.size w7) (.cells #[.int .i64 0] 3)) hd8.below; have HB8 := Qb.mk (Qe HB7.out hb8); obtain ⟨ad', G1, d1, e1, hx1, hC1, hd1⟩ := at_row hb8 HG7.out 1 (by decide); obtain rfl := Option.some.inj e1; have hx1 : w8.cell? (adg.add 1) = some (.slice G1 1 d1) := hx1; rw [show (adg.add 1) = ⟨adg.block, adg.off + 1, none⟩ by simp [Addr.add]] at hx1; have CS2 := same1_calls 1 (w8.alloc (.cells #[.int .i64 1] 3)) (Kd.Qj (show kI.C w7 G1 1 [1] from hC1) (Qe hb8 (Qd (Below.refl _ _) _))) hd1 (c_ints [1] (Qv w8 _) (by decide)) (Nat.le_refl _); clear hb8 hC1 HB7 CS hd8 hx0 e1; have T8 : True := trivial) | (clear T8; go_at_call 15; go_loud (with_reducible refine (CS2).mono ?_); rintro e w9 ⟨rfl, hd9⟩; have HB9 := Qb.mk (Qe (Qd HB8.out _) hd9.below); clear hd9 CS2 HB8; have T9 : True := trivial))
 go_ret
 exact ⟨rfl, HB9.out⟩
end Go.Proofs.YtlgpoigbadajnaaDoor.DepA
namespace Go.Proofs.YtlgpoigbadajnaaDoor.DepA
open Go.Maps (Keyed)
open Go.RowKit Go.Proofs.YtlgpoigbadajnaaDoorW.PrintWords Go.Proofs.YtlgpoigbadajnaaDoorW.PrintLast Go.Proofs.YtlgpoigbadajnaaDoorW.PrintMore Go.Proofs.YtlgpoigbadajnaaDoor.PDepA
set_option linter.unusedVariables false
set_option linter.unusedSimpArgs false
theorem sub_len : ∀ (l m : List Int), l.Nodup → (∀ x ∈ l, x ∈ m) → l.length ≤ m.length
 | [], _, _, _ => Nat.zero_le _
 | x :: l, m, hn, hs => by
  rw [List.nodup_cons] at hn
  have h1 := sub_len l (m.filter (fun y => decide (y ≠ x))) hn.2 (fun y hy => List.mem_filter.2 ⟨hs y (List.mem_cons_of_mem _ hy), by
   have : y ≠ x := fun e => hn.1 (e ▸ hy)
   simpa using this⟩)
  have h2 : (m.filter (fun y => decide (y ≠ x))).length < m.length := List.length_filter_lt_length_iff_exists.2 ⟨x, hs x List.mem_cons_self, by simp⟩
  simp only [List.length_cons]
  omega
theorem sub_lt {l m : List Int} (hn : l.Nodup) (hs : ∀ x ∈ l, x ∈ m) {x : Int} (hx : x ∈ m) (hx' : x ∉ l) : l.length < m.length := by
 have := sub_len (x :: l) m (List.nodup_cons.2 ⟨hx', hn⟩) (fun y hy => by
  rcases List.mem_cons.1 hy with rfl | hy
  ·exact hx
  ·exact hs y hy)
 simp only [List.length_cons] at this
 omega
def ints (n : Nat) : List Int := (List.range n).map (fun i : Nat => (i : Int))
theorem mem_ints {n : Nat} {x : Int} : x ∈ ints n ↔ 0 ≤ x ∧ x < n := by
 simp only [ints, List.mem_map, List.mem_range]
 constructor
 ·rintro ⟨i, hi, rfl⟩; omega
 ·intro h; exact ⟨x.toNat, by omega, by omega⟩
theorem ints_len (n : Nat) : (ints n).length = n := by simp [ints]
theorem ints_nodup (n : Nat) : (ints n).Nodup := by
 unfold ints
 rw [List.Nodup, List.pairwise_map]
 exact List.Pairwise.imp (fun h e => h (Int.ofNat.inj e)) List.nodup_range
theorem len_le {n : Nat} {l : List Int} (hn : l.Nodup) (h : ∀ x ∈ l, 0 ≤ x ∧ x < (n : Int)) : l.length ≤ n := by
 have := sub_len l (ints n) hn (fun x hx => mem_ints.2 (h x hx))
 rwa [ints_len] at this
inductive Reach (us : List (List Int)) : Nat → Nat → Prop where
 | refl (i : Nat) : Reach us i i
 | step {i j k : Nat} (h : i < us.length) (he : (j : Int) ∈ us[i]) (hr : Reach us j k) : Reach us i k
theorem Reach.trans {us : List (List Int)} {i j k : Nat} (h : Reach us i j) (h2 : Reach us j k) : Reach us i k := by
 induction h with
 | refl => exact h2
 | step h he _ ih => exact .step h he (ih h2)
def Ok (us : List (List Int)) : Prop := us.length ≤ 1000 ∧ ∀ row ∈ us, row.length ≤ 1000 ∧ ∀ x ∈ row, 0 ≤ x ∧ x < (us.length : Int)
theorem nAdd_spec : ∀ (row h t : List Int), h.Nodup → ∃ new, row.foldl nAdd (h, t) = (h ++ new, t ++ new) ∧ (h ++ new).Nodup ∧ (∀ x ∈ new, x ∈ row) ∧ ∀ x ∈ row, x ∈ h ++ new
 | [], h, t, hn => ⟨[], by simp, by simpa using hn, by simp, by simp⟩
 | x :: row, h, t, hn => by
  rw [List.foldl_cons]
  by_cases hx : x ∈ h
  ·have e : nAdd (h, t) x = (h, t) := by unfold nAdd; rw [if_pos (Va.2 hx)]
   rw [e]
   obtain ⟨new, h1, h2, h3, h4⟩ := nAdd_spec row h t hn
   refine ⟨new, h1, h2, fun y hy => List.mem_cons_of_mem _ (h3 y hy), fun y hy => ?_⟩
   rcases List.mem_cons.1 hy with rfl | hy
   ·exact List.mem_append_left _ hx
   ·exact h4 y hy
  ·have e : nAdd (h, t) x = (h ++ [x], t ++ [x]) := by unfold nAdd; rw [if_neg (fun hh => hx (Va.1 hh))]
   rw [e]
   have hn2 : (h ++ [x]).Nodup := by
    rw [List.nodup_append]
    exact ⟨hn, by simp, fun a ha b hb => by obtain rfl := List.mem_singleton.1 hb; rintro rfl; exact hx ha⟩
   obtain ⟨new, h1, h2, h3, h4⟩ := nAdd_spec row (h ++ [x]) (t ++ [x]) hn2
   refine ⟨x :: new, by rw [h1]; simp, by simpa using h2, fun y hy => ?_, fun y hy => ?_⟩
   ·rcases List.mem_cons.1 hy with rfl | hy
    ·exact List.mem_cons_self
    ·exact List.mem_cons_of_mem _ (h3 y hy)
   ·rcases List.mem_cons.1 hy with rfl | hy
    ·simp
    ·have := h4 y hy; simpa using this
theorem bfs_spec {us : List (List Int)} (ok : Ok us) : ∀ (F : Nat) (h t : List Int), h.Nodup → t.Nodup → (∀ x ∈ h, 0 ≤ x ∧ x < (us.length : Int)) → (∀ x ∈ t, x ∈ h) → (us.length - h.length) + t.length + 1 ≤ F →
  ∃ r, bfs us F h t = some r ∧ r.Nodup ∧ (∀ x ∈ r, 0 ≤ x ∧ x < (us.length : Int)) ∧ (∀ x ∈ h, x ∈ r) ∧ (∀ x ∈ r, x ∈ h ∨ ∃ y ∈ t, Reach us y.toNat x.toNat) ∧ ((∀ x ∈ h, x ∉ t → ∀ z ∈ us.getD x.toNat [], z ∈ h) → ∀ x ∈ r, ∀ z ∈ us.getD x.toNat [], z ∈ r)
 | 0, h, t, _, _, _, _, hF => by omega
 | F + 1, h, [], hn, _, hr, _, _ => ⟨h, rfl, hn, hr, fun _ hx => hx, fun x hx => .inl hx, fun hc x hx z hz => hc x hx (by simp) z hz⟩
 | F + 1, h, k :: t, hn, htn, hr, hs, hF => by
  obtain ⟨hk0, hk1⟩ := hr k (hs k List.mem_cons_self)
  have hlk : k.toNat < us.length := by omega
  have hrow : us[k.toNat]? = some us[k.toNat] := List.getElem?_eq_getElem hlk
  obtain ⟨hrl, hre⟩ := ok.2 _ (List.getElem_mem hlk)
  have hlh := len_le hn hr
  rw [List.nodup_cons] at htn
  have hlt : t.length ≤ us.length := len_le htn.2 (fun x hx => hr x (hs x (List.mem_cons_of_mem _ hx)))
  have hol := ok.1
  obtain ⟨new, e, hn2, h3, h4⟩ := nAdd_spec us[k.toNat] h t hn
  have hr2 : ∀ x ∈ h ++ new, 0 ≤ x ∧ x < (us.length : Int) := fun x hx => by
   rcases List.mem_append.1 hx with hx | hx
   ·exact hr x hx
   ·exact hre x (h3 x hx)
  have hlh2 := len_le hn2 hr2
  rw [List.length_append] at hlh2
  have hdis := (List.nodup_append.1 hn2)
  have ht2 : (t ++ new).Nodup := by
   rw [List.nodup_append]
   exact ⟨htn.2, hdis.2.1, fun a ha b hb => hdis.2.2 a (hs a (List.mem_cons_of_mem _ ha)) b hb⟩
  obtain ⟨r, hb, q1, q2, q3, q4, q5⟩ := bfs_spec ok F (h ++ new) (t ++ new) hn2 ht2 hr2 (fun x hx => by
   rcases List.mem_append.1 hx with hx | hx
   ·exact List.mem_append_left _ (hs x (List.mem_cons_of_mem _ hx))
   ·exact List.mem_append_right _ hx) (by simp only [List.length_cons, List.length_append] at hF ⊢; omega)
  refine ⟨r, ?_, q1, q2, fun x hx => q3 x (List.mem_append_left _ hx), fun x hx => ?_, fun hc => q5 (fun x hx hx' z hz => ?_)⟩
  ·simp only [bfs]
   rw [if_pos (by simp only [Bool.and_eq_true, decide_eq_true_eq]; omega), hrow]
   simp only [e]
   exact hb
  ·have edge : ∀ y ∈ new, Reach us k.toNat y.toNat := fun y hy => .step hlk (by have h0 := hre y (h3 y hy); rw [Int.toNat_of_nonneg h0.1]; exact h3 y hy) (.refl _)
   rcases q4 x hx with hx | ⟨y, hy, hyx⟩
   ·rcases List.mem_append.1 hx with hx | hx
    ·exact .inl hx
    ·exact .inr ⟨k, List.mem_cons_self, edge x hx⟩
   ·rcases List.mem_append.1 hy with hy | hy
    ·exact .inr ⟨y, List.mem_cons_of_mem _ hy, hyx⟩
    ·exact .inr ⟨k, List.mem_cons_self, (edge y hy).trans hyx⟩
  ·rcases List.mem_append.1 hx with hx | hx
   ·by_cases hxk : x = k
    ·subst hxk
     have : us.getD x.toNat [] = us[x.toNat] := by rw [List.getD_eq_getElem?_getD, hrow]; rfl
     rw [this] at hz
     exact h4 z hz
    ·refine List.mem_append_left _ (hc x hx (fun hh => ?_) z hz)
     rcases List.mem_cons.1 hh with rfl | hh
     ·exact hxk rfl
     ·exact hx' (List.mem_append_left _ hh)
   ·exact absurd (List.mem_append_right _ hx) hx'
theorem Reach.in {us : List (List Int)} {r : List Int} (hc : ∀ x ∈ r, ∀ z ∈ us.getD x.toNat [], z ∈ r) {i k : Nat} (h : Reach us i k) : (i : Int) ∈ r → (k : Int) ∈ r := by
 induction h with
 | refl => exact fun h => h
 | step h he _ ih =>
  intro hi
  refine ih (hc _ hi _ ?_)
  rw [Int.toNat_natCast, List.getD_eq_getElem?_getD, List.getElem?_eq_getElem h]
  exact he
theorem ZR {us : List (List Int)} (ok : Ok us) {d : Nat} (hd : d < us.length) : bfs us 3000 [(d : Int)] [(d : Int)] = some (ZN us d) ∧ (ZN us d).Nodup ∧ (∀ x ∈ ZN us d, 0 ≤ x ∧ x < (us.length : Int)) ∧ ∀ k : Nat, (k : Int) ∈ ZN us d ↔ Reach us d k := by
 have hol := ok.1
 obtain ⟨r, hb, q1, q2, q3, q4, q5⟩ := bfs_spec ok 3000 [(d : Int)] [(d : Int)] (by simp) (by simp) (fun x hx => by obtain rfl := List.mem_singleton.1 hx; omega) (fun x hx => hx) (by simp; omega)
 have e : ZN us d = r := by unfold ZN; rw [hb]; rfl
 rw [e]
 refine ⟨hb, q1, q2, fun k => ⟨fun hk => ?_, fun hk => ?_⟩⟩
 ·rcases q4 _ hk with h | ⟨y, hy, hr⟩
  ·have := List.mem_singleton.1 h
   have : k = d := by omega
   subst this
   exact .refl _
  ·obtain rfl := List.mem_singleton.1 hy
   simpa using hr
 ·exact hk.in (q5 (fun x hx hx' => absurd hx hx')) (q3 _ (List.mem_singleton.2 rfl))
theorem Reach.lt {us : List (List Int)} (ok : Ok us) {i k : Nat} (h : Reach us i k) (hi : i < us.length) : k < us.length := by
 induction h with
 | refl => exact hi
 | step h he _ ih =>
  have := (ok.2 _ (List.getElem_mem h)).2 _ he
  exact ih (by omega)
theorem rsL_len (us : List (List Int)) : (rsL us).length = us.length := by simp [rsL]
theorem rsL_at {us : List (List Int)} {i : Nat} (hi : i < us.length) : (rsL us)[i]? = some (ZN us i) := by
 unfold rsL
 rw [List.getElem?_map, List.getElem?_range hi]
 rfl
theorem both_iff {us : List (List Int)} (ok : Ok us) {i k : Nat} (hi : i < us.length) (hk : k < us.length) : both (rsL us) i k = true ↔ Reach us i k ∧ Reach us k i := by
 unfold both
 rw [rsL_at hi, rsL_at hk]
 simp only [Bool.and_eq_true, Va]
 rw [(ZR ok hi).2.2.2, (ZR ok hk).2.2.2]
theorem rdy_iff {us : List (List Int)} (ok : Ok us) {done : List Int} {i : Nat} (hi : i < us.length) : rdyR (rsL us) done i = true ↔ ((i : Int) ∉ done ∧ ∀ k, Reach us i k → (k : Int) ∈ done ∨ Reach us k i) := by
 obtain ⟨_, _, h2, h3⟩ := ZR ok hi
 unfold rdyR
 rw [rsL_at hi]
 simp only [Bool.and_eq_true, List.all_eq_true, Bool.not_eq_true', ← Bool.not_eq_true, Va]
 constructor
 ·rintro ⟨h, hd⟩
  refine ⟨hd, fun k hk => ?_⟩
  have hkl := hk.lt ok hi
  have := h _ ((h3 k).2 hk)
  unfold okKr at this
  rw [Int.toNat_natCast, rsL_at hkl] at this
  simp only [Bool.or_eq_true, Va] at this
  rcases this with h | h
  ·exact .inl h
  ·exact .inr (((ZR ok hkl).2.2.2 i).1 h)
 ·rintro ⟨hd, h⟩
  refine ⟨fun x hx => ?_, hd⟩
  obtain ⟨k, rfl⟩ : ∃ k : Nat, x = (k : Int) := ⟨x.toNat, by have := h2 x hx; omega⟩
  have hk := (h3 k).1 hx
  have hkl := hk.lt ok hi
  unfold okKr
  rw [Int.toNat_natCast, rsL_at hkl]
  simp only [Bool.or_eq_true, Va]
  rcases h k hk with h | h
  ·exact .inl h
  ·exact .inr (((ZR ok hkl).2.2.2 i).2 h)
theorem some_ready {us : List (List Int)} (ok : Ok us) (done : List Int) : ∀ (m i : Nat), i < us.length → (i : Int) ∉ done → ((ZN us i).filter (fun x => !inI done x)).length ≤ m → ∃ j, j < us.length ∧ rdyR (rsL us) done j = true
 | m, i, hi, hd, hm => by
  by_cases hr : rdyR (rsL us) done i = true
  ·exact ⟨i, hi, hr⟩
  ·rw [rdy_iff ok hi] at hr
   have hr : ∃ k, Reach us i k ∧ (k : Int) ∉ done ∧ ¬ Reach us k i := by
    apply Classical.byContradiction
    intro hne
    refine hr ⟨hd, fun k hk => ?_⟩
    apply Classical.byContradiction
    intro h
    exact hne ⟨k, hk, fun h1 => h (.inl h1), fun h1 => h (.inr h1)⟩
   obtain ⟨k, hk, hkd, hki⟩ := hr
   have hkl := hk.lt ok hi
   obtain ⟨_, _, a2, a3⟩ := ZR ok hi
   obtain ⟨_, b1, b2, b3⟩ := ZR ok hkl
   have hlt : ((ZN us k).filter (fun x => !inI done x)).length < ((ZN us i).filter (fun x => !inI done x)).length := by
    refine sub_lt (x := (i : Int)) (b1.filter _) (fun x hx => ?_) ?_ ?_
    ·obtain ⟨h1, h2⟩ := List.mem_filter.1 hx
     obtain ⟨q, rfl⟩ : ∃ q : Nat, x = (q : Int) := ⟨x.toNat, by have := b2 x h1; omega⟩
     exact List.mem_filter.2 ⟨(a3 q).2 (hk.trans ((b3 q).1 h1)), h2⟩
    ·exact List.mem_filter.2 ⟨(a3 i).2 (.refl _), by
      cases h : inI done (i : Int) with
      | false => rfl
      | true => exact absurd (Va.1 h) hd⟩
    ·intro h
     exact hki ((b3 i).1 (List.mem_filter.1 h).1)
   match m, hm with
   | 0, hm => omega
   | m + 1, hm => exact some_ready ok done m k hkl hkd (by omega)
theorem nxt_spec {rs : List (List Int)} {done : List Int} : ∀ (F i j : Nat), i ≤ j → j < rs.length → rdyR rs done j = true → rs.length - i < F → ∃ k, nxt rs done F i = some k ∧ i ≤ k ∧ k < rs.length ∧ rdyR rs done k = true ∧ ∀ q, i ≤ q → q < k → rdyR rs done q = false
 | 0, i, j, h1, h2, h3, h4 => by omega
 | F + 1, i, j, h1, h2, h3, h4 => by
  rw [nxt, if_pos (by omega)]
  by_cases hr : rdyR rs done i = true
  ·rw [if_pos hr]
   exact ⟨i, rfl, Nat.le_refl _, by omega, hr, fun q h5 h6 => by omega⟩
  ·rw [if_neg hr]
   have hij : i ≠ j := fun e => hr (e ▸ h3)
   obtain ⟨k, e, h5, h6, h7, h8⟩ := nxt_spec F (i + 1) j (by omega) h2 h3 (by omega)
   exact ⟨k, e, by omega, h6, h7, fun q h9 h10 => by
    by_cases hq : q = i
    ·subst hq; simpa using hr
    ·exact h8 q (by omega) h10⟩
theorem gr_mem {rs : List (List Int)} {i : Nat} : ∀ (F k : Nat) (x : Int), x ∈ gr rs i F k ↔ ∃ q : Nat, x = (q : Int) ∧ k ≤ q ∧ q < k + F ∧ both rs i q = true
 | 0, k, x => by
  simp only [gr, List.not_mem_nil, false_iff]
  rintro ⟨q, _, h1, h2, _⟩
  omega
 | F + 1, k, x => by
  have ih := gr_mem (rs := rs) (i := i) F (k + 1) x
  simp only [gr]
  by_cases hb : both rs i k = true
  ·rw [if_pos hb, List.mem_cons, ih]
   constructor
   ·rintro (rfl | ⟨q, h1, h2, h3, h4⟩)
    ·exact ⟨k, rfl, Nat.le_refl _, by omega, hb⟩
    ·exact ⟨q, h1, by omega, by omega, h4⟩
   ·rintro ⟨q, h1, h2, h3, h4⟩
    by_cases hq : q = k
    ·exact .inl (by rw [h1, hq])
    ·exact .inr ⟨q, h1, by omega, by omega, h4⟩
  ·rw [if_neg hb, ih]
   constructor
   ·rintro ⟨q, h1, h2, h3, h4⟩
    exact ⟨q, h1, by omega, by omega, h4⟩
   ·rintro ⟨q, h1, h2, h3, h4⟩
    have hq : q ≠ k := fun e => hb (e ▸ h4)
    exact ⟨q, h1, by omega, by omega, h4⟩
theorem gr_nodup {rs : List (List Int)} {i : Nat} : ∀ (F k : Nat), (gr rs i F k).Nodup
 | 0, k => by simp [gr]
 | F + 1, k => by
  simp only [gr]
  split
  ·refine List.nodup_cons.2 ⟨fun h => ?_, gr_nodup F (k + 1)⟩
   obtain ⟨q, h1, h2, _, _⟩ := (gr_mem F (k + 1) _).1 h
   omega
  ·exact gr_nodup F (k + 1)
structure Dn (us : List (List Int)) (done : List Int) (out : List (List Int)) : Prop where
 fl : done = out.flatten
 nd : done.Nodup
 rg : ∀ x ∈ done, 0 ≤ x ∧ x < (us.length : Int)
 cl : ∀ i k : Nat, (i : Int) ∈ done → Reach us i k → (k : Int) ∈ done
 one : ∀ (p : Nat) (g : List Int), out[p]? = some g → g ≠ [] ∧ (∀ i k : Nat, (i : Int) ∈ g → (k : Int) ∈ g → Reach us i k) ∧ ∀ i k : Nat, (i : Int) ∈ g → Reach us i k → ∃ q h, q ≤ p ∧ out[q]? = some h ∧ (k : Int) ∈ h
theorem gr_rsL {us : List (List Int)} (ok : Ok us) {i : Nat} (hi : i < us.length) (x : Int) : x ∈ gr (rsL us) i us.length 0 ↔ ∃ q : Nat, x = (q : Int) ∧ q < us.length ∧ Reach us i q ∧ Reach us q i := by
 rw [gr_mem]
 constructor
 ·rintro ⟨q, h1, _, h2, h3⟩
  exact ⟨q, h1, by omega, (both_iff ok hi (by omega)).1 h3⟩
 ·rintro ⟨q, h1, h2, h3⟩
  exact ⟨q, h1, Nat.zero_le _, by omega, (both_iff ok hi h2).2 h3⟩
theorem Dn.step {us : List (List Int)} (ok : Ok us) {done : List Int} {out : List (List Int)} (h : Dn us done out) {i : Nat} (hi : i < us.length) (hr : rdyR (rsL us) done i = true) : Dn us (done ++ gr (rsL us) i us.length 0) (out ++ [gr (rsL us) i us.length 0]) ∧ (∀ x ∈ gr (rsL us) i us.length 0, inI done x = false) ∧ (i : Int) ∈ gr (rsL us) i us.length 0 := by
 obtain ⟨hd, hre⟩ := (rdy_iff ok hi).1 hr
 have hnot : ∀ x ∈ gr (rsL us) i us.length 0, x ∉ done := fun x hx hxd => by
  obtain ⟨q, rfl, _, h2, h3⟩ := (gr_rsL ok hi x).1 hx
  exact hd (h.cl q i hxd h3)
 have hmem : (i : Int) ∈ gr (rsL us) i us.length 0 := (gr_rsL ok hi _).2 ⟨i, rfl, hi, .refl _, .refl _⟩
 have hcov : ∀ (a k : Nat), (a : Int) ∈ gr (rsL us) i us.length 0 → Reach us a k → (k : Int) ∈ done ∨ (k : Int) ∈ gr (rsL us) i us.length 0 := fun a k ha hak => by
  obtain ⟨q, e, hq, h2, h3⟩ := (gr_rsL ok hi _).1 ha
  have e : a = q := by omega
  subst e
  have hik := h2.trans hak
  rcases hre k hik with h4 | h4
  ·exact .inl h4
  ·exact .inr ((gr_rsL ok hi _).2 ⟨k, rfl, hik.lt ok hi, hik, h4⟩)
 refine ⟨⟨?_, ?_, ?_, ?_, ?_⟩, fun x hx => ?_, hmem⟩
 ·rw [List.flatten_append, ← h.fl]; simp
 ·rw [List.nodup_append]
  exact ⟨h.nd, gr_nodup _ _, fun a ha b hb e => hnot b hb (e ▸ ha)⟩
 ·intro x hx
  rcases List.mem_append.1 hx with hx | hx
  ·exact h.rg x hx
  ·obtain ⟨q, rfl, hq, _⟩ := (gr_rsL ok hi x).1 hx
   omega
 ·intro a k ha hak
  rcases List.mem_append.1 ha with ha | ha
  ·exact List.mem_append_left _ (h.cl a k ha hak)
  ·exact List.mem_append.2 (hcov a k ha hak)
 ·intro p g hp
  by_cases hlt : p < out.length
  ·rw [List.getElem?_append_left hlt] at hp
   obtain ⟨h1, h2, h3⟩ := h.one p g hp
   refine ⟨h1, h2, fun a k ha hak => ?_⟩
   obtain ⟨q, g2, hq, hg2, hk⟩ := h3 a k ha hak
   exact ⟨q, g2, hq, by rw [List.getElem?_append_left (by omega)]; exact hg2, hk⟩
  ·have hpl : p = out.length := by
    have := (List.getElem?_eq_some_iff.1 hp).1
    simp only [List.length_append, List.length_cons, List.length_nil] at this
    omega
   subst hpl
   have hg : g = gr (rsL us) i us.length 0 := by simpa using hp.symm
   subst hg
   refine ⟨(fun e => by rw [e] at hmem; cases hmem), fun a k ha hk => ?_, fun a k ha hak => ?_⟩
   ·obtain ⟨q, e, _, h2, h3⟩ := (gr_rsL ok hi _).1 ha
    obtain ⟨q2, e2, _, h4, h5⟩ := (gr_rsL ok hi _).1 hk
    have e : a = q := by omega
    have e2 : k = q2 := by omega
    subst e e2
    exact h3.trans h4
   ·rcases hcov a k ha hak with h4 | h4
    ·rw [h.fl, List.mem_flatten] at h4
     obtain ⟨g2, hg2, hk⟩ := h4
     obtain ⟨q, hq, e⟩ := List.getElem_of_mem hg2
     exact ⟨q, g2, by omega, by rw [List.getElem?_append_left hq, List.getElem?_eq_getElem hq, e], hk⟩
    ·exact ⟨out.length, _, Nat.le_refl _, by simp, h4⟩
 ·cases hh : inI done x with
  | false => rfl
  | true => exact absurd (Va.1 hh) (hnot x hx)
theorem flat_len : ∀ (out : List (List Int)), (∀ g ∈ out, 1 ≤ g.length) → out.length ≤ out.flatten.length
 | [], _ => Nat.zero_le _
 | g :: l, h => by
  have h1 := h g List.mem_cons_self
  have h2 := flat_len l (fun g hg => h g (List.mem_cons_of_mem _ hg))
  simp only [List.flatten_cons, List.length_append, List.length_cons]
  omega
theorem grps_spec {us : List (List Int)} (ok : Ok us) : ∀ (F : Nat) (done : List Int) (out : List (List Int)), Dn us done out → us.length - done.length < F → ∃ R, grps (rsL us) F done out = some R ∧ ∃ done', Dn us done' R ∧ done'.length = us.length
 | 0, done, out, h, hF => by omega
 | F + 1, done, out, h, hF => by
  have hol := ok.1
  have hlen := len_le h.nd h.rg
  rw [grps]
  by_cases hl : done.length < (rsL us).length
  ·rw [if_pos hl]
   rw [rsL_len] at hl
   obtain ⟨i, hi, hid⟩ : ∃ i : Nat, i < us.length ∧ (i : Int) ∉ done := by
    apply Classical.byContradiction
    intro hne
    have := sub_len (ints us.length) done (ints_nodup _) (fun x hx => by
     have hx2 := mem_ints.1 hx
     apply Classical.byContradiction
     intro hxd
     refine hne ⟨x.toNat, by omega, ?_⟩
     rwa [Int.toNat_of_nonneg hx2.1])
    rw [ints_len] at this
    omega
   obtain ⟨j, hj, hjr⟩ := some_ready ok done _ i hi hid (Nat.le_refl _)
   obtain ⟨k, e, _, hk, hkr, _⟩ := nxt_spec 2000 0 j (Nat.zero_le _) (by rw [rsL_len]; exact hj) hjr (by rw [rsL_len]; omega)
   rw [e]
   rw [rsL_len] at hk ⊢
   obtain ⟨hD, hno, hmem⟩ := h.step ok hk hkr
   have hout : out.length ≤ done.length := by
    rw [h.fl]
    have hne : ∀ g ∈ out, 1 ≤ g.length := fun g hg => by
     obtain ⟨q, hq, e⟩ := List.getElem_of_mem hg
     have := (h.one q g (by rw [List.getElem?_eq_getElem hq, e])).1
     cases g with
     | nil => exact absurd rfl this
     | cons => simp
    exact flat_len out hne
   have hc : ((gr (rsL us) k us.length 0).all (fun x => !inI done x) && decide (out.length ≤ 1000)) = true := by
    rw [Bool.and_eq_true, List.all_eq_true]
    exact ⟨fun x hx => by rw [hno x hx]; rfl, decide_eq_true (by omega)⟩
   simp only [hc, if_true]
   have hgl : 1 ≤ (gr (rsL us) k us.length 0).length := by
    cases hg : gr (rsL us) k us.length 0 with
    | nil => rw [hg] at hmem; cases hmem
    | cons => simp
   exact grps_spec ok F _ _ hD (by rw [List.length_append]; omega)
  ·rw [if_neg hl]
   rw [rsL_len] at hl
   exact ⟨out, rfl, done, h, by omega⟩
theorem groups_spec {us : List (List Int)} (ok : Ok us) : ∃ R, grps (rsL us) 2000 [] [] = some R ∧ ∃ done, Dn us done R ∧ done.length = us.length :=
 grps_spec ok 2000 [] [] ⟨rfl, by simp, by simp, by simp, by simp⟩ (by have := ok.1; simp; omega)
theorem okR_of {us : List (List Int)} (ok : Ok us) : okR us = true := by
 unfold okR small
 simp only [Bool.and_eq_true, List.all_eq_true, decide_eq_true_eq]
 have hol := ok.1
 refine ⟨⟨⟨⟨ok.1, fun l hl => ⟨(ok.2 l hl).1, fun x hx => by have := (ok.2 l hl).2 x hx; exact ⟨this.1, by omega⟩⟩⟩, ok.1⟩, fun j hj => ?_⟩, fun r hr x hx => ?_⟩
 ·rw [(ZR ok (List.mem_range.1 hj)).1]; rfl
 ·unfold rsL at hr
  obtain ⟨j, hj, rfl⟩ := List.mem_map.1 hr
  exact (ZR ok (List.mem_range.1 hj)).2.2.1 x hx
def runK (v : Int) : List Int → List Int → Option (List Int)
 | [], O => some O
 | x :: g, O => if 0 ≤ x ∧ x < (O.length : Int) ∧ O.getD x.toNat 1 = 0 then runK v g (O.set x.toNat v) else none
def runG : List (List Int) → Int → List Int → Option (List Int)
 | [], _, O => some O
 | g :: R, v, O => (runK v g O).bind (runG R (v + 1))
theorem runK_spec (v : Int) : ∀ (g O : List Int), g.Nodup → (∀ x ∈ g, 0 ≤ x ∧ x < (O.length : Int) ∧ O.getD x.toNat 1 = 0) → ∃ O', runK v g O = some O' ∧ O'.length = O.length ∧ ∀ q : Nat, q < O.length → ((q : Int) ∈ g → O'.getD q 1 = v) ∧ ((q : Int) ∉ g → O'.getD q 1 = O.getD q 1)
 | [], O, _, _ => ⟨O, rfl, rfl, fun q _ => ⟨(fun h => by cases h), fun _ => rfl⟩⟩
 | x :: g, O, hn, h => by
  rw [List.nodup_cons] at hn
  obtain ⟨h0, h1, h2⟩ := h x List.mem_cons_self
  have hget : ∀ q : Nat, (O.set x.toNat v).getD q 1 = if q = x.toNat ∧ q < O.length then v else O.getD q 1 := fun q => by
   simp only [List.getD_eq_getElem?_getD, List.getElem?_set]
   by_cases hq : x.toNat = q
   ·subst hq
    by_cases hl : x.toNat < O.length
    ·simp [hl]
    ·omega
   ·rw [if_neg hq, if_neg (fun hh => hq hh.1.symm)]
  obtain ⟨O', e, hl, hs⟩ := runK_spec v g (O.set x.toNat v) hn.2 (fun y hy => by
   obtain ⟨y0, y1, y2⟩ := h y (List.mem_cons_of_mem _ hy)
   refine ⟨y0, by rw [List.length_set]; exact y1, ?_⟩
   rw [hget, if_neg (fun hh => hn.1 (by exact (show y = x by omega) ▸ hy))]
   exact y2)
  rw [List.length_set] at hl hs
  refine ⟨O', by rw [runK, if_pos ⟨h0, h1, h2⟩, e], hl, fun q hq => ⟨fun hm => ?_, fun hm => ?_⟩⟩
  ·rcases List.mem_cons.1 hm with hm | hm
   ·have hng : (q : Int) ∉ g := fun hh => hn.1 (hm ▸ hh)
    rw [(hs q hq).2 hng, hget, if_pos ⟨by omega, hq⟩]
   ·exact (hs q hq).1 hm
  ·have h3 : (q : Int) ≠ x := fun e => hm (e ▸ List.mem_cons_self)
   rw [(hs q hq).2 (fun hh => hm (List.mem_cons_of_mem _ hh)), hget, if_neg (fun hh => h3 (by omega))]
theorem runG_spec : ∀ (R : List (List Int)) (v : Int) (O : List Int), R.flatten.Nodup → (∀ x ∈ R.flatten, 0 ≤ x ∧ x < (O.length : Int) ∧ O.getD x.toNat 1 = 0) → ∃ O', runG R v O = some O' ∧ O'.length = O.length ∧ ∀ q : Nat, q < O.length → (∀ (p : Nat) (g : List Int), R[p]? = some g → (q : Int) ∈ g → O'.getD q 1 = v + p) ∧ ((q : Int) ∉ R.flatten → O'.getD q 1 = O.getD q 1)
 | [], v, O, _, _ => ⟨O, rfl, rfl, fun q _ => ⟨(fun p g h => by cases h), fun _ => rfl⟩⟩
 | g :: R, v, O, hn, h => by
  rw [List.flatten_cons, List.nodup_append] at hn
  obtain ⟨O1, e1, l1, s1⟩ := runK_spec v g O hn.1 (fun x hx => h x (by rw [List.flatten_cons]; exact List.mem_append_left _ hx))
  obtain ⟨O2, e2, l2, s2⟩ := runG_spec R (v + 1) O1 hn.2.1 (fun x hx => by
   obtain ⟨x0, x1, x2⟩ := h x (by rw [List.flatten_cons]; exact List.mem_append_right _ hx)
   refine ⟨x0, by rw [l1]; exact x1, ?_⟩
   rw [(s1 x.toNat (by omega)).2 (fun hh => hn.2.2 _ hh x hx (by omega))]
   exact x2)
  refine ⟨O2, by rw [runG, e1]; exact e2, l2.trans l1, fun q hq => ⟨fun p g2 hp hm => ?_, fun hm => ?_⟩⟩
  ·cases p with
   | zero =>
    simp only [List.getElem?_cons_zero, Option.some.injEq] at hp
    subst hp
    rw [(s2 q (by omega)).2 (fun hh => hn.2.2 _ hm _ hh rfl), (s1 q hq).1 hm]
    simp
   | succ p =>
    rw [List.getElem?_cons_succ] at hp
    rw [(s2 q (by omega)).1 p g2 hp hm]
    omega
  ·rw [List.flatten_cons, List.mem_append, not_or] at hm
   rw [(s2 q (by omega)).2 hm.2, (s1 q hq).2 hm.1]
theorem order_spec {us : List (List Int)} (ok : Ok us) : ∃ R Of, grps (rsL us) 2000 [] [] = some R ∧ R.flatten.length = us.length ∧ runG R 1 (List.replicate us.length 0) = some Of ∧ Of.length = us.length ∧ (∀ i : Nat, i < us.length → ∀ x ∈ us.getD i [], Of.getD x.toNat 1 ≤ Of.getD i 1) ∧ ∀ i k : Nat, i < us.length → k < us.length → Of.getD k 1 = Of.getD i 1 → (k : Int) ∈ ZN us i := by
 obtain ⟨R, hR, done, hD, hlen⟩ := groups_spec ok
 have hfl := hD.fl
 subst hfl
 obtain ⟨Of, e, l, s⟩ := runG_spec R 1 (List.replicate us.length 0) hD.nd (fun x hx => by
  obtain ⟨h0, h1⟩ := hD.rg x hx
  refine ⟨h0, by simpa using h1, ?_⟩
  rw [List.getD_eq_getElem?_getD, List.getElem?_replicate, if_pos (by omega)]
  rfl)
 rw [List.length_replicate] at l s
 have hin : ∀ q : Nat, q < us.length → ∃ (p : Nat) (g : List Int), R[p]? = some g ∧ (q : Int) ∈ g ∧ Of.getD q 1 = 1 + p := fun q hq => by
  have hm : (q : Int) ∈ R.flatten := by
   apply Classical.byContradiction
   intro hne
   have := sub_lt (x := (q : Int)) (m := ints us.length) hD.nd (fun x hx => mem_ints.2 (hD.rg x hx)) (mem_ints.2 (by omega)) hne
   rw [ints_len] at this
   omega
  obtain ⟨g, hg, hqg⟩ := List.mem_flatten.1 hm
  obtain ⟨p, hp, rfl⟩ := List.getElem_of_mem hg
  exact ⟨p, _, List.getElem?_eq_getElem hp, hqg, (s q hq).1 p _ (List.getElem?_eq_getElem hp) hqg⟩
 refine ⟨R, Of, hR, hlen, e, l, fun i hi x hx => ?_, fun i k hi hk he => ?_⟩
 ·obtain ⟨p, g, hp, hig, hip⟩ := hin i hi
  rw [List.getD_eq_getElem?_getD, List.getElem?_eq_getElem hi] at hx
  have hx : x ∈ us[i] := hx
  have hxr := (ok.2 _ (List.getElem_mem hi)).2 x hx
  have hreach : Reach us i x.toNat := .step hi (by rw [Int.toNat_of_nonneg hxr.1]; exact hx) (.refl _)
  obtain ⟨q, h, hq, hqh, hk⟩ := (hD.one p g hp).2.2 i x.toNat hig hreach
  rw [hip, (s x.toNat (by omega)).1 q h hqh hk]
  omega
 ·obtain ⟨p, g, hp, hig, hip⟩ := hin i hi
  obtain ⟨q, h, hq, hkh, hkq⟩ := hin k hk
  have hpq : p = q := by omega
  subst hpq
  rw [hp] at hq
  obtain rfl := Option.some.inj hq
  exact ((ZR ok hi).2.2.2 k).2 ((hD.one p g hp).2.1 i k hig hkh)
end Go.Proofs.YtlgpoigbadajnaaDoor.DepA
