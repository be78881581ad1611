/- The builders of small programs. No condition beyond those that each states. -/
import Derived.Test.YtlgpoigbadajnaaDoorDepH
namespace Go.Proofs.YtlgpoigbadajnaaDoor.DepA
open Go.RowKit Go.Proofs.YtlgpoigbadajnaaDoorW.PrintWords Go.Proofs.YtlgpoigbadajnaaDoorW.PrintLast Go.Proofs.YtlgpoigbadajnaaDoorW.PrintMore Go.Proofs.YtlgpoigbadajnaaDoor.PDepA
set_option linter.unusedVariables false
set_option linter.unusedSimpArgs false
theorem C_cells {α : Type} {d : Kd α} {W : World} {b : Nat} {cs : Array Value} {e : TypeId} (hb : W.heap[b]? = some (.cells cs e (0, 0))) {xs : List α} (h : Reps (d.K W) d.sz xs cs.toList) (hm : xs.length ≤ 9223372036854775807) : d.C W (some ⟨b, 0, none⟩) xs.length xs := by
  refine ⟨rfl, hm, fun _ => ⟨_, rfl, fun j p hj => ?_⟩⟩
  have hK := h.2 j p hj
  refine ⟨(cs.toList.drop (j * d.sz)).take d.sz, d.K_len hK, hK, fun i u hu => ?_⟩
  rw [add_i, blk_cell hb]
  rw [List.getElem?_take] at hu
  split at hu
  · rw [List.getElem?_drop] at hu
    simpa using hu
  · cases hu
theorem there_blk {W : World} {b : Nat} {cs : Array Value} {e : TypeId} (hb : W.heap[b]? = some (.cells cs e (0, 0))) {n : Nat} (hn : n ≤ cs.size) : W.there b 0 n := fun j hj => ⟨by rw [blk_cell hb]; simp; omega, blk_frozen hb _⟩
theorem C_strs {W : World} {b : Nat} {e : TypeId} (l : List ByteArray) (hb : W.heap[b]? = some (.cells (l.map Value.string).toArray e (0, 0))) (hm : l.length ≤ 9223372036854775807) : Kd.C Kd.string W (some ⟨b, 0, none⟩) l.length l := by
  refine C_cells hb ?_ hm
  have h := Kd.reps_scalar (enc := Value.string) l
  have e1 : encs Value.string l = (l.map Value.string).toArray.toList := by simp [encs]
  rw [e1] at h
  exact h
theorem v_calls (a : ByteArray) (w : World) : Calls Tryd.prog 9 #[.string a] w fun e w' => e = .returned (.agg #[.int .i64 1, .string a, .int .i64 0, .slice none 0 0, .slice none 0 0, .slice none 0 0]) ∧ Below w.heap.size w w' := by
  go_enter Tryd.func9, Tryd.ntmps9
  go_wp2
  refine bodyPost_ret (v := .agg #[.int .i64 1, .string a, .int .i64 0, .slice none 0 0, .slice none 0 0, .slice none 0 0]) (by simp [results, Tryd.results9, go_sem]) rfl ⟨rfl, below_alloc (Below.refl _ _) _⟩
theorem i_calls (n : Int) (w : World) : Calls Tryd.prog 8 #[.int .i64 n] w fun e w' => e = .returned (.agg #[.int .i64 2, .string ⟨#[]⟩, .int .i64 n, .slice none 0 0, .slice none 0 0, .slice none 0 0]) ∧ Below w.heap.size w w' := by
  go_enter Tryd.func8, Tryd.ntmps8
  go_wp2
  refine bodyPost_ret (v := .agg #[.int .i64 2, .string ⟨#[]⟩, .int .i64 n, .slice none 0 0, .slice none 0 0, .slice none 0 0]) (by simp [results, Tryd.results8, go_sem]) rfl ⟨rfl, below_alloc (Below.refl _ _) _⟩
theorem c_calls (a : ByteArray) (w : World) : Calls Tryd.prog 24 #[.string a] w fun e w' => e = .returned (.agg #[.int .i64 4, .string a, .int .i64 0, .slice none 0 0, .slice none 0 0, .slice none 0 0]) ∧ Below w.heap.size w w' := by
  go_enter Tryd.func24, Tryd.ntmps24
  go_wp2
  refine bodyPost_ret (v := .agg #[.int .i64 4, .string a, .int .i64 0, .slice none 0 0, .slice none 0 0, .slice none 0 0]) (by simp [results, Tryd.results24, go_sem]) rfl ⟨rfl, below_alloc (Below.refl _ _) _⟩
theorem a_calls (A : Option Addr) (n c : Nat) (w : World) : Calls Tryd.prog 23 #[.slice A n c] w fun e w' => e = .returned (.agg #[.int .i64 5, .string ⟨#[]⟩, .int .i64 0, .slice none 0 0, .slice A n c, .slice none 0 0]) ∧ Below w.heap.size w w' := by
  go_enter Tryd.func23, Tryd.ntmps23
  go_wp2
  refine bodyPost_ret (v := .agg #[.int .i64 5, .string ⟨#[]⟩, .int .i64 0, .slice none 0 0, .slice A n c, .slice none 0 0]) (by simp [results, Tryd.results23, go_sem]) rfl ⟨rfl, below_alloc (Below.refl _ _) _⟩
theorem p_calls (a : ByteArray) (A : Option Addr) (n c : Nat) (w : World) : Calls Tryd.prog 48 #[.string a, .slice A n c] w fun e w' => e = .returned (.agg #[.int .i64 9, .string a, .int .i64 0, .slice none 0 0, .slice A n c, .slice none 0 0]) ∧ Below w.heap.size w w' := by
  go_enter Tryd.func48, Tryd.ntmps48
  go_wp2
  refine bodyPost_ret (v := .agg #[.int .i64 9, .string a, .int .i64 0, .slice none 0 0, .slice A n c, .slice none 0 0]) (by simp [results, Tryd.results48, go_sem]) rfl ⟨rfl, below_alloc (Below.refl _ _) _⟩
theorem d_calls (a : ByteArray) {A : Option Addr} {n c : Nat} {x0 x2 : Int} {x1 : ByteArray} {A3 A4 A5 : Option Addr} {n3 c3 n4 c4 n5 c5 : Nat} (w : World) : Calls Tryd.prog 11 #[.string a, .slice A n c, .agg #[.int .i64 x0, .string x1, .int .i64 x2, .slice A3 n3 c3, .slice A4 n4 c4, .slice A5 n5 c5]] w fun e w' => e = .returned (.agg #[.string a, .slice A n c, .int .i64 x0, .string x1, .int .i64 x2, .slice A3 n3 c3, .slice A4 n4 c4, .slice A5 n5 c5]) ∧ Below w.heap.size w w' := by
  go_enter Tryd.func11, Tryd.ntmps11
  go_wp2
  refine bodyPost_ret (v := .agg #[.string a, .slice A n c, .int .i64 x0, .string x1, .int .i64 x2, .slice A3 n3 c3, .slice A4 n4 c4, .slice A5 n5 c5]) (by simp [results, Tryd.results11, go_sem]) rfl ⟨rfl, below_alloc (below_alloc (Below.refl _ _) _) _⟩
set_option maxHeartbeats 4000000 in
theorem lists_calls (w : World) : Calls Tryd.prog 27 #[] w fun e w' => ∃ A1 A2, e = .returned (.agg #[.string ⟨#[76, 105, 115, 116]⟩, .slice A1 1 1, .slice A2 2 2]) ∧ Below w.heap.size w w' := by
  go_enter Tryd.func27, Tryd.ntmps27
  go_wp2
  refine bodyPost_ret (v := .agg #[.string ⟨#[76, 105, 115, 116]⟩, .slice (some ⟨w.heap.size + 1 + 1, 0, none⟩) 1 1, .slice (some ⟨w.heap.size + 1 + 1 + 1 + 1 + 1, 0, none⟩) 2 2]) (by simp [results, Tryd.results27, go_sem]) rfl ⟨_, _, rfl, below_alloc (below_alloc (below_alloc (below_alloc (below_alloc (below_alloc (Below.refl _ _) _) _) _) _) _) _⟩
theorem far8 (W : World) (b : Nat) (v0 v1 v2 v3 v4 v5 v6 v7 : Value) {j : Nat} (h : j ≠ b) : ((((((((W.setCell ⟨b, 0, none⟩ v0).setCell ⟨b, 1, none⟩ v1).setCell ⟨b, 2, none⟩ v2).setCell ⟨b, 3, none⟩ v3).setCell ⟨b, 4, none⟩ v4).setCell ⟨b, 5, none⟩ v5).setCell ⟨b, 6, none⟩ v6).setCell ⟨b, 7, none⟩ v7).heap[j]? = W.heap[j]? := by
  rw [Below.heap_setCell _ _ _ _ h, Below.heap_setCell _ _ _ _ h, Below.heap_setCell _ _ _ _ h, Below.heap_setCell _ _ _ _ h, Below.heap_setCell _ _ _ _ h, Below.heap_setCell _ _ _ _ h, Below.heap_setCell _ _ _ _ h, Below.heap_setCell _ _ _ _ h]
theorem low8 {w0 W : World} {b : Nat} (hb : Below b w0 W) (v0 v1 v2 v3 v4 v5 v6 v7 : Value) : Below b w0 ((((((((W.setCell ⟨b, 0, none⟩ v0).setCell ⟨b, 1, none⟩ v1).setCell ⟨b, 2, none⟩ v2).setCell ⟨b, 3, none⟩ v3).setCell ⟨b, 4, none⟩ v4).setCell ⟨b, 5, none⟩ v5).setCell ⟨b, 6, none⟩ v6).setCell ⟨b, 7, none⟩ v7) :=
  (((((((hb.setCell (p := ⟨b, 0, none⟩) (Nat.le_refl _) v0).setCell (p := ⟨b, 1, none⟩) (Nat.le_refl _) v1).setCell (p := ⟨b, 2, none⟩) (Nat.le_refl _) v2).setCell (p := ⟨b, 3, none⟩) (Nat.le_refl _) v3).setCell (p := ⟨b, 4, none⟩) (Nat.le_refl _) v4).setCell (p := ⟨b, 5, none⟩) (Nat.le_refl _) v5).setCell (p := ⟨b, 6, none⟩) (Nat.le_refl _) v6).setCell (p := ⟨b, 7, none⟩) (Nat.le_refl _) v7
def sS : ByteArray := ⟨#[115, 117, 109]⟩
def sN : ByteArray := ⟨#[78, 105, 108]⟩
def eV (a : ByteArray) : S29 := ⟨1, a, 0, [], [], []⟩
def eI (n : Int) : S29 := ⟨2, ⟨#[]⟩, n, [], [], []⟩
def eC (a : ByteArray) : S29 := ⟨4, a, 0, [], [], []⟩
def eA (l : List S29) : S29 := ⟨5, ⟨#[]⟩, 0, [], l, []⟩
def eP (a : ByteArray) (l : List S29) : S29 := ⟨9, a, 0, [], l, []⟩
def dSum : S34 := ⟨sS, [⟨#[108]⟩], ⟨8, ⟨#[]⟩, 0, [], [eV ⟨#[108]⟩], [⟨1, sN, 0, [], eI 0⟩, ⟨1, ⟨#[67, 111, 110, 115]⟩, 0, [⟨#[104]⟩, ⟨#[116]⟩], eP ⟨#[43]⟩ [eV ⟨#[104]⟩, eA [eV sS, eV ⟨#[116]⟩]]⟩]⟩⟩
theorem k_0 (w : World) (x0 x2 : Int) (x1 : ByteArray) : k29.K w ⟨x0, x1, x2, [], [], []⟩ [.int .i64 x0, .string x1, .int .i64 x2, .slice none 0 0, .slice none 0 0, .slice none 0 0] :=
  k29_mk w ⟨x0, x1, x2, [], [], []⟩ (Nat.le_refl _) (Kd.C_nil _ _) (Nat.le_refl _) (Kd.C_nil _ _) (Nat.le_refl _) (Kd.C_nil _ _)
set_option maxHeartbeats 8000000 in
set_option maxRecDepth 100000 in
theorem sum_calls (w : World) : Calls Tryd.prog 25 #[] w fun e w' => ∃ A1 A4 A5, e = .returned (.agg #[.string sS, .slice A1 1 1, .int .i64 8, .string ⟨#[]⟩, .int .i64 0, .slice none 0 0, .slice A4 1 1, .slice A5 2 2]) ∧ k34.K w' dSum [.string sS, .slice A1 1 1, .int .i64 8, .string ⟨#[]⟩, .int .i64 0, .slice none 0 0, .slice A4 1 1, .slice A5 2 2] ∧ Below w.heap.size w w' := by
  have E : ∀ W : World, ∀ o : Obj, (W.alloc o).heap.size = W.heap.size + 1 := fun W o => Array.size_push _
  have infDf : (Tryd.prog.info? 34).map (·.size) = some 8 := by kernel_rfl
  go_enter Tryd.func25, Tryd.ntmps25
  have T1 : True := trivial
  go_wp2_with (first | (clear T1; go_at_call 9; go_loud (with_reducible refine (v_calls _ _).mono ?_); rintro e w1 ⟨rfl, hb1⟩; have HB1 := Aside0.mk hb1; clear hb1; have T2 : True := trivial) | (clear T2; go_at_call 8; go_loud (with_reducible refine (i_calls _ _).mono ?_); rintro e w2 ⟨rfl, hb2⟩; have HB2 := Aside0.mk hb2; clear hb2; have T3 : True := trivial) | (clear T3; go_at_call 9; go_loud (with_reducible refine (v_calls _ _).mono ?_); rintro e w3 ⟨rfl, hb3⟩; have HB3 := Aside0.mk hb3; clear hb3; have T4 : True := trivial) | (clear T4; go_at_call 9; go_loud (with_reducible refine (v_calls _ _).mono ?_); rintro e w4 ⟨rfl, hb4⟩; have HB4 := Aside0.mk hb4; clear hb4; have T5 : True := trivial) | (clear T5; go_at_call 9; go_loud (with_reducible refine (v_calls _ _).mono ?_); rintro e w5 ⟨rfl, hb5⟩; have HB5 := Aside0.mk hb5; clear hb5; have T6 : True := trivial) | (clear T6; go_at_call 23; go_loud (with_reducible refine (a_calls _ _ _ _).mono ?_); rintro e w6 ⟨rfl, hb6⟩; have HB6 := Aside0.mk hb6; clear hb6; have T7 : True := trivial) | (clear T7; go_at_call 48; go_loud (with_reducible refine (p_calls _ _ _ _ _).mono ?_); rintro e w7 ⟨rfl, hb7⟩; have HB7 := Aside0.mk hb7; clear hb7; have T8 : True := trivial))
  (with_reducible refine (d_calls _ _).mono ?_)
  rintro e w8 ⟨rfl, hb8⟩
  have HB8 := Aside0.mk hb8
  have c8 := HB8.out
  have c7 := below_step (below_alloc (Below.refl w7.heap.size w7) _) HB8.out
  have c6 := below_step (below_step (below_alloc (Below.refl w6.heap.size w6) _) HB7.out) c7
  have c5 := below_step (below_step (below_alloc (Below.refl w5.heap.size w5) _) HB6.out) c6
  have c4 := below_step HB5.out c5
  have c3 := below_step HB4.out c4
  have c2 := below_step (below_step (below_alloc (Below.refl w2.heap.size w2) _) HB3.out) c3
  have c1 := below_step (below_step (below_alloc (Below.refl w1.heap.size w1) _) HB2.out) c2
  have c0 := below_step HB1.out c1
  have hres := blk_below ((Below.heap_alloc _ _ _ (by rw [E]; omega)).trans (blk_new w _)) c0
  have hx0 := (blk_cell hres 0).trans rfl
  have hf0 := blk_frozen hres 0
  have hx1 := (blk_cell hres 1).trans rfl
  have hf1 := blk_frozen hres 1
  have hx2 := (blk_cell hres 2).trans rfl
  have hf2 := blk_frozen hres 2
  have hx3 := (blk_cell hres 3).trans rfl
  have hf3 := blk_frozen hres 3
  have hx4 := (blk_cell hres 4).trans rfl
  have hf4 := blk_frozen hres 4
  have hx5 := (blk_cell hres 5).trans rfl
  have hf5 := blk_frozen hres 5
  have hx6 := (blk_cell hres 6).trans rfl
  have hf6 := blk_frozen hres 6
  have hx7 := (blk_cell hres 7).trans rfl
  have hf7 := blk_frozen hres 7
  have cw := below_step (below_alloc (below_alloc (Below.refl w.heap.size w) _) _) c0
  have k1 := blk_below (blk_new _ _) c0
  have k2 := blk_below (blk_below (blk_new w1 _) HB2.out) c2
  have k3 := blk_below (blk_below (blk_new w2 _) HB3.out) c3
  have k4 := blk_below (blk_below (blk_new w5 _) HB6.out) c6
  have k5 := blk_below (blk_below (blk_new w6 _) HB7.out) c7
  have k6 := blk_below (blk_new w7 _) c8
  rw [E] at k1
  have l0 := cw.size
  have l1 : w.heap.size < w1.heap.size := by have := HB1.out.size; rw [E, E] at this; omega
  have l2 := c1.size
  have l3 : w1.heap.size ≤ w2.heap.size := by have := HB2.out.size; rw [E] at this; omega
  have l4 : w2.heap.size ≤ w5.heap.size := by have := HB3.out.size; have := HB4.out.size; have := HB5.out.size; rw [E] at *; omega
  have l5 : w5.heap.size ≤ w6.heap.size := by have := HB6.out.size; rw [E] at this; omega
  have l6 : w6.heap.size ≤ w7.heap.size := by have := HB7.out.size; rw [E] at this; omega
  have HK := Aside0.mk (And.intro k1 (And.intro k2 (And.intro k3 (And.intro k4 (And.intro k5 k6)))))
  have HL := Aside0.mk (And.intro l1 (And.intro l3 (And.intro l4 (And.intro l5 l6))))
  have HW := Aside0.mk cw
  clear hres c0 c1 c2 c3 c4 c5 c6 c7 c8 k1 k2 k3 k4 k5 k6 l0 l1 l2 l3 l4 l5 l6 cw HB1 HB2 HB3 HB4 HB5 HB6 HB7 HB8
  go_wp2
  obtain ⟨k1, k2, k3, k4, k5, k6⟩ := HK.out
  obtain ⟨l1, l3, l4, l5, l6⟩ := HL.out
  refine bodyPost_ret (v := .agg #[.string ⟨#[115, 117, 109]⟩, .slice (some ⟨w.heap.size + 1, 0, none⟩) 1 1, .int .i64 8, .string ⟨#[]⟩, .int .i64 0, .slice none 0 0, .slice (some ⟨w1.heap.size, 0, none⟩) 1 1, .slice (some ⟨w7.heap.size, 0, none⟩) 2 2]) (by simp [results, Tryd.results25, go_sem, *]) rfl ⟨_, _, _, rfl, ?_, low8 HW.out _ _ _ _ _ _ _ _⟩
  have q1 := (far8 w8 w.heap.size (.string ⟨#[115, 117, 109]⟩) (.slice (some ⟨w.heap.size + 1, 0, none⟩) 1 1) (.int .i64 8) (.string ⟨#[]⟩) (.int .i64 0) (.slice none 0 0) (.slice (some ⟨w1.heap.size, 0, none⟩) 1 1) (.slice (some ⟨w7.heap.size, 0, none⟩) 2 2) (j := w.heap.size + 1) (by omega)).trans k1
  have q2 := (far8 w8 w.heap.size (.string ⟨#[115, 117, 109]⟩) (.slice (some ⟨w.heap.size + 1, 0, none⟩) 1 1) (.int .i64 8) (.string ⟨#[]⟩) (.int .i64 0) (.slice none 0 0) (.slice (some ⟨w1.heap.size, 0, none⟩) 1 1) (.slice (some ⟨w7.heap.size, 0, none⟩) 2 2) (j := w1.heap.size) (by omega)).trans k2
  have q3 := (far8 w8 w.heap.size (.string ⟨#[115, 117, 109]⟩) (.slice (some ⟨w.heap.size + 1, 0, none⟩) 1 1) (.int .i64 8) (.string ⟨#[]⟩) (.int .i64 0) (.slice none 0 0) (.slice (some ⟨w1.heap.size, 0, none⟩) 1 1) (.slice (some ⟨w7.heap.size, 0, none⟩) 2 2) (j := w2.heap.size) (by omega)).trans k3
  have q4 := (far8 w8 w.heap.size (.string ⟨#[115, 117, 109]⟩) (.slice (some ⟨w.heap.size + 1, 0, none⟩) 1 1) (.int .i64 8) (.string ⟨#[]⟩) (.int .i64 0) (.slice none 0 0) (.slice (some ⟨w1.heap.size, 0, none⟩) 1 1) (.slice (some ⟨w7.heap.size, 0, none⟩) 2 2) (j := w5.heap.size) (by omega)).trans k4
  have q5 := (far8 w8 w.heap.size (.string ⟨#[115, 117, 109]⟩) (.slice (some ⟨w.heap.size + 1, 0, none⟩) 1 1) (.int .i64 8) (.string ⟨#[]⟩) (.int .i64 0) (.slice none 0 0) (.slice (some ⟨w1.heap.size, 0, none⟩) 1 1) (.slice (some ⟨w7.heap.size, 0, none⟩) 2 2) (j := w6.heap.size) (by omega)).trans k5
  have q6 := (far8 w8 w.heap.size (.string ⟨#[115, 117, 109]⟩) (.slice (some ⟨w.heap.size + 1, 0, none⟩) 1 1) (.int .i64 8) (.string ⟨#[]⟩) (.int .i64 0) (.slice none 0 0) (.slice (some ⟨w1.heap.size, 0, none⟩) 1 1) (.slice (some ⟨w7.heap.size, 0, none⟩) 2 2) (j := w7.heap.size) (by omega)).trans k6
  generalize ((((((((w8.setCell ⟨w.heap.size, 0, none⟩ (.string ⟨#[115, 117, 109]⟩)).setCell ⟨w.heap.size, 1, none⟩ (.slice (some ⟨w.heap.size + 1, 0, none⟩) 1 1)).setCell ⟨w.heap.size, 2, none⟩ (.int .i64 8)).setCell ⟨w.heap.size, 3, none⟩ (.string ⟨#[]⟩)).setCell ⟨w.heap.size, 4, none⟩ (.int .i64 0)).setCell ⟨w.heap.size, 5, none⟩ (.slice none 0 0)).setCell ⟨w.heap.size, 6, none⟩ (.slice (some ⟨w1.heap.size, 0, none⟩) 1 1)).setCell ⟨w.heap.size, 7, none⟩ (.slice (some ⟨w7.heap.size, 0, none⟩) 2 2)) = Wf at *
  have g2 : k29.C Wf (some ⟨w1.heap.size, 0, none⟩) 1 [eV ⟨#[108]⟩] := C_cells q2 (Reps.c6 (k_0 _ _ _ _) (Reps.none _ _)) (by decide)
  have g4 : k29.C Wf (some ⟨w5.heap.size, 0, none⟩) 2 [eV sS, eV ⟨#[116]⟩] := C_cells q4 (Reps.c6 (k_0 _ _ _ _) (Reps.c6 (k_0 _ _ _ _) (Reps.none _ _))) (by decide)
  have g5 : k29.C Wf (some ⟨w6.heap.size, 0, none⟩) 2 [eV ⟨#[104]⟩, eA [eV sS, eV ⟨#[116]⟩]] := C_cells q5 (Reps.c6 (k_0 _ _ _ _) (Reps.c6 (k29_mk Wf (eA [eV sS, eV ⟨#[116]⟩]) (Nat.le_refl _) (Kd.C_nil _ _) (Nat.le_refl 2) g4 (Nat.le_refl _) (Kd.C_nil _ _)) (Reps.none _ _))) (by decide)
  have g6 : k88.C Wf (some ⟨w7.heap.size, 0, none⟩) 2 dSum.f2.f5 := C_cells q6 (Reps.c10 (k88_mk Wf ⟨1, sN, 0, [], eI 0⟩ (Nat.le_refl _) (Kd.C_nil _ _) (Nat.le_refl _) (Kd.C_nil _ _) (Nat.le_refl _) (Kd.C_nil _ _) (Nat.le_refl _) (Kd.C_nil _ _)) (Reps.c10 (k88_mk Wf ⟨1, ⟨#[67, 111, 110, 115]⟩, 0, [⟨#[104]⟩, ⟨#[116]⟩], eP ⟨#[43]⟩ [eV ⟨#[104]⟩, eA [eV sS, eV ⟨#[116]⟩]]⟩ (Nat.le_refl 2) (C_strs [⟨#[104]⟩, ⟨#[116]⟩] q3 (by decide)) (Nat.le_refl _) (Kd.C_nil _ _) (Nat.le_refl 2) g5 (Nat.le_refl _) (Kd.C_nil _ _)) (Reps.none _ _))) (by decide)
  exact k34_mk Wf dSum (Nat.le_refl 1) (C_strs [⟨#[108]⟩] q1 (by decide)) (Nat.le_refl _) (Kd.C_nil _ _) (Nat.le_refl 1) g2 (Nat.le_refl 2) g6
end Go.Proofs.YtlgpoigbadajnaaDoor.DepA
