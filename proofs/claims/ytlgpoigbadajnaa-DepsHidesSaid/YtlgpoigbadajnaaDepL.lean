/- The chapter's examples. No condition beyond those that each states. -/
import Derived.Test.YtlgpoigbadajnaaDepK
namespace Go.Proofs.Ytlgpoigbadajnaa.DepA
open Go.RowKit Go.Proofs.YtlgpoigbadajnaaW.PrintWords Go.Proofs.YtlgpoigbadajnaaW.PrintLast Go.Proofs.YtlgpoigbadajnaaW.PrintMore Go.Proofs.Ytlgpoigbadajnaa.PDepA
set_option linter.unusedVariables false
set_option linter.unusedSimpArgs false
def ok3 (ds : List S30) : Bool := okDs ds && okR (allL ds)
theorem groups3_calls {w : World} (ds : List S30) (hok : ok3 ds = true) {R : List (List Int)} (hg : grps (rsL (allL ds)) 2000 [] [] = some R) {Ad Af : Option Addr} {nd cd cf : Nat} (n m : Nat) (hn : n = ds.length) (hm : m = R.length) (hC : Kd.C k30 w Af n ds) :
    Calls Try.prog 17 #[.agg #[.slice Ad nd cd, .slice Af n cf]] w fun e w' => ∃ A c, e = .returned (.slice A m c) ∧ m ≤ c ∧ Kd.C kII w' A R.length R ∧ Below w.heap.size w w' := by
  subst hn hm
  simp only [ok3, Bool.and_eq_true] at hok
  exact groups_calls ds hok.1 hok.2 hg hC
theorem c_ints {W : World} {b : Nat} {e : TypeId} (l : List Int) (hb : W.heap[b]? = some (.cells (l.map (Value.int .i64)).toArray e (0, 0))) (hm : l.length ≤ 9223372036854775807) : Kd.C kI W (some ⟨b, 0, none⟩) l.length l := by
  refine C_cells hb ?_ hm
  have h := Kd.reps_scalar (enc := Value.int .i64) l
  have e1 : encs (Value.int .i64) l = (l.map (Value.int .i64)).toArray.toList := by simp [encs]
  rw [e1] at h
  exact h
theorem same1_calls (x : Int) (w : World) {A B : Option Addr} {c d : Nat} (hA : Kd.C kI w A 1 [x]) (hc : 1 ≤ c) (hB : Kd.C kI w B 1 [x]) (hd : 1 ≤ d) :
    Calls Try.prog 11 #[.slice A 1 c, .slice B 1 d] w fun e w' => e = .returned (.bool true) ∧ Drawn0 w w' :=
  PDepS.gristmillref_SameInts.calls 2 A c [x] B d [x] true w hA hc hB hd (by simp [PDepS.gristmillref_SameInts.f, PDepS.gristmillref_SameInts.l0, wrap64])
def dsF : List S30 := [dSum, ⟨⟨#[109, 97, 105, 110]⟩, [], eA [eV sS, eC sN]⟩]
theorem dsF_ok : ok3 dsF = true := by decide +kernel
theorem dsF_grps : grps (rsL (allL dsF)) 2000 [] [] = some [[0], [1]] := by decide +kernel
set_option maxHeartbeats 16000000 in
set_option maxRecDepth 100000 in
theorem first_calls (w : World) : Calls Try.prog 4 #[] w fun e w' => e = .returned (.bool true) ∧ Below w.heap.size w w' := by
  have T1 : True := trivial
  go_enter Try.func4, Try.ntmps4
  go_wp2_with (first | (clear T1; go_at_call 8; go_loud (with_reducible refine (v_calls _ _).mono ?_); rintro e w1 ⟨rfl, hb1⟩; have HB1 := Aside0.mk hb1; clear hb1; have T2 : True := trivial) | (clear T2; go_at_call 15; go_loud (with_reducible refine (c_calls _ _).mono ?_); rintro e w2 ⟨rfl, hb2⟩; have HB2 := Aside0.mk (below_step HB1.out hb2); clear hb2 HB1; have T3 : True := trivial) | (clear T3; go_at_call 14; go_loud (with_reducible refine (a_calls _ _ _ _).mono ?_); rintro e w3 ⟨rfl, hb3⟩; have hk3 := blk_below (blk_new w2 _) hb3; have hg3 : k28.C w3 (some ⟨w2.heap.size, 0, none⟩) 2 [eV sS, eC sN] := C_cells hk3 (Reps.c6 (k_0 _ _ _ _) (Reps.c6 (k_0 _ _ _ _) (Reps.none _ _))) (by decide); have HG3 := Aside0.mk hg3; have HB3 := Aside0.mk (below_step (below_alloc HB2.out _) hb3); clear hb3 HB2 hk3 hg3; have T4 : True := trivial) | (clear T4; go_at_call 16; go_loud (with_reducible refine (sum_calls _).mono ?_); rintro e w4 ⟨A1, A4, A5, rfl, hks, hb4⟩; have HB4 := Aside0.mk (below_step HB3.out hb4); have HG4 := Aside0.mk (Kd.C_below HG3.out hb4); have hC5 : k30.C (w4.alloc (.cells #[.string sS, .slice A1 1 1, .int .i64 8, .string ⟨#[]⟩, .int .i64 0, .slice none 0 0, .slice A4 1 1, .slice A5 2 2] 30)) (some ⟨w4.heap.size, 0, none⟩) 1 [dSum] := C_cells (blk_new w4 _) (Reps.c8 (heapD.K (fun k hk => Below.heap_alloc _ _ _ hk) hks) (Reps.none _ _)) (by decide); have hK5 := k28_mk (w4.alloc (.cells #[.string sS, .slice A1 1 1, .int .i64 8, .string ⟨#[]⟩, .int .i64 0, .slice none 0 0, .slice A4 1 1, .slice A5 2 2] 30)) (eA [eV sS, eC sN]) (Nat.le_refl _) (Kd.C_nil _ _) (Nat.le_refl 2) (Kd.C_alloc HG4.out _) (Nat.le_refl _) (Kd.C_nil _ _); have CM := main_calls _ (eA [eV sS, eC sN]) hK5 [dSum] (by decide) (c := 1) hC5; dsimp only [eA, List.length_singleton, List.length_nil, List.length_cons, Nat.reduceAdd] at CM; have HB5 := Aside0.mk (below_alloc HB4.out (.cells #[.string sS, .slice A1 1 1, .int .i64 8, .string ⟨#[]⟩, .int .i64 0, .slice none 0 0, .slice A4 1 1, .slice A5 2 2] 30)); clear hb4 hks HB4 HG4 HG3 HB3 hK5 hC5; unfold sS at *; have T5 : True := trivial) | (clear T5; go_at_call 10; go_loud (with_reducible refine (CM).mono ?_); rintro e w6 ⟨B1, B2, c2, rfl, hC6, hb6⟩; have HB6 := Aside0.mk (below_alloc (below_step HB5.out hb6) (.cells #[.slice B1 1 1, .slice B2 2 c2] 39)); have CG := groups3_calls dsF dsF_ok dsF_grps (Ad := B1) (nd := 1) (cd := 1) (cf := c2) 2 2 rfl rfl (Kd.C_alloc (show k30.C w6 B2 2 dsF from hC6) (.cells #[.slice B1 1 1, .slice B2 2 c2] 39)); clear hC6 hb6 HB5 CM; have T6 : True := trivial) | (clear T6; go_at_call 17; go_loud (with_reducible refine (CG).mono ?_); rintro e w7 ⟨G, cg, rfl, hgc, hC7, hb7⟩; have HB7 := Aside0.mk (below_step HB6.out hb7); have HG7 := Aside0.mk hC7; obtain ⟨adg, G0, d0, rfl, hx0, hC0, hd0⟩ := at_row (Below.refl _ _) hC7 0 (by decide); have hx0 : w7.cell? (adg.add 0) = some (.slice G0 1 d0) := hx0; rw [show (adg.add 0) = adg by simp [Addr.add]] at hx0; have CS := same1_calls 0 (w7.alloc (.cells #[.int .i64 0] 3)) (Kd.C_alloc (show kI.C w7 G0 1 [0] from hC0) _) hd0 (c_ints [0] (blk_new w7 _) (by decide)) (Nat.le_refl _); clear hb7 hC7 HB6 CG hC0; have T7 : True := trivial) | (clear T7; go_at_call 11; go_loud (with_reducible refine (CS).mono ?_); rintro e w8 ⟨rfl, hd8⟩; have hb8 := below_step (below_alloc (Below.refl w7.heap.size w7) (.cells #[.int .i64 0] 3)) hd8.below; have HB8 := Aside0.mk (below_step HB7.out hb8); obtain ⟨ad', G1, d1, e1, hx1, hC1, hd1⟩ := at_row hb8 HG7.out 1 (by decide); obtain rfl := Option.some.inj e1; have hx1 : w8.cell? (adg.add 1) = some (.slice G1 1 d1) := hx1; rw [show (adg.add 1) = ⟨adg.block, adg.off + 1, none⟩ by simp [Addr.add]] at hx1; have CS2 := same1_calls 1 (w8.alloc (.cells #[.int .i64 1] 3)) (Kd.C_below (show kI.C w7 G1 1 [1] from hC1) (below_step hb8 (below_alloc (Below.refl _ _) _))) hd1 (c_ints [1] (blk_new w8 _) (by decide)) (Nat.le_refl _); clear hb8 hC1 HB7 CS hd8 hx0 e1; have T8 : True := trivial) | (clear T8; go_at_call 11; go_loud (with_reducible refine (CS2).mono ?_); rintro e w9 ⟨rfl, hd9⟩; have HB9 := Aside0.mk (below_step (below_alloc HB8.out _) hd9.below); clear hd9 CS2 HB8; have T9 : True := trivial))
  go_ret
  exact ⟨rfl, HB9.out⟩
end Go.Proofs.Ytlgpoigbadajnaa.DepA
