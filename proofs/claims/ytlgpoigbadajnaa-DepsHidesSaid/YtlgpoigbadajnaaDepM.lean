/- DepsHides: its walk. No condition beyond those that each states. -/
import Derived.Test.YtlgpoigbadajnaaDepL
namespace Go.Proofs.Ytlgpoigbadajnaa.DepA
open Go.RowKit Go.Proofs.YtlgpoigbadajnaaW.PrintWords Go.Proofs.YtlgpoigbadajnaaW.PrintLast Go.Proofs.YtlgpoigbadajnaaW.PrintMore Go.Proofs.Ytlgpoigbadajnaa.PDepA
set_option linter.unusedVariables false
set_option linter.unusedSimpArgs false
theorem number4 (k : Int) : ∃ r, PDepS.gristmillworld_Number.f k 4 = some r ∧ (r = 0 ∨ r = 1 ∨ r = 2 ∨ r = 3) := by
  unfold PDepS.gristmillworld_Number.f
  rw [if_neg (by decide)]
  have h1 := Int.tmod_lt_of_pos k (b := 4) (by decide)
  have h2 : -4 < Int.tmod k 4 := by
    rcases Int.le_total 0 k with h | h
    · have := Int.tmod_nonneg 4 h; omega
    · have h3 := Int.tmod_lt_of_pos (-k) (b := 4) (by decide)
      rw [Int.neg_tmod] at h3
      omega
  split
  · exact ⟨_, rfl, by unfold wrap64; omega⟩
  · exact ⟨_, rfl, by omega⟩
theorem f_calls (a : ByteArray) (x0 x2 : Int) (x1 : ByteArray) (w : World) : Calls Try.prog 9 #[.string a, .agg #[.int .i64 x0, .string x1, .int .i64 x2, .slice none 0 0, .slice none 0 0, .slice none 0 0]] w fun e w' => ∃ b1 b2, e = .returned (.agg #[.int .i64 6, .string ⟨#[]⟩, .int .i64 0, .slice (some ⟨b1, 0, none⟩) 1 1, .slice (some ⟨b2, 0, none⟩) 1 1, .slice none 0 0]) ∧ w.heap.size ≤ b1 ∧ w.heap.size ≤ b2 ∧ w'.heap[b1]? = some (.cells #[.string a] 9 (0, 0)) ∧ w'.heap[b2]? = some (.cells #[.int .i64 x0, .string x1, .int .i64 x2, .slice none 0 0, .slice none 0 0, .slice none 0 0] 28 (0, 0)) ∧ Below w.heap.size w w' := by
  go_enter Try.func9, Try.ntmps9
  go_wp2
  have E : ∀ W : World, ∀ o : Obj, (W.alloc o).heap.size = W.heap.size + 1 := fun W o => Array.size_push _
  have hb4 := below_alloc (below_alloc (below_alloc (below_alloc (Below.refl w.heap.size w) (.cells #[.int .i64 x0, .string x1, .int .i64 x2, .slice none 0 0, .slice none 0 0, .slice none 0 0] 28)) (.cells #[.int .i64 6, .string ⟨#[]⟩, .int .i64 0, .slice (some ⟨w.heap.size + 1 + 1, 0, none⟩) 1 1, .slice (some ⟨w.heap.size + 1 + 1 + 1, 0, none⟩) 1 1, .slice none 0 0] 28)) (.cells #[.string a] 9)) (.cells #[.int .i64 x0, .string x1, .int .i64 x2, .slice none 0 0, .slice none 0 0, .slice none 0 0] 28)
  refine bodyPost_ret (v := .agg #[.int .i64 6, .string ⟨#[]⟩, .int .i64 0, .slice (some ⟨w.heap.size + 1 + 1, 0, none⟩) 1 1, .slice (some ⟨w.heap.size + 1 + 1 + 1, 0, none⟩) 1 1, .slice none 0 0]) (by simp [results, Try.results9, go_sem]) rfl ⟨w.heap.size + 1 + 1, w.heap.size + 1 + 1 + 1, rfl, by omega, by omega, ?_, ?_, hb4⟩
  · refine (Below.heap_alloc _ _ _ (by rw [E, E, E]; omega)).trans ?_
    have := blk_new ((w.alloc (.cells #[.int .i64 x0, .string x1, .int .i64 x2, .slice none 0 0, .slice none 0 0, .slice none 0 0] 28)).alloc (.cells #[.int .i64 6, .string ⟨#[]⟩, .int .i64 0, .slice (some ⟨w.heap.size + 1 + 1, 0, none⟩) 1 1, .slice (some ⟨w.heap.size + 1 + 1 + 1, 0, none⟩) 1 1, .slice none 0 0] 28)) (.cells #[.string a] 9)
    rwa [E, E] at this
  · have := blk_new (((w.alloc (.cells #[.int .i64 x0, .string x1, .int .i64 x2, .slice none 0 0, .slice none 0 0, .slice none 0 0] 28)).alloc (.cells #[.int .i64 6, .string ⟨#[]⟩, .int .i64 0, .slice (some ⟨w.heap.size + 1 + 1, 0, none⟩) 1 1, .slice (some ⟨w.heap.size + 1 + 1 + 1, 0, none⟩) 1 1, .slice none 0 0] 28)).alloc (.cells #[.string a] 9)) (.cells #[.int .i64 x0, .string x1, .int .i64 x2, .slice none 0 0, .slice none 0 0, .slice none 0 0] 28)
    rwa [E, E, E] at this
theorem twoF {W0 W : World} {b : Nat} {c1 c2 : List Value} {x1 x2 : S30} (h1 : k30.K W0 x1 c1) (h2 : k30.K W0 x2 c2) (hB : Below W0.heap.size W0 W) (hb : W.heap[b]? = some (.cells (c1 ++ c2).toArray 30 (0, 0))) : Kd.F k30 W (fun k => k < W0.heap.size ∨ k = b) (some ⟨b, 0, none⟩) 2 [x1, x2] := by
  intro W' h
  have hlt := (Array.getElem?_eq_some_iff.1 hb).1
  have hup : ∀ k, k < W0.heap.size → W'.heap[k]? = W0.heap[k]? := fun k hk => (h k (.inl hk) (Nat.lt_of_lt_of_le hk hB.size)).trans (hB.block k hk)
  refine C_cells ((h b (.inr rfl) hlt).trans hb) ?_ (by simp)
  rw [List.toList_toArray]
  refine Reps.front (heapD.K hup h1) (k30.K_len h1) (Reps.front (heapD.K hup h2) (k30.K_len h2) (Reps.none _ _) (List.append_nil _)) rfl
def sd : ByteArray := ⟨#[100]⟩
def dD : S30 := ⟨sd, [], eI 1⟩
def dM : S30 := ⟨⟨#[109, 97, 105, 110]⟩, [], eI 1⟩
def fD (k : Int) : S30 := if k = 0 then ⟨⟨#[102]⟩, [sd], eV sd⟩ else if k = 1 then ⟨⟨#[102]⟩, [⟨#[120]⟩], ⟨6, ⟨#[]⟩, 0, [sd], [eV sd], []⟩⟩ else if k = 2 then ⟨⟨#[102]⟩, [⟨#[120]⟩], ⟨7, ⟨#[]⟩, 0, [sd], [eV sd, eV sd], []⟩⟩ else ⟨⟨#[102]⟩, [⟨#[120]⟩], eV sd⟩
def hdOk (k : Int) : Bool := ok3 [dD, fD k, dM] && (decide (usesL [dD, fD k, dM] 1 = if k = 3 then [0] else []) && (decide (usesL [dD, fD k, dM] 2 = []) && decide (needL [dD, fD k, dM] 0 = [0])))
theorem hd_all : hdOk 0 = true ∧ hdOk 1 = true ∧ hdOk 2 = true ∧ hdOk 3 = true := by decide +kernel
theorem hd_at {k : Int} (h : hdOk k = true) : ok3 [dD, fD k, dM] = true ∧ usesL [dD, fD k, dM] 1 = (if k = 3 then [0] else []) ∧ usesL [dD, fD k, dM] 2 = [] ∧ needL [dD, fD k, dM] 0 = [0] := by
  simp only [hdOk, Bool.and_eq_true, decide_eq_true_eq] at h
  exact h
theorem fk_I (W : World) (ok : Nat → Prop) : Kd.FK k28 W ok (eI 1) [.int .i64 2, .string ⟨#[]⟩, .int .i64 1, .slice none 0 0, .slice none 0 0, .slice none 0 0] := by
  intro W' _
  exact k_0 W' 2 1 ⟨#[]⟩
theorem main2_calls {W0 W : World} {b : Nat} {c1 c2 : List Value} {x1 x2 : S30} (h1 : k30.K W0 x1 c1) (h2 : k30.K W0 x2 c2) (hB : Below W0.heap.size W0 W) (hb : W.heap[b]? = some (.cells (c1 ++ c2).toArray 30 (0, 0))) :
    Calls Try.prog 10 #[.agg #[.int .i64 2, .string ⟨#[]⟩, .int .i64 1, .slice none 0 0, .slice none 0 0, .slice none 0 0], .slice (some ⟨b, 0, none⟩) 2 2] W fun e w' => ∃ A1 A2 c2, e = .returned (.agg #[.slice A1 1 1, .slice A2 3 c2]) ∧ Kd.F k30 w' (fun k => ((k < W0.heap.size ∨ k = b) ∧ k < W.heap.size) ∨ W.heap.size ≤ k) A2 3 [x1, x2, dM] ∧ Below W.heap.size W w' :=
  mainF_calls W (ok0 := fun k => k < W0.heap.size ∨ k = b) (eI 1) (fk_I W _) [x1, x2] (by simp) (c := 2) (twoF h1 h2 hB hb)
theorem usesX {w : World} (ds : List S30) (hok : ok3 ds = true) (n m : Nat) (hn : n = ds.length) (k : Nat) (ki : Int) (hki : ki = (k : Int)) (hk : k < ds.length) {r : List Int} (hr : usesL ds k = r) (hm : m = r.length) {Ad Af : Option Addr} {nd cd cf : Nat} (hC : Kd.C k30 w Af n ds) :
    Calls Try.prog 12 #[.agg #[.slice Ad nd cd, .slice Af n cf], .int .i64 ki] w fun e w' => ∃ A c, e = .returned (.slice A m c) ∧ m ≤ c ∧ Kd.C kI w' A m r ∧ Below w.heap.size w w' := by
  subst hn hki hr hm
  simp only [ok3, Bool.and_eq_true] at hok
  have h1 := okDs_at hok.1 hk
  refine (uses_calls ds hC k hk h1.1 (by omega)).mono ?_
  rintro e w' ⟨v, rfl, hr, hb⟩
  obtain ⟨A, c, rfl⟩ := Kd.R_slice hr
  exact ⟨A, c, rfl, (Kd.R_reads' hr).2.1, (Kd.R_reads' hr).2.2, hb⟩
theorem neededX {w : World} (ds : List S30) (hok : ok3 ds = true) (n m : Nat) (hn : n = ds.length) (k : Nat) (ki : Int) (hki : ki = (k : Int)) (hk : k < ds.length) {r : List Int} (hr : needL ds k = r) (hm : m = r.length) {Ad Af : Option Addr} {nd cd cf : Nat} (hC : Kd.C k30 w Af n ds) :
    Calls Try.prog 13 #[.agg #[.slice Ad nd cd, .slice Af n cf], .int .i64 ki] w fun e w' => ∃ A c, e = .returned (.slice A m c) ∧ m ≤ c ∧ Kd.C kI w' A m r ∧ Below w.heap.size w w' := by
  subst hn hki hr hm
  simp only [ok3, Bool.and_eq_true] at hok
  refine (needed1_calls ds hok.1 hok.2 k hk hC).mono ?_
  rintro e w' ⟨v, rfl, hr, hb⟩
  obtain ⟨A, c, rfl⟩ := Kd.R_slice hr
  exact ⟨A, c, rfl, (Kd.R_reads' hr).2.1, (Kd.R_reads' hr).2.2, hb⟩
theorem same0_calls (w : World) {A B : Option Addr} {c d : Nat} :
    Calls Try.prog 11 #[.slice A 0 c, .slice B 0 d] w fun e w' => e = .returned (.bool true) ∧ Drawn0 w w' :=
  PDepS.gristmillref_SameInts.calls 2 A c [] B d [] true w ⟨rfl, by decide, fun h => absurd h (by decide)⟩ (Nat.zero_le _) ⟨rfl, by decide, fun h => absurd h (by decide)⟩ (Nat.zero_le _) (by simp [PDepS.gristmillref_SameInts.f, PDepS.gristmillref_SameInts.l0, wrap64])
set_option maxHeartbeats 16000000 in
set_option maxRecDepth 100000 in
theorem hides_walk0 (k : Int) (w : World) (hr : PDepS.gristmillworld_Number.f k 4 = some 0) : Calls Try.prog 3 #[.int .i64 k] w fun e w' => e = .returned (.bool true) ∧ Below w.heap.size w w' := by
  have E : ∀ W : World, ∀ o : Obj, (W.alloc o).heap.size = W.heap.size + 1 := fun W o => Array.size_push _
  have T1 : True := trivial
  go_enter Try.func3, Try.ntmps3
  go_wp2_with (first | (clear T1; go_at_call 4; go_loud (with_reducible refine (first_calls _).mono ?_); rintro e w1 ⟨rfl, hb1⟩; have HB1 := Aside0.mk hb1; clear hb1; have T2 : True := trivial) | (clear T2; go_at_call 5; go_loud (with_reducible refine (PDepS.gristmillworld_Number.calls k 4 0 _ hr).mono ?_); rintro e w2 ⟨rfl, hd2⟩; have HB2 := Aside0.mk (below_step HB1.out hd2.below); clear hd2 HB1; have T3 : True := trivial) | (clear T3; go_at_call 7; go_loud (with_reducible refine (i_calls _ _).mono ?_); rintro e w3 ⟨rfl, hb3⟩; have HB3 := Aside0.mk (below_step HB2.out hb3); clear hb3 HB2; have T4 : True := trivial) | (clear T4; go_at_call 6; go_loud (with_reducible refine (d_calls _ _).mono ?_); rintro e w4 ⟨rfl, hb4⟩; have HB4 := Aside0.mk (below_step HB3.out hb4); clear hb4 HB3; have T5 : True := trivial) | (clear T5; go_at_call 8; go_loud (with_reducible refine (v_calls _ _).mono ?_); rintro e w5 ⟨rfl, hb5⟩; have l4 : w4.heap.size < w5.heap.size := (by have := hb5.size; rw [E] at this; omega); have L4 := Aside0.mk l4; have k5 := Aside0.mk (blk_below (blk_new w4 (.cells #[.string ⟨#[100]⟩, .slice none 0 0, .int .i64 2, .string ⟨#[]⟩, .int .i64 1, .slice none 0 0, .slice none 0 0, .slice none 0 0] 30 (0, 0))) hb5); have HB5 := Aside0.mk (below_step (below_alloc HB4.out _) hb5); clear hb5 HB4 l4; have T6 : True := trivial))
  (with_reducible refine (d_calls _ _).mono ?_)
  rintro e w6 ⟨rfl, hb6⟩
  have l5 : w5.heap.size + 1 < w6.heap.size := (by have := hb6.size; rw [E, E] at this; omega)
  have kv := Aside0.mk (blk_below (show ((w5.alloc (.cells #[.int .i64 1, .string ⟨#[100]⟩, .int .i64 0, .slice none 0 0, .slice none 0 0, .slice none 0 0] 28)).alloc (.cells #[.string ⟨#[120]⟩] 9)).heap[w5.heap.size]? = some (.cells #[.int .i64 1, .string ⟨#[100]⟩, .int .i64 0, .slice none 0 0, .slice none 0 0, .slice none 0 0] 28 (0, 0)) from (Below.heap_alloc _ _ _ (by rw [E]; omega)).trans (blk_new w5 _)) hb6)
  have kx := Aside0.mk (blk_below (show ((w5.alloc (.cells #[.int .i64 1, .string ⟨#[100]⟩, .int .i64 0, .slice none 0 0, .slice none 0 0, .slice none 0 0] 28)).alloc (.cells #[.string ⟨#[120]⟩] 9)).heap[w5.heap.size + 1]? = some (.cells #[.string ⟨#[120]⟩] 9 (0, 0)) by have := blk_new (w5.alloc (.cells #[.int .i64 1, .string ⟨#[100]⟩, .int .i64 0, .slice none 0 0, .slice none 0 0, .slice none 0 0] 28)) (.cells #[.string ⟨#[120]⟩] 9); rwa [E] at this) hb6)
  have k6 := Aside0.mk (blk_below k5.out (below_step (below_alloc (below_alloc (Below.refl _ _) _) _) hb6))
  have HB6 := Aside0.mk (below_step (below_alloc (below_alloc HB5.out _) _) hb6)
  have L5 := Aside0.mk l5
  clear hb6 HB5 l5 k5
  go_wp2
  obtain ⟨W0, hW0⟩ : ∃ W0, (((w6.alloc (.cells #[.string ⟨#[102]⟩, .slice (some ⟨w6.heap.size + 1 + 1, 0, none⟩) 1 1, .int .i64 1, .string ⟨#[100]⟩, .int .i64 0, .slice none 0 0, .slice none 0 0, .slice none 0 0] 30)).alloc (.cells #[.int .i64 0] 3)).alloc (.cells #[.string ⟨#[100]⟩] 9)) = W0 := ⟨_, rfl⟩
  rw [hW0]
  have hch := (below_alloc (below_alloc (below_alloc (Below.refl w6.heap.size w6) (.cells #[.string ⟨#[102]⟩, .slice (some ⟨w6.heap.size + 1 + 1, 0, none⟩) 1 1, .int .i64 1, .string ⟨#[100]⟩, .int .i64 0, .slice none 0 0, .slice none 0 0, .slice none 0 0] 30)) (.cells #[.int .i64 0] 3)) (.cells #[.string ⟨#[100]⟩] 9))
  rw [hW0] at hch
  have hq0 : W0.heap[w6.heap.size]? = some (.cells #[.string ⟨#[102]⟩, .slice (some ⟨w6.heap.size + 1 + 1, 0, none⟩) 1 1, .int .i64 1, .string ⟨#[100]⟩, .int .i64 0, .slice none 0 0, .slice none 0 0, .slice none 0 0] 30 (0, 0)) := by
    rw [← hW0]
    have h0 := blk_new w6 (.cells #[.string ⟨#[102]⟩, .slice (some ⟨w6.heap.size + 1 + 1, 0, none⟩) 1 1, .int .i64 1, .string ⟨#[100]⟩, .int .i64 0, .slice none 0 0, .slice none 0 0, .slice none 0 0] 30)
    exact (Below.heap_alloc _ _ _ (by simp only [E]; omega)).trans ((Below.heap_alloc _ _ _ (by simp only [E]; omega)).trans (h0))
  have hq1 : W0.heap[w6.heap.size + 1]? = some (.cells #[.int .i64 0] 3 (0, 0)) := by
    rw [← hW0]
    have h0 := blk_new (w6.alloc (.cells #[.string ⟨#[102]⟩, .slice (some ⟨w6.heap.size + 1 + 1, 0, none⟩) 1 1, .int .i64 1, .string ⟨#[100]⟩, .int .i64 0, .slice none 0 0, .slice none 0 0, .slice none 0 0] 30)) (.cells #[.int .i64 0] 3)
    simp only [E] at h0
    exact (Below.heap_alloc _ _ _ (by simp only [E]; omega)).trans (h0)
  have hq2 : W0.heap[w6.heap.size + 1 + 1]? = some (.cells #[.string ⟨#[100]⟩] 9 (0, 0)) := by
    rw [← hW0]
    have h0 := blk_new ((w6.alloc (.cells #[.string ⟨#[102]⟩, .slice (some ⟨w6.heap.size + 1 + 1, 0, none⟩) 1 1, .int .i64 1, .string ⟨#[100]⟩, .int .i64 0, .slice none 0 0, .slice none 0 0, .slice none 0 0] 30)).alloc (.cells #[.int .i64 0] 3)) (.cells #[.string ⟨#[100]⟩] 9)
    simp only [E] at h0
    exact h0
  have hbf := Aside0.mk hq0
  have hbd : Aside0 (W0.heap[w4.heap.size]? = some (.cells #[.string ⟨#[100]⟩, .slice none 0 0, .int .i64 2, .string ⟨#[]⟩, .int .i64 1, .slice none 0 0, .slice none 0 0, .slice none 0 0] 30 (0, 0))) := ⟨blk_below k6.out hch⟩
  have hx1 := blk_below kx.out hch
  have HB0 : Aside0 (Below w.heap.size w W0) := ⟨below_step HB6.out hch⟩
  have hKd : Aside0 (k30.K W0 dD [.string ⟨#[100]⟩, .slice none 0 0, .int .i64 2, .string ⟨#[]⟩, .int .i64 1, .slice none 0 0, .slice none 0 0, .slice none 0 0]) := ⟨k30_mk W0 dD (Nat.le_refl _) (Kd.C_nil _ _) (Nat.le_refl _) (Kd.C_nil _ _) (Nat.le_refl _) (Kd.C_nil _ _) (Nat.le_refl _) (Kd.C_nil _ _)⟩
  have hKf : Aside0 (k30.K W0 (fD 0) [.string ⟨#[102]⟩, .slice (some ⟨w6.heap.size + 1 + 1, 0, none⟩) 1 1, .int .i64 1, .string ⟨#[100]⟩, .int .i64 0, .slice none 0 0, .slice none 0 0, .slice none 0 0]) := ⟨k30_mk W0 (fD 0) (Nat.le_refl 1) (C_strs [sd] hq2 (by decide)) (Nat.le_refl _) (Kd.C_nil _ _) (Nat.le_refl _) (Kd.C_nil _ _) (Nat.le_refl _) (Kd.C_nil _ _)⟩
  clear hW0 hx1 HB6 kx k6 kv hch
  have HB_ : Below W0.heap.size W0 W0.drew := below_drew1 (Below.refl _ _)
  refine start_ (n := 7) (S := fun w' => w'.cell? ⟨w4.heap.size, 0, none⟩ = some (.string ⟨#[100]⟩) ∧ w'.cell? ⟨w4.heap.size, 1, none⟩ = some (.slice none 0 0) ∧ w'.cell? ⟨w4.heap.size, 2, none⟩ = some (.int .i64 2) ∧ w'.cell? ⟨w4.heap.size, 3, none⟩ = some (.string ⟨#[]⟩) ∧ w'.cell? ⟨w4.heap.size, 4, none⟩ = some (.int .i64 1) ∧ w'.cell? ⟨w4.heap.size, 5, none⟩ = some (.slice none 0 0) ∧ w'.cell? ⟨w4.heap.size, 6, none⟩ = some (.slice none 0 0) ∧ w'.cell? ⟨w4.heap.size, 7, none⟩ = some (.slice none 0 0) ∧ w'.cell? ⟨w6.heap.size, 0, none⟩ = some (.string ⟨#[102]⟩) ∧ w'.cell? ⟨w6.heap.size, 1, none⟩ = some (.slice (some ⟨w6.heap.size + 1 + 1, 0, none⟩) 1 1) ∧ w'.cell? ⟨w6.heap.size, 2, none⟩ = some (.int .i64 1) ∧ w'.cell? ⟨w6.heap.size, 3, none⟩ = some (.string ⟨#[100]⟩) ∧ w'.cell? ⟨w6.heap.size, 4, none⟩ = some (.int .i64 0) ∧ w'.cell? ⟨w6.heap.size, 5, none⟩ = some (.slice none 0 0) ∧ w'.cell? ⟨w6.heap.size, 6, none⟩ = some (.slice none 0 0) ∧ w'.cell? ⟨w6.heap.size, 7, none⟩ = some (.slice none 0 0)) (ds := [6]) #[false, false, false, false, false, false, false] (by kernel_rfl) rfl rfl ⟨(blk_cell (blk_below hbd.out HB_) 0).trans rfl, (blk_cell (blk_below hbd.out HB_) 1).trans rfl, (blk_cell (blk_below hbd.out HB_) 2).trans rfl, (blk_cell (blk_below hbd.out HB_) 3).trans rfl, (blk_cell (blk_below hbd.out HB_) 4).trans rfl, (blk_cell (blk_below hbd.out HB_) 5).trans rfl, (blk_cell (blk_below hbd.out HB_) 6).trans rfl, (blk_cell (blk_below hbd.out HB_) 7).trans rfl, (blk_cell (blk_below hbf.out HB_) 0).trans rfl, (blk_cell (blk_below hbf.out HB_) 1).trans rfl, (blk_cell (blk_below hbf.out HB_) 2).trans rfl, (blk_cell (blk_below hbf.out HB_) 3).trans rfl, (blk_cell (blk_below hbf.out HB_) 4).trans rfl, (blk_cell (blk_below hbf.out HB_) 5).trans rfl, (blk_cell (blk_below hbf.out HB_) 6).trans rfl, (blk_cell (blk_below hbf.out HB_) 7).trans rfl⟩ (fun hHeld => ?_)
  generalize W0.drew = W9 at *
  refine take_ (i := 1) (N := some 40) (v := ?_) (a' := ?_) #[false, true, false, false, false, false, false] rfl rfl (by kernel_rfl) (fun _ _ _ h => h) (Or.inl ⟨by rfl, ?_⟩) hHeld ?_ ?_
  rotate_left
  · rintro w' ⟨s0, s1, s2, s3, s4, s5, s6, s7, s8, s9, s10, s11, s12, s13, s14, s15⟩
    go_simp
    with_reducible rfl
  rotate_left
  · simp only [Act.put, List.setIfInBounds_toArray, List.set_cons_zero, List.set_cons_succ, i64_w, i32_w]
    rfl
  refine take_ (i := 2) (N := some 41) (v := ?_) (a' := ?_) #[false, true, true, false, false, false, false] rfl rfl (by kernel_rfl) (fun _ _ _ h => h) (Or.inl ⟨by rfl, ?_⟩) hHeld ?_ ?_
  rotate_left
  · rintro w' ⟨s0, s1, s2, s3, s4, s5, s6, s7, s8, s9, s10, s11, s12, s13, s14, s15⟩
    go_simp
    with_reducible rfl
  rotate_left
  · simp only [Act.put, List.setIfInBounds_toArray, List.set_cons_zero, List.set_cons_succ, i64_w, i32_w]
    rfl
  refine join_ (σ := Nat × Nat × Option Addr × Option Addr × Nat) 1 #[true, true, true, true, true, true, false] (fun s_ => [(39, .agg #[.int .i64 2, .string ⟨#[]⟩, .int .i64 1, .slice none 0 0, .slice none 0 0, .slice none 0 0]), (42, .slice (some ⟨s_.1, 0, none⟩) 2 2), (43, .agg #[.slice s_.2.2.1 1 1, .slice s_.2.2.2.1 3 s_.2.2.2.2]), (8, .pointer (some ⟨s_.2.1, 0, none⟩))]) (fun s_ w' => (Below W0.heap.size W0 w') ∧ (w'.heap[s_.2.1]? = some (.cells #[.slice none 0 0, .slice none 0 0] 39 (0, 0)) ∧ W0.heap.size ≤ s_.2.1) ∧ (Kd.F k30 w' (fun k => k ≠ s_.2.1) s_.2.2.2.1 3 ([dD, fD 0, dM]))) ?_ ?_
  rotate_left
  · intro hJ0_3_4_5
    refine join_ (σ := Nat × Nat × Option Addr × Option Addr × Nat) 2 #[true, true, true, true, true, false, false] (fun s_ => [(39, .agg #[.int .i64 2, .string ⟨#[]⟩, .int .i64 1, .slice none 0 0, .slice none 0 0, .slice none 0 0]), (42, .slice (some ⟨s_.1, 0, none⟩) 2 2), (43, .agg #[.slice s_.2.2.1 1 1, .slice s_.2.2.2.1 3 s_.2.2.2.2])]) (fun s_ w' => (Below W0.heap.size W0 w') ∧ (Kd.F k30 w' (fun k => k < w'.heap.size) s_.2.2.2.1 3 ([dD, fD 0, dM]))) ?_ ?_
    rotate_left
    · intro hJ0_3_4
      refine join_ (σ := Nat × Nat × Option Addr × Option Addr × Nat) 2 #[true, true, true, true, false, true, false] (fun s_ => [(39, .agg #[.int .i64 2, .string ⟨#[]⟩, .int .i64 1, .slice none 0 0, .slice none 0 0, .slice none 0 0]), (42, .slice (some ⟨s_.1, 0, none⟩) 2 2), (8, .pointer (some ⟨s_.2.1, 0, none⟩))]) (fun s_ w' => (Below W0.heap.size W0 w') ∧ (w'.heap[s_.1]? = some (.cells #[.string ⟨#[100]⟩, .slice none 0 0, .int .i64 2, .string ⟨#[]⟩, .int .i64 1, .slice none 0 0, .slice none 0 0, .slice none 0 0, .string ⟨#[102]⟩, .slice (some ⟨w6.heap.size + 1 + 1, 0, none⟩) 1 1, .int .i64 1, .string ⟨#[100]⟩, .int .i64 0, .slice none 0 0, .slice none 0 0, .slice none 0 0] 30 (0, 0)) ∧ W0.heap.size ≤ s_.1) ∧ (w'.heap[s_.2.1]? = some (.cells #[.slice none 0 0, .slice none 0 0] 39 (0, 0)) ∧ W0.heap.size ≤ s_.2.1) ∧ (s_.1 ≠ s_.2.1)) ?_ ?_
      rotate_left
      · intro hJ0_3_5
        refine join_ (σ := Nat × Nat × Option Addr × Option Addr × Nat) 3 #[true, true, true, true, false, false, false] (fun s_ => [(39, .agg #[.int .i64 2, .string ⟨#[]⟩, .int .i64 1, .slice none 0 0, .slice none 0 0, .slice none 0 0]), (42, .slice (some ⟨s_.1, 0, none⟩) 2 2)]) (fun s_ w' => (Below W0.heap.size W0 w') ∧ (w'.heap[s_.1]? = some (.cells #[.string ⟨#[100]⟩, .slice none 0 0, .int .i64 2, .string ⟨#[]⟩, .int .i64 1, .slice none 0 0, .slice none 0 0, .slice none 0 0, .string ⟨#[102]⟩, .slice (some ⟨w6.heap.size + 1 + 1, 0, none⟩) 1 1, .int .i64 1, .string ⟨#[100]⟩, .int .i64 0, .slice none 0 0, .slice none 0 0, .slice none 0 0] 30 (0, 0)) ∧ W0.heap.size ≤ s_.1)) ?_ ?_
        rotate_left
        · intro hJ0_3
          refine join_ (σ := Nat × Nat × Option Addr × Option Addr × Nat) 3 #[true, true, true, false, false, true, false] (fun s_ => [(39, .agg #[.int .i64 2, .string ⟨#[]⟩, .int .i64 1, .slice none 0 0, .slice none 0 0, .slice none 0 0]), (8, .pointer (some ⟨s_.2.1, 0, none⟩))]) (fun s_ w' => (Below W0.heap.size W0 w') ∧ (w'.heap[s_.2.1]? = some (.cells #[.slice none 0 0, .slice none 0 0] 39 (0, 0)) ∧ W0.heap.size ≤ s_.2.1)) ?_ ?_
          rotate_left
          · intro hJ0_5
            refine join_ (σ := Nat × Nat × Option Addr × Option Addr × Nat) 3 #[false, true, true, true, false, true, false] (fun s_ => [(42, .slice (some ⟨s_.1, 0, none⟩) 2 2), (8, .pointer (some ⟨s_.2.1, 0, none⟩))]) (fun s_ w' => (Below W0.heap.size W0 w') ∧ (w'.heap[s_.1]? = some (.cells #[.string ⟨#[100]⟩, .slice none 0 0, .int .i64 2, .string ⟨#[]⟩, .int .i64 1, .slice none 0 0, .slice none 0 0, .slice none 0 0, .string ⟨#[102]⟩, .slice (some ⟨w6.heap.size + 1 + 1, 0, none⟩) 1 1, .int .i64 1, .string ⟨#[100]⟩, .int .i64 0, .slice none 0 0, .slice none 0 0, .slice none 0 0] 30 (0, 0)) ∧ W0.heap.size ≤ s_.1) ∧ (w'.heap[s_.2.1]? = some (.cells #[.slice none 0 0, .slice none 0 0] 39 (0, 0)) ∧ W0.heap.size ≤ s_.2.1) ∧ (s_.1 ≠ s_.2.1)) ?_ ?_
            rotate_left
            · intro hJ3_5
              refine join_ (σ := Nat × Nat × Option Addr × Option Addr × Nat) 4 #[true, true, true, false, false, false, false] (fun s_ => [(39, .agg #[.int .i64 2, .string ⟨#[]⟩, .int .i64 1, .slice none 0 0, .slice none 0 0, .slice none 0 0])]) (fun s_ w' => (Below W0.heap.size W0 w')) ?_ ?_
              rotate_left
              · intro hJ0
                refine join_ (σ := Nat × Nat × Option Addr × Option Addr × Nat) 4 #[false, true, true, true, false, false, false] (fun s_ => [(42, .slice (some ⟨s_.1, 0, none⟩) 2 2)]) (fun s_ w' => (Below W0.heap.size W0 w') ∧ (w'.heap[s_.1]? = some (.cells #[.string ⟨#[100]⟩, .slice none 0 0, .int .i64 2, .string ⟨#[]⟩, .int .i64 1, .slice none 0 0, .slice none 0 0, .slice none 0 0, .string ⟨#[102]⟩, .slice (some ⟨w6.heap.size + 1 + 1, 0, none⟩) 1 1, .int .i64 1, .string ⟨#[100]⟩, .int .i64 0, .slice none 0 0, .slice none 0 0, .slice none 0 0] 30 (0, 0)) ∧ W0.heap.size ≤ s_.1)) ?_ ?_
                rotate_left
                · intro hJ3
                  refine join_ (σ := Nat × Nat × Option Addr × Option Addr × Nat) 4 #[false, true, true, false, false, true, false] (fun s_ => [(8, .pointer (some ⟨s_.2.1, 0, none⟩))]) (fun s_ w' => (Below W0.heap.size W0 w') ∧ (w'.heap[s_.2.1]? = some (.cells #[.slice none 0 0, .slice none 0 0] 39 (0, 0)) ∧ W0.heap.size ≤ s_.2.1)) ?_ ?_
                  rotate_left
                  · intro hJ5
                    refine three_ (i := 0) (j := 3) (k := 5) (Ni := some 39) (Nj := some 42) (Nk := some 8) #[true, true, true, false, false, false, false] #[false, true, true, true, false, false, false] #[false, true, true, false, false, true, false] rfl rfl rfl rfl rfl rfl (by kernel_rfl) (by decide) (by decide) (by decide) (fun K hK => ?_) (fun K hK => ?_) (fun K hK => ?_)
                    · skip
                      refine goes_ Try.func7 (by kernel_rfl) rfl #[.int .i64 1] (by rfl) rfl rfl (by simp only [List.map_toArray, List.map_cons, List.map_nil]; rfl) ?_
                      (with_reducible refine (i_calls 1 W9).mono ?_)
                      rintro e w3 ⟨rfl, hbq⟩
                      refine ⟨_, rfl, ?_⟩
                      have HBn := below_step HB_ hbq
                      refine hK.out _ _ ⟨(blk_cell (blk_below hbd.out HBn) 0).trans rfl, (blk_cell (blk_below hbd.out HBn) 1).trans rfl, (blk_cell (blk_below hbd.out HBn) 2).trans rfl, (blk_cell (blk_below hbd.out HBn) 3).trans rfl, (blk_cell (blk_below hbd.out HBn) 4).trans rfl, (blk_cell (blk_below hbd.out HBn) 5).trans rfl, (blk_cell (blk_below hbd.out HBn) 6).trans rfl, (blk_cell (blk_below hbd.out HBn) 7).trans rfl, (blk_cell (blk_below hbf.out HBn) 0).trans rfl, (blk_cell (blk_below hbf.out HBn) 1).trans rfl, (blk_cell (blk_below hbf.out HBn) 2).trans rfl, (blk_cell (blk_below hbf.out HBn) 3).trans rfl, (blk_cell (blk_below hbf.out HBn) 4).trans rfl, (blk_cell (blk_below hbf.out HBn) 5).trans rfl, (blk_cell (blk_below hbf.out HBn) 6).trans rfl, (blk_cell (blk_below hbf.out HBn) 7).trans rfl⟩ (fun hHeld => ?_)
                      clear hK K
                      refine norm_ (a' := ?_) ?_ ?_
                      rotate_left
                      · show Act.put _ (some 39) _ = _
                        simp only [Act.put, List.setIfInBounds_toArray, List.set_cons_zero, List.set_cons_succ, i64_w, i32_w]
                        rfl
                      exact norm_ (by first | (simp only [putAll, Act.put, List.setIfInBounds_toArray, List.set_cons_zero, List.set_cons_succ]; done) | (simp only [putAll, Act.put, List.setIfInBounds_toArray, List.set_cons_zero, List.set_cons_succ]; rfl)) (hJ0 (0, 0, none, none, 0) _ HBn)
                    · skip
                      refine value_ (w1 := ?_) (v := ?_) (by rfl) rfl ?_ ?_
                      rotate_left 2
                      · go_simp
                        constructor
                        · rfl
                        · rfl
                      have hbq := below_alloc (Below.refl W9.heap.size W9) (.cells #[.string ⟨#[100]⟩, .slice none 0 0, .int .i64 2, .string ⟨#[]⟩, .int .i64 1, .slice none 0 0, .slice none 0 0, .slice none 0 0, .string ⟨#[102]⟩, .slice (some ⟨w6.heap.size + 1 + 1, 0, none⟩) 1 1, .int .i64 1, .string ⟨#[100]⟩, .int .i64 0, .slice none 0 0, .slice none 0 0, .slice none 0 0] 30)
                      have HBn := below_step HB_ hbq
                      refine hK.out _ _ ⟨(blk_cell (blk_below hbd.out HBn) 0).trans rfl, (blk_cell (blk_below hbd.out HBn) 1).trans rfl, (blk_cell (blk_below hbd.out HBn) 2).trans rfl, (blk_cell (blk_below hbd.out HBn) 3).trans rfl, (blk_cell (blk_below hbd.out HBn) 4).trans rfl, (blk_cell (blk_below hbd.out HBn) 5).trans rfl, (blk_cell (blk_below hbd.out HBn) 6).trans rfl, (blk_cell (blk_below hbd.out HBn) 7).trans rfl, (blk_cell (blk_below hbf.out HBn) 0).trans rfl, (blk_cell (blk_below hbf.out HBn) 1).trans rfl, (blk_cell (blk_below hbf.out HBn) 2).trans rfl, (blk_cell (blk_below hbf.out HBn) 3).trans rfl, (blk_cell (blk_below hbf.out HBn) 4).trans rfl, (blk_cell (blk_below hbf.out HBn) 5).trans rfl, (blk_cell (blk_below hbf.out HBn) 6).trans rfl, (blk_cell (blk_below hbf.out HBn) 7).trans rfl⟩ (fun hHeld => ?_)
                      clear hK K
                      refine norm_ (a' := ?_) ?_ ?_
                      rotate_left
                      · show Act.put _ (some 42) _ = _
                        simp only [Act.put, List.setIfInBounds_toArray, List.set_cons_zero, List.set_cons_succ, i64_w, i32_w]
                        rfl
                      exact norm_ (by first | (simp only [putAll, Act.put, List.setIfInBounds_toArray, List.set_cons_zero, List.set_cons_succ]; done) | (simp only [putAll, Act.put, List.setIfInBounds_toArray, List.set_cons_zero, List.set_cons_succ]; rfl)) (hJ3 (W9.heap.size, 0, none, none, 0) _ ⟨HBn, ⟨blk_new W9 _, HB_.size⟩⟩)
                    · skip
                      refine value_ (w1 := ?_) (v := ?_) (by rfl) rfl ?_ ?_
                      rotate_left 2
                      · go_simp
                        constructor
                        · rfl
                        · rfl
                      have hbq := below_alloc (Below.refl W9.heap.size W9) (.cells #[.slice none 0 0, .slice none 0 0] 39)
                      have HBn := below_step HB_ hbq
                      refine hK.out _ _ ⟨(blk_cell (blk_below hbd.out HBn) 0).trans rfl, (blk_cell (blk_below hbd.out HBn) 1).trans rfl, (blk_cell (blk_below hbd.out HBn) 2).trans rfl, (blk_cell (blk_below hbd.out HBn) 3).trans rfl, (blk_cell (blk_below hbd.out HBn) 4).trans rfl, (blk_cell (blk_below hbd.out HBn) 5).trans rfl, (blk_cell (blk_below hbd.out HBn) 6).trans rfl, (blk_cell (blk_below hbd.out HBn) 7).trans rfl, (blk_cell (blk_below hbf.out HBn) 0).trans rfl, (blk_cell (blk_below hbf.out HBn) 1).trans rfl, (blk_cell (blk_below hbf.out HBn) 2).trans rfl, (blk_cell (blk_below hbf.out HBn) 3).trans rfl, (blk_cell (blk_below hbf.out HBn) 4).trans rfl, (blk_cell (blk_below hbf.out HBn) 5).trans rfl, (blk_cell (blk_below hbf.out HBn) 6).trans rfl, (blk_cell (blk_below hbf.out HBn) 7).trans rfl⟩ (fun hHeld => ?_)
                      clear hK K
                      refine norm_ (a' := ?_) ?_ ?_
                      rotate_left
                      · show Act.put _ (some 8) _ = _
                        simp only [Act.put, List.setIfInBounds_toArray, List.set_cons_zero, List.set_cons_succ, i64_w, i32_w]
                        rfl
                      exact norm_ (by first | (simp only [putAll, Act.put, List.setIfInBounds_toArray, List.set_cons_zero, List.set_cons_succ]; done) | (simp only [putAll, Act.put, List.setIfInBounds_toArray, List.set_cons_zero, List.set_cons_succ]; rfl)) (hJ5 (0, W9.heap.size, none, none, 0) _ ⟨HBn, ⟨blk_new W9 _, HB_.size⟩⟩)
                  · skip
                    rintro ⟨b42, b8, B1, B2, c2⟩ W9 ⟨HB_, h5⟩
                    try dsimp only at h5
                    have hHeld : W9.cell? ⟨w4.heap.size, 0, none⟩ = some (.string ⟨#[100]⟩) ∧ W9.cell? ⟨w4.heap.size, 1, none⟩ = some (.slice none 0 0) ∧ W9.cell? ⟨w4.heap.size, 2, none⟩ = some (.int .i64 2) ∧ W9.cell? ⟨w4.heap.size, 3, none⟩ = some (.string ⟨#[]⟩) ∧ W9.cell? ⟨w4.heap.size, 4, none⟩ = some (.int .i64 1) ∧ W9.cell? ⟨w4.heap.size, 5, none⟩ = some (.slice none 0 0) ∧ W9.cell? ⟨w4.heap.size, 6, none⟩ = some (.slice none 0 0) ∧ W9.cell? ⟨w4.heap.size, 7, none⟩ = some (.slice none 0 0) ∧ W9.cell? ⟨w6.heap.size, 0, none⟩ = some (.string ⟨#[102]⟩) ∧ W9.cell? ⟨w6.heap.size, 1, none⟩ = some (.slice (some ⟨w6.heap.size + 1 + 1, 0, none⟩) 1 1) ∧ W9.cell? ⟨w6.heap.size, 2, none⟩ = some (.int .i64 1) ∧ W9.cell? ⟨w6.heap.size, 3, none⟩ = some (.string ⟨#[100]⟩) ∧ W9.cell? ⟨w6.heap.size, 4, none⟩ = some (.int .i64 0) ∧ W9.cell? ⟨w6.heap.size, 5, none⟩ = some (.slice none 0 0) ∧ W9.cell? ⟨w6.heap.size, 6, none⟩ = some (.slice none 0 0) ∧ W9.cell? ⟨w6.heap.size, 7, none⟩ = some (.slice none 0 0) := ⟨(blk_cell (blk_below hbd.out HB_) 0).trans rfl, (blk_cell (blk_below hbd.out HB_) 1).trans rfl, (blk_cell (blk_below hbd.out HB_) 2).trans rfl, (blk_cell (blk_below hbd.out HB_) 3).trans rfl, (blk_cell (blk_below hbd.out HB_) 4).trans rfl, (blk_cell (blk_below hbd.out HB_) 5).trans rfl, (blk_cell (blk_below hbd.out HB_) 6).trans rfl, (blk_cell (blk_below hbd.out HB_) 7).trans rfl, (blk_cell (blk_below hbf.out HB_) 0).trans rfl, (blk_cell (blk_below hbf.out HB_) 1).trans rfl, (blk_cell (blk_below hbf.out HB_) 2).trans rfl, (blk_cell (blk_below hbf.out HB_) 3).trans rfl, (blk_cell (blk_below hbf.out HB_) 4).trans rfl, (blk_cell (blk_below hbf.out HB_) 5).trans rfl, (blk_cell (blk_below hbf.out HB_) 6).trans rfl, (blk_cell (blk_below hbf.out HB_) 7).trans rfl⟩
                    refine norm_ (a' := ?_) ?_ ?_
                    rotate_left
                    · simp only [putAll, Act.put, List.setIfInBounds_toArray, List.set_cons_zero, List.set_cons_succ]
                      rfl
                    refine two_ (i := 0) (j := 3) (Ni := some 39) (Nj := some 42) #[true, true, true, false, false, true, false] #[false, true, true, true, false, true, false] rfl rfl rfl rfl (by kernel_rfl) (by decide) (by decide) (fun K hK => ?_) (fun K hK => ?_)
                    · skip
                      refine goes_ Try.func7 (by kernel_rfl) rfl #[.int .i64 1] (by rfl) rfl rfl (by simp only [List.map_toArray, List.map_cons, List.map_nil]; rfl) ?_
                      (with_reducible refine (i_calls 1 W9).mono ?_)
                      rintro e w3 ⟨rfl, hbq⟩
                      refine ⟨_, rfl, ?_⟩
                      have HBn := below_step HB_ hbq
                      refine hK.out _ _ ⟨(blk_cell (blk_below hbd.out HBn) 0).trans rfl, (blk_cell (blk_below hbd.out HBn) 1).trans rfl, (blk_cell (blk_below hbd.out HBn) 2).trans rfl, (blk_cell (blk_below hbd.out HBn) 3).trans rfl, (blk_cell (blk_below hbd.out HBn) 4).trans rfl, (blk_cell (blk_below hbd.out HBn) 5).trans rfl, (blk_cell (blk_below hbd.out HBn) 6).trans rfl, (blk_cell (blk_below hbd.out HBn) 7).trans rfl, (blk_cell (blk_below hbf.out HBn) 0).trans rfl, (blk_cell (blk_below hbf.out HBn) 1).trans rfl, (blk_cell (blk_below hbf.out HBn) 2).trans rfl, (blk_cell (blk_below hbf.out HBn) 3).trans rfl, (blk_cell (blk_below hbf.out HBn) 4).trans rfl, (blk_cell (blk_below hbf.out HBn) 5).trans rfl, (blk_cell (blk_below hbf.out HBn) 6).trans rfl, (blk_cell (blk_below hbf.out HBn) 7).trans rfl⟩ (fun hHeld => ?_)
                      clear hK K
                      refine norm_ (a' := ?_) ?_ ?_
                      rotate_left
                      · show Act.put _ (some 39) _ = _
                        simp only [Act.put, List.setIfInBounds_toArray, List.set_cons_zero, List.set_cons_succ, i64_w, i32_w]
                        rfl
                      exact norm_ (by first | (simp only [putAll, Act.put, List.setIfInBounds_toArray, List.set_cons_zero, List.set_cons_succ]; done) | (simp only [putAll, Act.put, List.setIfInBounds_toArray, List.set_cons_zero, List.set_cons_succ]; rfl)) (hJ0_5 (b42, b8, B1, B2, c2) _ ⟨HBn, ⟨blk_below h5.1 hbq, h5.2⟩⟩)
                    · skip
                      refine value_ (w1 := ?_) (v := ?_) (by rfl) rfl ?_ ?_
                      rotate_left 2
                      · go_simp
                        constructor
                        · rfl
                        · rfl
                      have hbq := below_alloc (Below.refl W9.heap.size W9) (.cells #[.string ⟨#[100]⟩, .slice none 0 0, .int .i64 2, .string ⟨#[]⟩, .int .i64 1, .slice none 0 0, .slice none 0 0, .slice none 0 0, .string ⟨#[102]⟩, .slice (some ⟨w6.heap.size + 1 + 1, 0, none⟩) 1 1, .int .i64 1, .string ⟨#[100]⟩, .int .i64 0, .slice none 0 0, .slice none 0 0, .slice none 0 0] 30)
                      have HBn := below_step HB_ hbq
                      refine hK.out _ _ ⟨(blk_cell (blk_below hbd.out HBn) 0).trans rfl, (blk_cell (blk_below hbd.out HBn) 1).trans rfl, (blk_cell (blk_below hbd.out HBn) 2).trans rfl, (blk_cell (blk_below hbd.out HBn) 3).trans rfl, (blk_cell (blk_below hbd.out HBn) 4).trans rfl, (blk_cell (blk_below hbd.out HBn) 5).trans rfl, (blk_cell (blk_below hbd.out HBn) 6).trans rfl, (blk_cell (blk_below hbd.out HBn) 7).trans rfl, (blk_cell (blk_below hbf.out HBn) 0).trans rfl, (blk_cell (blk_below hbf.out HBn) 1).trans rfl, (blk_cell (blk_below hbf.out HBn) 2).trans rfl, (blk_cell (blk_below hbf.out HBn) 3).trans rfl, (blk_cell (blk_below hbf.out HBn) 4).trans rfl, (blk_cell (blk_below hbf.out HBn) 5).trans rfl, (blk_cell (blk_below hbf.out HBn) 6).trans rfl, (blk_cell (blk_below hbf.out HBn) 7).trans rfl⟩ (fun hHeld => ?_)
                      clear hK K
                      refine norm_ (a' := ?_) ?_ ?_
                      rotate_left
                      · show Act.put _ (some 42) _ = _
                        simp only [Act.put, List.setIfInBounds_toArray, List.set_cons_zero, List.set_cons_succ, i64_w, i32_w]
                        rfl
                      exact norm_ (by first | (simp only [putAll, Act.put, List.setIfInBounds_toArray, List.set_cons_zero, List.set_cons_succ]; done) | (simp only [putAll, Act.put, List.setIfInBounds_toArray, List.set_cons_zero, List.set_cons_succ]; rfl)) (hJ3_5 (W9.heap.size, b8, B1, B2, c2) _ ⟨HBn, ⟨blk_new W9 _, HB_.size⟩, ⟨blk_below h5.1 hbq, h5.2⟩, fun e => by dsimp only at e; have := (Array.getElem?_eq_some_iff.1 h5.1).1; omega⟩)
                · skip
                  rintro ⟨b42, b8, B1, B2, c2⟩ W9 ⟨HB_, h3⟩
                  try dsimp only at h3
                  have hHeld : W9.cell? ⟨w4.heap.size, 0, none⟩ = some (.string ⟨#[100]⟩) ∧ W9.cell? ⟨w4.heap.size, 1, none⟩ = some (.slice none 0 0) ∧ W9.cell? ⟨w4.heap.size, 2, none⟩ = some (.int .i64 2) ∧ W9.cell? ⟨w4.heap.size, 3, none⟩ = some (.string ⟨#[]⟩) ∧ W9.cell? ⟨w4.heap.size, 4, none⟩ = some (.int .i64 1) ∧ W9.cell? ⟨w4.heap.size, 5, none⟩ = some (.slice none 0 0) ∧ W9.cell? ⟨w4.heap.size, 6, none⟩ = some (.slice none 0 0) ∧ W9.cell? ⟨w4.heap.size, 7, none⟩ = some (.slice none 0 0) ∧ W9.cell? ⟨w6.heap.size, 0, none⟩ = some (.string ⟨#[102]⟩) ∧ W9.cell? ⟨w6.heap.size, 1, none⟩ = some (.slice (some ⟨w6.heap.size + 1 + 1, 0, none⟩) 1 1) ∧ W9.cell? ⟨w6.heap.size, 2, none⟩ = some (.int .i64 1) ∧ W9.cell? ⟨w6.heap.size, 3, none⟩ = some (.string ⟨#[100]⟩) ∧ W9.cell? ⟨w6.heap.size, 4, none⟩ = some (.int .i64 0) ∧ W9.cell? ⟨w6.heap.size, 5, none⟩ = some (.slice none 0 0) ∧ W9.cell? ⟨w6.heap.size, 6, none⟩ = some (.slice none 0 0) ∧ W9.cell? ⟨w6.heap.size, 7, none⟩ = some (.slice none 0 0) := ⟨(blk_cell (blk_below hbd.out HB_) 0).trans rfl, (blk_cell (blk_below hbd.out HB_) 1).trans rfl, (blk_cell (blk_below hbd.out HB_) 2).trans rfl, (blk_cell (blk_below hbd.out HB_) 3).trans rfl, (blk_cell (blk_below hbd.out HB_) 4).trans rfl, (blk_cell (blk_below hbd.out HB_) 5).trans rfl, (blk_cell (blk_below hbd.out HB_) 6).trans rfl, (blk_cell (blk_below hbd.out HB_) 7).trans rfl, (blk_cell (blk_below hbf.out HB_) 0).trans rfl, (blk_cell (blk_below hbf.out HB_) 1).trans rfl, (blk_cell (blk_below hbf.out HB_) 2).trans rfl, (blk_cell (blk_below hbf.out HB_) 3).trans rfl, (blk_cell (blk_below hbf.out HB_) 4).trans rfl, (blk_cell (blk_below hbf.out HB_) 5).trans rfl, (blk_cell (blk_below hbf.out HB_) 6).trans rfl, (blk_cell (blk_below hbf.out HB_) 7).trans rfl⟩
                  refine norm_ (a' := ?_) ?_ ?_
                  rotate_left
                  · simp only [putAll, Act.put, List.setIfInBounds_toArray, List.set_cons_zero, List.set_cons_succ]
                    rfl
                  refine two_ (i := 0) (j := 5) (Ni := some 39) (Nj := some 8) #[true, true, true, true, false, false, false] #[false, true, true, true, false, true, false] rfl rfl rfl rfl (by kernel_rfl) (by decide) (by decide) (fun K hK => ?_) (fun K hK => ?_)
                  · skip
                    refine goes_ Try.func7 (by kernel_rfl) rfl #[.int .i64 1] (by rfl) rfl rfl (by simp only [List.map_toArray, List.map_cons, List.map_nil]; rfl) ?_
                    (with_reducible refine (i_calls 1 W9).mono ?_)
                    rintro e w3 ⟨rfl, hbq⟩
                    refine ⟨_, rfl, ?_⟩
                    have HBn := below_step HB_ hbq
                    refine hK.out _ _ ⟨(blk_cell (blk_below hbd.out HBn) 0).trans rfl, (blk_cell (blk_below hbd.out HBn) 1).trans rfl, (blk_cell (blk_below hbd.out HBn) 2).trans rfl, (blk_cell (blk_below hbd.out HBn) 3).trans rfl, (blk_cell (blk_below hbd.out HBn) 4).trans rfl, (blk_cell (blk_below hbd.out HBn) 5).trans rfl, (blk_cell (blk_below hbd.out HBn) 6).trans rfl, (blk_cell (blk_below hbd.out HBn) 7).trans rfl, (blk_cell (blk_below hbf.out HBn) 0).trans rfl, (blk_cell (blk_below hbf.out HBn) 1).trans rfl, (blk_cell (blk_below hbf.out HBn) 2).trans rfl, (blk_cell (blk_below hbf.out HBn) 3).trans rfl, (blk_cell (blk_below hbf.out HBn) 4).trans rfl, (blk_cell (blk_below hbf.out HBn) 5).trans rfl, (blk_cell (blk_below hbf.out HBn) 6).trans rfl, (blk_cell (blk_below hbf.out HBn) 7).trans rfl⟩ (fun hHeld => ?_)
                    clear hK K
                    refine norm_ (a' := ?_) ?_ ?_
                    rotate_left
                    · show Act.put _ (some 39) _ = _
                      simp only [Act.put, List.setIfInBounds_toArray, List.set_cons_zero, List.set_cons_succ, i64_w, i32_w]
                      rfl
                    exact norm_ (by first | (simp only [putAll, Act.put, List.setIfInBounds_toArray, List.set_cons_zero, List.set_cons_succ]; done) | (simp only [putAll, Act.put, List.setIfInBounds_toArray, List.set_cons_zero, List.set_cons_succ]; rfl)) (hJ0_3 (b42, b8, B1, B2, c2) _ ⟨HBn, ⟨blk_below h3.1 hbq, h3.2⟩⟩)
                  · skip
                    refine value_ (w1 := ?_) (v := ?_) (by rfl) rfl ?_ ?_
                    rotate_left 2
                    · go_simp
                      constructor
                      · rfl
                      · rfl
                    have hbq := below_alloc (Below.refl W9.heap.size W9) (.cells #[.slice none 0 0, .slice none 0 0] 39)
                    have HBn := below_step HB_ hbq
                    refine hK.out _ _ ⟨(blk_cell (blk_below hbd.out HBn) 0).trans rfl, (blk_cell (blk_below hbd.out HBn) 1).trans rfl, (blk_cell (blk_below hbd.out HBn) 2).trans rfl, (blk_cell (blk_below hbd.out HBn) 3).trans rfl, (blk_cell (blk_below hbd.out HBn) 4).trans rfl, (blk_cell (blk_below hbd.out HBn) 5).trans rfl, (blk_cell (blk_below hbd.out HBn) 6).trans rfl, (blk_cell (blk_below hbd.out HBn) 7).trans rfl, (blk_cell (blk_below hbf.out HBn) 0).trans rfl, (blk_cell (blk_below hbf.out HBn) 1).trans rfl, (blk_cell (blk_below hbf.out HBn) 2).trans rfl, (blk_cell (blk_below hbf.out HBn) 3).trans rfl, (blk_cell (blk_below hbf.out HBn) 4).trans rfl, (blk_cell (blk_below hbf.out HBn) 5).trans rfl, (blk_cell (blk_below hbf.out HBn) 6).trans rfl, (blk_cell (blk_below hbf.out HBn) 7).trans rfl⟩ (fun hHeld => ?_)
                    clear hK K
                    refine norm_ (a' := ?_) ?_ ?_
                    rotate_left
                    · show Act.put _ (some 8) _ = _
                      simp only [Act.put, List.setIfInBounds_toArray, List.set_cons_zero, List.set_cons_succ, i64_w, i32_w]
                      rfl
                    exact norm_ (by first | (simp only [putAll, Act.put, List.setIfInBounds_toArray, List.set_cons_zero, List.set_cons_succ]; done) | (simp only [putAll, Act.put, List.setIfInBounds_toArray, List.set_cons_zero, List.set_cons_succ]; rfl)) (hJ3_5 (b42, W9.heap.size, B1, B2, c2) _ ⟨HBn, ⟨blk_below h3.1 hbq, h3.2⟩, ⟨blk_new W9 _, HB_.size⟩, fun e => by dsimp only at e; have := (Array.getElem?_eq_some_iff.1 h3.1).1; omega⟩)
              · skip
                rintro ⟨b42, b8, B1, B2, c2⟩ W9 HB_
                have hHeld : W9.cell? ⟨w4.heap.size, 0, none⟩ = some (.string ⟨#[100]⟩) ∧ W9.cell? ⟨w4.heap.size, 1, none⟩ = some (.slice none 0 0) ∧ W9.cell? ⟨w4.heap.size, 2, none⟩ = some (.int .i64 2) ∧ W9.cell? ⟨w4.heap.size, 3, none⟩ = some (.string ⟨#[]⟩) ∧ W9.cell? ⟨w4.heap.size, 4, none⟩ = some (.int .i64 1) ∧ W9.cell? ⟨w4.heap.size, 5, none⟩ = some (.slice none 0 0) ∧ W9.cell? ⟨w4.heap.size, 6, none⟩ = some (.slice none 0 0) ∧ W9.cell? ⟨w4.heap.size, 7, none⟩ = some (.slice none 0 0) ∧ W9.cell? ⟨w6.heap.size, 0, none⟩ = some (.string ⟨#[102]⟩) ∧ W9.cell? ⟨w6.heap.size, 1, none⟩ = some (.slice (some ⟨w6.heap.size + 1 + 1, 0, none⟩) 1 1) ∧ W9.cell? ⟨w6.heap.size, 2, none⟩ = some (.int .i64 1) ∧ W9.cell? ⟨w6.heap.size, 3, none⟩ = some (.string ⟨#[100]⟩) ∧ W9.cell? ⟨w6.heap.size, 4, none⟩ = some (.int .i64 0) ∧ W9.cell? ⟨w6.heap.size, 5, none⟩ = some (.slice none 0 0) ∧ W9.cell? ⟨w6.heap.size, 6, none⟩ = some (.slice none 0 0) ∧ W9.cell? ⟨w6.heap.size, 7, none⟩ = some (.slice none 0 0) := ⟨(blk_cell (blk_below hbd.out HB_) 0).trans rfl, (blk_cell (blk_below hbd.out HB_) 1).trans rfl, (blk_cell (blk_below hbd.out HB_) 2).trans rfl, (blk_cell (blk_below hbd.out HB_) 3).trans rfl, (blk_cell (blk_below hbd.out HB_) 4).trans rfl, (blk_cell (blk_below hbd.out HB_) 5).trans rfl, (blk_cell (blk_below hbd.out HB_) 6).trans rfl, (blk_cell (blk_below hbd.out HB_) 7).trans rfl, (blk_cell (blk_below hbf.out HB_) 0).trans rfl, (blk_cell (blk_below hbf.out HB_) 1).trans rfl, (blk_cell (blk_below hbf.out HB_) 2).trans rfl, (blk_cell (blk_below hbf.out HB_) 3).trans rfl, (blk_cell (blk_below hbf.out HB_) 4).trans rfl, (blk_cell (blk_below hbf.out HB_) 5).trans rfl, (blk_cell (blk_below hbf.out HB_) 6).trans rfl, (blk_cell (blk_below hbf.out HB_) 7).trans rfl⟩
                refine norm_ (a' := ?_) ?_ ?_
                rotate_left
                · simp only [putAll, Act.put, List.setIfInBounds_toArray, List.set_cons_zero, List.set_cons_succ]
                  rfl
                refine two_ (i := 3) (j := 5) (Ni := some 42) (Nj := some 8) #[true, true, true, true, false, false, false] #[true, true, true, false, false, true, false] rfl rfl rfl rfl (by kernel_rfl) (by decide) (by decide) (fun K hK => ?_) (fun K hK => ?_)
                · skip
                  refine value_ (w1 := ?_) (v := ?_) (by rfl) rfl ?_ ?_
                  rotate_left 2
                  · go_simp
                    constructor
                    · rfl
                    · rfl
                  have hbq := below_alloc (Below.refl W9.heap.size W9) (.cells #[.string ⟨#[100]⟩, .slice none 0 0, .int .i64 2, .string ⟨#[]⟩, .int .i64 1, .slice none 0 0, .slice none 0 0, .slice none 0 0, .string ⟨#[102]⟩, .slice (some ⟨w6.heap.size + 1 + 1, 0, none⟩) 1 1, .int .i64 1, .string ⟨#[100]⟩, .int .i64 0, .slice none 0 0, .slice none 0 0, .slice none 0 0] 30)
                  have HBn := below_step HB_ hbq
                  refine hK.out _ _ ⟨(blk_cell (blk_below hbd.out HBn) 0).trans rfl, (blk_cell (blk_below hbd.out HBn) 1).trans rfl, (blk_cell (blk_below hbd.out HBn) 2).trans rfl, (blk_cell (blk_below hbd.out HBn) 3).trans rfl, (blk_cell (blk_below hbd.out HBn) 4).trans rfl, (blk_cell (blk_below hbd.out HBn) 5).trans rfl, (blk_cell (blk_below hbd.out HBn) 6).trans rfl, (blk_cell (blk_below hbd.out HBn) 7).trans rfl, (blk_cell (blk_below hbf.out HBn) 0).trans rfl, (blk_cell (blk_below hbf.out HBn) 1).trans rfl, (blk_cell (blk_below hbf.out HBn) 2).trans rfl, (blk_cell (blk_below hbf.out HBn) 3).trans rfl, (blk_cell (blk_below hbf.out HBn) 4).trans rfl, (blk_cell (blk_below hbf.out HBn) 5).trans rfl, (blk_cell (blk_below hbf.out HBn) 6).trans rfl, (blk_cell (blk_below hbf.out HBn) 7).trans rfl⟩ (fun hHeld => ?_)
                  clear hK K
                  refine norm_ (a' := ?_) ?_ ?_
                  rotate_left
                  · show Act.put _ (some 42) _ = _
                    simp only [Act.put, List.setIfInBounds_toArray, List.set_cons_zero, List.set_cons_succ, i64_w, i32_w]
                    rfl
                  exact norm_ (by first | (simp only [putAll, Act.put, List.setIfInBounds_toArray, List.set_cons_zero, List.set_cons_succ]; done) | (simp only [putAll, Act.put, List.setIfInBounds_toArray, List.set_cons_zero, List.set_cons_succ]; rfl)) (hJ0_3 (W9.heap.size, b8, B1, B2, c2) _ ⟨HBn, ⟨blk_new W9 _, HB_.size⟩⟩)
                · skip
                  refine value_ (w1 := ?_) (v := ?_) (by rfl) rfl ?_ ?_
                  rotate_left 2
                  · go_simp
                    constructor
                    · rfl
                    · rfl
                  have hbq := below_alloc (Below.refl W9.heap.size W9) (.cells #[.slice none 0 0, .slice none 0 0] 39)
                  have HBn := below_step HB_ hbq
                  refine hK.out _ _ ⟨(blk_cell (blk_below hbd.out HBn) 0).trans rfl, (blk_cell (blk_below hbd.out HBn) 1).trans rfl, (blk_cell (blk_below hbd.out HBn) 2).trans rfl, (blk_cell (blk_below hbd.out HBn) 3).trans rfl, (blk_cell (blk_below hbd.out HBn) 4).trans rfl, (blk_cell (blk_below hbd.out HBn) 5).trans rfl, (blk_cell (blk_below hbd.out HBn) 6).trans rfl, (blk_cell (blk_below hbd.out HBn) 7).trans rfl, (blk_cell (blk_below hbf.out HBn) 0).trans rfl, (blk_cell (blk_below hbf.out HBn) 1).trans rfl, (blk_cell (blk_below hbf.out HBn) 2).trans rfl, (blk_cell (blk_below hbf.out HBn) 3).trans rfl, (blk_cell (blk_below hbf.out HBn) 4).trans rfl, (blk_cell (blk_below hbf.out HBn) 5).trans rfl, (blk_cell (blk_below hbf.out HBn) 6).trans rfl, (blk_cell (blk_below hbf.out HBn) 7).trans rfl⟩ (fun hHeld => ?_)
                  clear hK K
                  refine norm_ (a' := ?_) ?_ ?_
                  rotate_left
                  · show Act.put _ (some 8) _ = _
                    simp only [Act.put, List.setIfInBounds_toArray, List.set_cons_zero, List.set_cons_succ, i64_w, i32_w]
                    rfl
                  exact norm_ (by first | (simp only [putAll, Act.put, List.setIfInBounds_toArray, List.set_cons_zero, List.set_cons_succ]; done) | (simp only [putAll, Act.put, List.setIfInBounds_toArray, List.set_cons_zero, List.set_cons_succ]; rfl)) (hJ0_5 (b42, W9.heap.size, B1, B2, c2) _ ⟨HBn, ⟨blk_new W9 _, HB_.size⟩⟩)
            · skip
              rintro ⟨b42, b8, B1, B2, c2⟩ W9 ⟨HB_, h3, h5, h35⟩
              try dsimp only at h3
              try dsimp only at h5
              try dsimp only at h35
              have hHeld : W9.cell? ⟨w4.heap.size, 0, none⟩ = some (.string ⟨#[100]⟩) ∧ W9.cell? ⟨w4.heap.size, 1, none⟩ = some (.slice none 0 0) ∧ W9.cell? ⟨w4.heap.size, 2, none⟩ = some (.int .i64 2) ∧ W9.cell? ⟨w4.heap.size, 3, none⟩ = some (.string ⟨#[]⟩) ∧ W9.cell? ⟨w4.heap.size, 4, none⟩ = some (.int .i64 1) ∧ W9.cell? ⟨w4.heap.size, 5, none⟩ = some (.slice none 0 0) ∧ W9.cell? ⟨w4.heap.size, 6, none⟩ = some (.slice none 0 0) ∧ W9.cell? ⟨w4.heap.size, 7, none⟩ = some (.slice none 0 0) ∧ W9.cell? ⟨w6.heap.size, 0, none⟩ = some (.string ⟨#[102]⟩) ∧ W9.cell? ⟨w6.heap.size, 1, none⟩ = some (.slice (some ⟨w6.heap.size + 1 + 1, 0, none⟩) 1 1) ∧ W9.cell? ⟨w6.heap.size, 2, none⟩ = some (.int .i64 1) ∧ W9.cell? ⟨w6.heap.size, 3, none⟩ = some (.string ⟨#[100]⟩) ∧ W9.cell? ⟨w6.heap.size, 4, none⟩ = some (.int .i64 0) ∧ W9.cell? ⟨w6.heap.size, 5, none⟩ = some (.slice none 0 0) ∧ W9.cell? ⟨w6.heap.size, 6, none⟩ = some (.slice none 0 0) ∧ W9.cell? ⟨w6.heap.size, 7, none⟩ = some (.slice none 0 0) := ⟨(blk_cell (blk_below hbd.out HB_) 0).trans rfl, (blk_cell (blk_below hbd.out HB_) 1).trans rfl, (blk_cell (blk_below hbd.out HB_) 2).trans rfl, (blk_cell (blk_below hbd.out HB_) 3).trans rfl, (blk_cell (blk_below hbd.out HB_) 4).trans rfl, (blk_cell (blk_below hbd.out HB_) 5).trans rfl, (blk_cell (blk_below hbd.out HB_) 6).trans rfl, (blk_cell (blk_below hbd.out HB_) 7).trans rfl, (blk_cell (blk_below hbf.out HB_) 0).trans rfl, (blk_cell (blk_below hbf.out HB_) 1).trans rfl, (blk_cell (blk_below hbf.out HB_) 2).trans rfl, (blk_cell (blk_below hbf.out HB_) 3).trans rfl, (blk_cell (blk_below hbf.out HB_) 4).trans rfl, (blk_cell (blk_below hbf.out HB_) 5).trans rfl, (blk_cell (blk_below hbf.out HB_) 6).trans rfl, (blk_cell (blk_below hbf.out HB_) 7).trans rfl⟩
              refine norm_ (a' := ?_) ?_ ?_
              rotate_left
              · simp only [putAll, Act.put, List.setIfInBounds_toArray, List.set_cons_zero, List.set_cons_succ]
                rfl
              refine one_ (i := 0) (N := some 39) #[true, true, true, true, false, true, false] rfl rfl (by kernel_rfl) (by decide) (fun K hK => ?_)
              refine goes_ Try.func7 (by kernel_rfl) rfl #[.int .i64 1] (by rfl) rfl rfl (by simp only [List.map_toArray, List.map_cons, List.map_nil]; rfl) ?_
              (with_reducible refine (i_calls 1 W9).mono ?_)
              rintro e w3 ⟨rfl, hbq⟩
              refine ⟨_, rfl, ?_⟩
              have HBn := below_step HB_ hbq
              refine hK.out _ _ ⟨(blk_cell (blk_below hbd.out HBn) 0).trans rfl, (blk_cell (blk_below hbd.out HBn) 1).trans rfl, (blk_cell (blk_below hbd.out HBn) 2).trans rfl, (blk_cell (blk_below hbd.out HBn) 3).trans rfl, (blk_cell (blk_below hbd.out HBn) 4).trans rfl, (blk_cell (blk_below hbd.out HBn) 5).trans rfl, (blk_cell (blk_below hbd.out HBn) 6).trans rfl, (blk_cell (blk_below hbd.out HBn) 7).trans rfl, (blk_cell (blk_below hbf.out HBn) 0).trans rfl, (blk_cell (blk_below hbf.out HBn) 1).trans rfl, (blk_cell (blk_below hbf.out HBn) 2).trans rfl, (blk_cell (blk_below hbf.out HBn) 3).trans rfl, (blk_cell (blk_below hbf.out HBn) 4).trans rfl, (blk_cell (blk_below hbf.out HBn) 5).trans rfl, (blk_cell (blk_below hbf.out HBn) 6).trans rfl, (blk_cell (blk_below hbf.out HBn) 7).trans rfl⟩ (fun hHeld => ?_)
              clear hK K
              refine norm_ (a' := ?_) ?_ ?_
              rotate_left
              · show Act.put _ (some 39) _ = _
                simp only [Act.put, List.setIfInBounds_toArray, List.set_cons_zero, List.set_cons_succ, i64_w, i32_w]
                rfl
              exact norm_ (by first | (simp only [putAll, Act.put, List.setIfInBounds_toArray, List.set_cons_zero, List.set_cons_succ]; done) | (simp only [putAll, Act.put, List.setIfInBounds_toArray, List.set_cons_zero, List.set_cons_succ]; rfl)) (hJ0_3_5 (b42, b8, B1, B2, c2) _ ⟨HBn, ⟨blk_below h3.1 hbq, h3.2⟩, ⟨blk_below h5.1 hbq, h5.2⟩, h35⟩)
          · skip
            rintro ⟨b42, b8, B1, B2, c2⟩ W9 ⟨HB_, h5⟩
            try dsimp only at h5
            have hHeld : W9.cell? ⟨w4.heap.size, 0, none⟩ = some (.string ⟨#[100]⟩) ∧ W9.cell? ⟨w4.heap.size, 1, none⟩ = some (.slice none 0 0) ∧ W9.cell? ⟨w4.heap.size, 2, none⟩ = some (.int .i64 2) ∧ W9.cell? ⟨w4.heap.size, 3, none⟩ = some (.string ⟨#[]⟩) ∧ W9.cell? ⟨w4.heap.size, 4, none⟩ = some (.int .i64 1) ∧ W9.cell? ⟨w4.heap.size, 5, none⟩ = some (.slice none 0 0) ∧ W9.cell? ⟨w4.heap.size, 6, none⟩ = some (.slice none 0 0) ∧ W9.cell? ⟨w4.heap.size, 7, none⟩ = some (.slice none 0 0) ∧ W9.cell? ⟨w6.heap.size, 0, none⟩ = some (.string ⟨#[102]⟩) ∧ W9.cell? ⟨w6.heap.size, 1, none⟩ = some (.slice (some ⟨w6.heap.size + 1 + 1, 0, none⟩) 1 1) ∧ W9.cell? ⟨w6.heap.size, 2, none⟩ = some (.int .i64 1) ∧ W9.cell? ⟨w6.heap.size, 3, none⟩ = some (.string ⟨#[100]⟩) ∧ W9.cell? ⟨w6.heap.size, 4, none⟩ = some (.int .i64 0) ∧ W9.cell? ⟨w6.heap.size, 5, none⟩ = some (.slice none 0 0) ∧ W9.cell? ⟨w6.heap.size, 6, none⟩ = some (.slice none 0 0) ∧ W9.cell? ⟨w6.heap.size, 7, none⟩ = some (.slice none 0 0) := ⟨(blk_cell (blk_below hbd.out HB_) 0).trans rfl, (blk_cell (blk_below hbd.out HB_) 1).trans rfl, (blk_cell (blk_below hbd.out HB_) 2).trans rfl, (blk_cell (blk_below hbd.out HB_) 3).trans rfl, (blk_cell (blk_below hbd.out HB_) 4).trans rfl, (blk_cell (blk_below hbd.out HB_) 5).trans rfl, (blk_cell (blk_below hbd.out HB_) 6).trans rfl, (blk_cell (blk_below hbd.out HB_) 7).trans rfl, (blk_cell (blk_below hbf.out HB_) 0).trans rfl, (blk_cell (blk_below hbf.out HB_) 1).trans rfl, (blk_cell (blk_below hbf.out HB_) 2).trans rfl, (blk_cell (blk_below hbf.out HB_) 3).trans rfl, (blk_cell (blk_below hbf.out HB_) 4).trans rfl, (blk_cell (blk_below hbf.out HB_) 5).trans rfl, (blk_cell (blk_below hbf.out HB_) 6).trans rfl, (blk_cell (blk_below hbf.out HB_) 7).trans rfl⟩
            refine norm_ (a' := ?_) ?_ ?_
            rotate_left
            · simp only [putAll, Act.put, List.setIfInBounds_toArray, List.set_cons_zero, List.set_cons_succ]
              rfl
            refine one_ (i := 3) (N := some 42) #[true, true, true, true, false, true, false] rfl rfl (by kernel_rfl) (by decide) (fun K hK => ?_)
            refine value_ (w1 := ?_) (v := ?_) (by rfl) rfl ?_ ?_
            rotate_left 2
            · go_simp
              constructor
              · rfl
              · rfl
            have hbq := below_alloc (Below.refl W9.heap.size W9) (.cells #[.string ⟨#[100]⟩, .slice none 0 0, .int .i64 2, .string ⟨#[]⟩, .int .i64 1, .slice none 0 0, .slice none 0 0, .slice none 0 0, .string ⟨#[102]⟩, .slice (some ⟨w6.heap.size + 1 + 1, 0, none⟩) 1 1, .int .i64 1, .string ⟨#[100]⟩, .int .i64 0, .slice none 0 0, .slice none 0 0, .slice none 0 0] 30)
            have HBn := below_step HB_ hbq
            refine hK.out _ _ ⟨(blk_cell (blk_below hbd.out HBn) 0).trans rfl, (blk_cell (blk_below hbd.out HBn) 1).trans rfl, (blk_cell (blk_below hbd.out HBn) 2).trans rfl, (blk_cell (blk_below hbd.out HBn) 3).trans rfl, (blk_cell (blk_below hbd.out HBn) 4).trans rfl, (blk_cell (blk_below hbd.out HBn) 5).trans rfl, (blk_cell (blk_below hbd.out HBn) 6).trans rfl, (blk_cell (blk_below hbd.out HBn) 7).trans rfl, (blk_cell (blk_below hbf.out HBn) 0).trans rfl, (blk_cell (blk_below hbf.out HBn) 1).trans rfl, (blk_cell (blk_below hbf.out HBn) 2).trans rfl, (blk_cell (blk_below hbf.out HBn) 3).trans rfl, (blk_cell (blk_below hbf.out HBn) 4).trans rfl, (blk_cell (blk_below hbf.out HBn) 5).trans rfl, (blk_cell (blk_below hbf.out HBn) 6).trans rfl, (blk_cell (blk_below hbf.out HBn) 7).trans rfl⟩ (fun hHeld => ?_)
            clear hK K
            refine norm_ (a' := ?_) ?_ ?_
            rotate_left
            · show Act.put _ (some 42) _ = _
              simp only [Act.put, List.setIfInBounds_toArray, List.set_cons_zero, List.set_cons_succ, i64_w, i32_w]
              rfl
            exact norm_ (by first | (simp only [putAll, Act.put, List.setIfInBounds_toArray, List.set_cons_zero, List.set_cons_succ]; done) | (simp only [putAll, Act.put, List.setIfInBounds_toArray, List.set_cons_zero, List.set_cons_succ]; rfl)) (hJ0_3_5 (W9.heap.size, b8, B1, B2, c2) _ ⟨HBn, ⟨blk_new W9 _, HB_.size⟩, ⟨blk_below h5.1 hbq, h5.2⟩, fun e => by dsimp only at e; have := (Array.getElem?_eq_some_iff.1 h5.1).1; omega⟩)
        · skip
          rintro ⟨b42, b8, B1, B2, c2⟩ W9 ⟨HB_, h3⟩
          try dsimp only at h3
          have hHeld : W9.cell? ⟨w4.heap.size, 0, none⟩ = some (.string ⟨#[100]⟩) ∧ W9.cell? ⟨w4.heap.size, 1, none⟩ = some (.slice none 0 0) ∧ W9.cell? ⟨w4.heap.size, 2, none⟩ = some (.int .i64 2) ∧ W9.cell? ⟨w4.heap.size, 3, none⟩ = some (.string ⟨#[]⟩) ∧ W9.cell? ⟨w4.heap.size, 4, none⟩ = some (.int .i64 1) ∧ W9.cell? ⟨w4.heap.size, 5, none⟩ = some (.slice none 0 0) ∧ W9.cell? ⟨w4.heap.size, 6, none⟩ = some (.slice none 0 0) ∧ W9.cell? ⟨w4.heap.size, 7, none⟩ = some (.slice none 0 0) ∧ W9.cell? ⟨w6.heap.size, 0, none⟩ = some (.string ⟨#[102]⟩) ∧ W9.cell? ⟨w6.heap.size, 1, none⟩ = some (.slice (some ⟨w6.heap.size + 1 + 1, 0, none⟩) 1 1) ∧ W9.cell? ⟨w6.heap.size, 2, none⟩ = some (.int .i64 1) ∧ W9.cell? ⟨w6.heap.size, 3, none⟩ = some (.string ⟨#[100]⟩) ∧ W9.cell? ⟨w6.heap.size, 4, none⟩ = some (.int .i64 0) ∧ W9.cell? ⟨w6.heap.size, 5, none⟩ = some (.slice none 0 0) ∧ W9.cell? ⟨w6.heap.size, 6, none⟩ = some (.slice none 0 0) ∧ W9.cell? ⟨w6.heap.size, 7, none⟩ = some (.slice none 0 0) := ⟨(blk_cell (blk_below hbd.out HB_) 0).trans rfl, (blk_cell (blk_below hbd.out HB_) 1).trans rfl, (blk_cell (blk_below hbd.out HB_) 2).trans rfl, (blk_cell (blk_below hbd.out HB_) 3).trans rfl, (blk_cell (blk_below hbd.out HB_) 4).trans rfl, (blk_cell (blk_below hbd.out HB_) 5).trans rfl, (blk_cell (blk_below hbd.out HB_) 6).trans rfl, (blk_cell (blk_below hbd.out HB_) 7).trans rfl, (blk_cell (blk_below hbf.out HB_) 0).trans rfl, (blk_cell (blk_below hbf.out HB_) 1).trans rfl, (blk_cell (blk_below hbf.out HB_) 2).trans rfl, (blk_cell (blk_below hbf.out HB_) 3).trans rfl, (blk_cell (blk_below hbf.out HB_) 4).trans rfl, (blk_cell (blk_below hbf.out HB_) 5).trans rfl, (blk_cell (blk_below hbf.out HB_) 6).trans rfl, (blk_cell (blk_below hbf.out HB_) 7).trans rfl⟩
          refine norm_ (a' := ?_) ?_ ?_
          rotate_left
          · simp only [putAll, Act.put, List.setIfInBounds_toArray, List.set_cons_zero, List.set_cons_succ]
            rfl
          refine two_ (i := 4) (j := 5) (Ni := some 43) (Nj := some 8) #[true, true, true, true, true, false, false] #[true, true, true, true, false, true, false] rfl rfl rfl rfl (by kernel_rfl) (by decide) (by decide) (fun K hK => ?_) (fun K hK => ?_)
          · skip
            obtain ⟨h3b, h3l⟩ := h3
            refine goes_ Try.func10 (by kernel_rfl) rfl #[.agg #[.int .i64 2, .string ⟨#[]⟩, .int .i64 1, .slice none 0 0, .slice none 0 0, .slice none 0 0], .slice (some ⟨b42, 0, none⟩) 2 2] (by rfl) rfl rfl (by simp only [List.map_toArray, List.map_cons, List.map_nil]; rfl) ?_
            (with_reducible refine (main2_calls hKd.out hKf.out HB_ h3b).mono ?_)
            rintro e w3 ⟨B1, B2, c2, rfl, hF, hbq⟩
            refine ⟨_, rfl, ?_⟩
            have HBn := below_step HB_ hbq
            have hF : Kd.F k30 w3 _ B2 3 ([dD, fD 0, dM]) := hF
            refine hK.out _ _ ⟨(blk_cell (blk_below hbd.out HBn) 0).trans rfl, (blk_cell (blk_below hbd.out HBn) 1).trans rfl, (blk_cell (blk_below hbd.out HBn) 2).trans rfl, (blk_cell (blk_below hbd.out HBn) 3).trans rfl, (blk_cell (blk_below hbd.out HBn) 4).trans rfl, (blk_cell (blk_below hbd.out HBn) 5).trans rfl, (blk_cell (blk_below hbd.out HBn) 6).trans rfl, (blk_cell (blk_below hbd.out HBn) 7).trans rfl, (blk_cell (blk_below hbf.out HBn) 0).trans rfl, (blk_cell (blk_below hbf.out HBn) 1).trans rfl, (blk_cell (blk_below hbf.out HBn) 2).trans rfl, (blk_cell (blk_below hbf.out HBn) 3).trans rfl, (blk_cell (blk_below hbf.out HBn) 4).trans rfl, (blk_cell (blk_below hbf.out HBn) 5).trans rfl, (blk_cell (blk_below hbf.out HBn) 6).trans rfl, (blk_cell (blk_below hbf.out HBn) 7).trans rfl⟩ (fun hHeld => ?_)
            clear hK K
            refine norm_ (a' := ?_) ?_ ?_
            rotate_left
            · show Act.put _ (some 43) _ = _
              simp only [Act.put, List.setIfInBounds_toArray, List.set_cons_zero, List.set_cons_succ, i64_w, i32_w]
              rfl
            exact norm_ (by first | (simp only [putAll, Act.put, List.setIfInBounds_toArray, List.set_cons_zero, List.set_cons_succ]; done) | (simp only [putAll, Act.put, List.setIfInBounds_toArray, List.set_cons_zero, List.set_cons_succ]; rfl)) (hJ0_3_4 (b42, b8, B1, B2, c2) _ ⟨HBn, Kd.F_mono (Kd.F_bound hF) (fun k hk => hk.2)⟩)
          · skip
            refine value_ (w1 := ?_) (v := ?_) (by rfl) rfl ?_ ?_
            rotate_left 2
            · go_simp
              constructor
              · rfl
              · rfl
            have hbq := below_alloc (Below.refl W9.heap.size W9) (.cells #[.slice none 0 0, .slice none 0 0] 39)
            have HBn := below_step HB_ hbq
            refine hK.out _ _ ⟨(blk_cell (blk_below hbd.out HBn) 0).trans rfl, (blk_cell (blk_below hbd.out HBn) 1).trans rfl, (blk_cell (blk_below hbd.out HBn) 2).trans rfl, (blk_cell (blk_below hbd.out HBn) 3).trans rfl, (blk_cell (blk_below hbd.out HBn) 4).trans rfl, (blk_cell (blk_below hbd.out HBn) 5).trans rfl, (blk_cell (blk_below hbd.out HBn) 6).trans rfl, (blk_cell (blk_below hbd.out HBn) 7).trans rfl, (blk_cell (blk_below hbf.out HBn) 0).trans rfl, (blk_cell (blk_below hbf.out HBn) 1).trans rfl, (blk_cell (blk_below hbf.out HBn) 2).trans rfl, (blk_cell (blk_below hbf.out HBn) 3).trans rfl, (blk_cell (blk_below hbf.out HBn) 4).trans rfl, (blk_cell (blk_below hbf.out HBn) 5).trans rfl, (blk_cell (blk_below hbf.out HBn) 6).trans rfl, (blk_cell (blk_below hbf.out HBn) 7).trans rfl⟩ (fun hHeld => ?_)
            clear hK K
            refine norm_ (a' := ?_) ?_ ?_
            rotate_left
            · show Act.put _ (some 8) _ = _
              simp only [Act.put, List.setIfInBounds_toArray, List.set_cons_zero, List.set_cons_succ, i64_w, i32_w]
              rfl
            exact norm_ (by first | (simp only [putAll, Act.put, List.setIfInBounds_toArray, List.set_cons_zero, List.set_cons_succ]; done) | (simp only [putAll, Act.put, List.setIfInBounds_toArray, List.set_cons_zero, List.set_cons_succ]; rfl)) (hJ0_3_5 (b42, W9.heap.size, B1, B2, c2) _ ⟨HBn, ⟨blk_below h3.1 hbq, h3.2⟩, ⟨blk_new W9 _, HB_.size⟩, fun e => by dsimp only at e; have := (Array.getElem?_eq_some_iff.1 h3.1).1; omega⟩)
      · skip
        rintro ⟨b42, b8, B1, B2, c2⟩ W9 ⟨HB_, h3, h5, h35⟩
        try dsimp only at h3
        try dsimp only at h5
        try dsimp only at h35
        have hHeld : W9.cell? ⟨w4.heap.size, 0, none⟩ = some (.string ⟨#[100]⟩) ∧ W9.cell? ⟨w4.heap.size, 1, none⟩ = some (.slice none 0 0) ∧ W9.cell? ⟨w4.heap.size, 2, none⟩ = some (.int .i64 2) ∧ W9.cell? ⟨w4.heap.size, 3, none⟩ = some (.string ⟨#[]⟩) ∧ W9.cell? ⟨w4.heap.size, 4, none⟩ = some (.int .i64 1) ∧ W9.cell? ⟨w4.heap.size, 5, none⟩ = some (.slice none 0 0) ∧ W9.cell? ⟨w4.heap.size, 6, none⟩ = some (.slice none 0 0) ∧ W9.cell? ⟨w4.heap.size, 7, none⟩ = some (.slice none 0 0) ∧ W9.cell? ⟨w6.heap.size, 0, none⟩ = some (.string ⟨#[102]⟩) ∧ W9.cell? ⟨w6.heap.size, 1, none⟩ = some (.slice (some ⟨w6.heap.size + 1 + 1, 0, none⟩) 1 1) ∧ W9.cell? ⟨w6.heap.size, 2, none⟩ = some (.int .i64 1) ∧ W9.cell? ⟨w6.heap.size, 3, none⟩ = some (.string ⟨#[100]⟩) ∧ W9.cell? ⟨w6.heap.size, 4, none⟩ = some (.int .i64 0) ∧ W9.cell? ⟨w6.heap.size, 5, none⟩ = some (.slice none 0 0) ∧ W9.cell? ⟨w6.heap.size, 6, none⟩ = some (.slice none 0 0) ∧ W9.cell? ⟨w6.heap.size, 7, none⟩ = some (.slice none 0 0) := ⟨(blk_cell (blk_below hbd.out HB_) 0).trans rfl, (blk_cell (blk_below hbd.out HB_) 1).trans rfl, (blk_cell (blk_below hbd.out HB_) 2).trans rfl, (blk_cell (blk_below hbd.out HB_) 3).trans rfl, (blk_cell (blk_below hbd.out HB_) 4).trans rfl, (blk_cell (blk_below hbd.out HB_) 5).trans rfl, (blk_cell (blk_below hbd.out HB_) 6).trans rfl, (blk_cell (blk_below hbd.out HB_) 7).trans rfl, (blk_cell (blk_below hbf.out HB_) 0).trans rfl, (blk_cell (blk_below hbf.out HB_) 1).trans rfl, (blk_cell (blk_below hbf.out HB_) 2).trans rfl, (blk_cell (blk_below hbf.out HB_) 3).trans rfl, (blk_cell (blk_below hbf.out HB_) 4).trans rfl, (blk_cell (blk_below hbf.out HB_) 5).trans rfl, (blk_cell (blk_below hbf.out HB_) 6).trans rfl, (blk_cell (blk_below hbf.out HB_) 7).trans rfl⟩
        refine norm_ (a' := ?_) ?_ ?_
        rotate_left
        · simp only [putAll, Act.put, List.setIfInBounds_toArray, List.set_cons_zero, List.set_cons_succ]
          rfl
        refine one_ (i := 4) (N := some 43) #[true, true, true, true, true, true, false] rfl rfl (by kernel_rfl) (by decide) (fun K hK => ?_)
        obtain ⟨h3b, h3l⟩ := h3
        refine goes_ Try.func10 (by kernel_rfl) rfl #[.agg #[.int .i64 2, .string ⟨#[]⟩, .int .i64 1, .slice none 0 0, .slice none 0 0, .slice none 0 0], .slice (some ⟨b42, 0, none⟩) 2 2] (by rfl) rfl rfl (by simp only [List.map_toArray, List.map_cons, List.map_nil]; rfl) ?_
        (with_reducible refine (main2_calls hKd.out hKf.out HB_ h3b).mono ?_)
        rintro e w3 ⟨B1, B2, c2, rfl, hF, hbq⟩
        refine ⟨_, rfl, ?_⟩
        have HBn := below_step HB_ hbq
        have hF : Kd.F k30 w3 _ B2 3 ([dD, fD 0, dM]) := hF
        refine hK.out _ _ ⟨(blk_cell (blk_below hbd.out HBn) 0).trans rfl, (blk_cell (blk_below hbd.out HBn) 1).trans rfl, (blk_cell (blk_below hbd.out HBn) 2).trans rfl, (blk_cell (blk_below hbd.out HBn) 3).trans rfl, (blk_cell (blk_below hbd.out HBn) 4).trans rfl, (blk_cell (blk_below hbd.out HBn) 5).trans rfl, (blk_cell (blk_below hbd.out HBn) 6).trans rfl, (blk_cell (blk_below hbd.out HBn) 7).trans rfl, (blk_cell (blk_below hbf.out HBn) 0).trans rfl, (blk_cell (blk_below hbf.out HBn) 1).trans rfl, (blk_cell (blk_below hbf.out HBn) 2).trans rfl, (blk_cell (blk_below hbf.out HBn) 3).trans rfl, (blk_cell (blk_below hbf.out HBn) 4).trans rfl, (blk_cell (blk_below hbf.out HBn) 5).trans rfl, (blk_cell (blk_below hbf.out HBn) 6).trans rfl, (blk_cell (blk_below hbf.out HBn) 7).trans rfl⟩ (fun hHeld => ?_)
        clear hK K
        refine norm_ (a' := ?_) ?_ ?_
        rotate_left
        · show Act.put _ (some 43) _ = _
          simp only [Act.put, List.setIfInBounds_toArray, List.set_cons_zero, List.set_cons_succ, i64_w, i32_w]
          rfl
        exact norm_ (by first | (simp only [putAll, Act.put, List.setIfInBounds_toArray, List.set_cons_zero, List.set_cons_succ]; done) | (simp only [putAll, Act.put, List.setIfInBounds_toArray, List.set_cons_zero, List.set_cons_succ]; rfl)) (hJ0_3_4_5 (b42, b8, B1, B2, c2) _ ⟨HBn, ⟨blk_below h5.1 hbq, h5.2⟩, Kd.F_mono hF (fun k hk e => by dsimp only at e; have := h5.2; have := (Array.getElem?_eq_some_iff.1 h5.1).1; rcases hk with ⟨hk | hk, _⟩ | hk; omega; exact h35 (hk.symm.trans e); omega)⟩)
    · skip
      rintro ⟨b42, b8, B1, B2, c2⟩ W9 ⟨HB_, h4⟩
      try dsimp only at h4
      have hHeld : W9.cell? ⟨w4.heap.size, 0, none⟩ = some (.string ⟨#[100]⟩) ∧ W9.cell? ⟨w4.heap.size, 1, none⟩ = some (.slice none 0 0) ∧ W9.cell? ⟨w4.heap.size, 2, none⟩ = some (.int .i64 2) ∧ W9.cell? ⟨w4.heap.size, 3, none⟩ = some (.string ⟨#[]⟩) ∧ W9.cell? ⟨w4.heap.size, 4, none⟩ = some (.int .i64 1) ∧ W9.cell? ⟨w4.heap.size, 5, none⟩ = some (.slice none 0 0) ∧ W9.cell? ⟨w4.heap.size, 6, none⟩ = some (.slice none 0 0) ∧ W9.cell? ⟨w4.heap.size, 7, none⟩ = some (.slice none 0 0) ∧ W9.cell? ⟨w6.heap.size, 0, none⟩ = some (.string ⟨#[102]⟩) ∧ W9.cell? ⟨w6.heap.size, 1, none⟩ = some (.slice (some ⟨w6.heap.size + 1 + 1, 0, none⟩) 1 1) ∧ W9.cell? ⟨w6.heap.size, 2, none⟩ = some (.int .i64 1) ∧ W9.cell? ⟨w6.heap.size, 3, none⟩ = some (.string ⟨#[100]⟩) ∧ W9.cell? ⟨w6.heap.size, 4, none⟩ = some (.int .i64 0) ∧ W9.cell? ⟨w6.heap.size, 5, none⟩ = some (.slice none 0 0) ∧ W9.cell? ⟨w6.heap.size, 6, none⟩ = some (.slice none 0 0) ∧ W9.cell? ⟨w6.heap.size, 7, none⟩ = some (.slice none 0 0) := ⟨(blk_cell (blk_below hbd.out HB_) 0).trans rfl, (blk_cell (blk_below hbd.out HB_) 1).trans rfl, (blk_cell (blk_below hbd.out HB_) 2).trans rfl, (blk_cell (blk_below hbd.out HB_) 3).trans rfl, (blk_cell (blk_below hbd.out HB_) 4).trans rfl, (blk_cell (blk_below hbd.out HB_) 5).trans rfl, (blk_cell (blk_below hbd.out HB_) 6).trans rfl, (blk_cell (blk_below hbd.out HB_) 7).trans rfl, (blk_cell (blk_below hbf.out HB_) 0).trans rfl, (blk_cell (blk_below hbf.out HB_) 1).trans rfl, (blk_cell (blk_below hbf.out HB_) 2).trans rfl, (blk_cell (blk_below hbf.out HB_) 3).trans rfl, (blk_cell (blk_below hbf.out HB_) 4).trans rfl, (blk_cell (blk_below hbf.out HB_) 5).trans rfl, (blk_cell (blk_below hbf.out HB_) 6).trans rfl, (blk_cell (blk_below hbf.out HB_) 7).trans rfl⟩
      refine norm_ (a' := ?_) ?_ ?_
      rotate_left
      · simp only [putAll, Act.put, List.setIfInBounds_toArray, List.set_cons_zero, List.set_cons_succ]
        rfl
      refine one_ (i := 5) (N := some 8) #[true, true, true, true, true, true, false] rfl rfl (by kernel_rfl) (by decide) (fun K hK => ?_)
      refine value_ (w1 := ?_) (v := ?_) (by rfl) rfl ?_ ?_
      rotate_left 2
      · go_simp
        constructor
        · rfl
        · rfl
      have hbq := below_alloc (Below.refl W9.heap.size W9) (.cells #[.slice none 0 0, .slice none 0 0] 39)
      have HBn := below_step HB_ hbq
      refine hK.out _ _ ⟨(blk_cell (blk_below hbd.out HBn) 0).trans rfl, (blk_cell (blk_below hbd.out HBn) 1).trans rfl, (blk_cell (blk_below hbd.out HBn) 2).trans rfl, (blk_cell (blk_below hbd.out HBn) 3).trans rfl, (blk_cell (blk_below hbd.out HBn) 4).trans rfl, (blk_cell (blk_below hbd.out HBn) 5).trans rfl, (blk_cell (blk_below hbd.out HBn) 6).trans rfl, (blk_cell (blk_below hbd.out HBn) 7).trans rfl, (blk_cell (blk_below hbf.out HBn) 0).trans rfl, (blk_cell (blk_below hbf.out HBn) 1).trans rfl, (blk_cell (blk_below hbf.out HBn) 2).trans rfl, (blk_cell (blk_below hbf.out HBn) 3).trans rfl, (blk_cell (blk_below hbf.out HBn) 4).trans rfl, (blk_cell (blk_below hbf.out HBn) 5).trans rfl, (blk_cell (blk_below hbf.out HBn) 6).trans rfl, (blk_cell (blk_below hbf.out HBn) 7).trans rfl⟩ (fun hHeld => ?_)
      clear hK K
      refine norm_ (a' := ?_) ?_ ?_
      rotate_left
      · show Act.put _ (some 8) _ = _
        simp only [Act.put, List.setIfInBounds_toArray, List.set_cons_zero, List.set_cons_succ, i64_w, i32_w]
        rfl
      exact norm_ (by first | (simp only [putAll, Act.put, List.setIfInBounds_toArray, List.set_cons_zero, List.set_cons_succ]; done) | (simp only [putAll, Act.put, List.setIfInBounds_toArray, List.set_cons_zero, List.set_cons_succ]; rfl)) (hJ0_3_4_5 (b42, W9.heap.size, B1, B2, c2) _ ⟨HBn, ⟨blk_new W9 _, HB_.size⟩, Kd.F_mono (Kd.F_below h4 hbq) (fun k hk e => by dsimp only at e; omega)⟩)
  rintro ⟨b42, b8, B1, B2, c2⟩ W9 ⟨HB_, h5, h45⟩
  try dsimp only at h5
  try dsimp only at h45
  obtain ⟨hb8, hl8⟩ := h5
  have hr0 := (blk_cell hb8 0).trans rfl
  have hr1 := (blk_cell hb8 1).trans rfl
  have hq0 := blk_frozen hb8 0
  have hq1 := blk_frozen hb8 1
  have H8 := Aside0.mk (And.intro hb8 hl8)
  have H45 := Aside0.mk h45
  clear hb8 hl8 h45
  have hHeld : W9.cell? ⟨w4.heap.size, 0, none⟩ = some (.string ⟨#[100]⟩) ∧ W9.cell? ⟨w4.heap.size, 1, none⟩ = some (.slice none 0 0) ∧ W9.cell? ⟨w4.heap.size, 2, none⟩ = some (.int .i64 2) ∧ W9.cell? ⟨w4.heap.size, 3, none⟩ = some (.string ⟨#[]⟩) ∧ W9.cell? ⟨w4.heap.size, 4, none⟩ = some (.int .i64 1) ∧ W9.cell? ⟨w4.heap.size, 5, none⟩ = some (.slice none 0 0) ∧ W9.cell? ⟨w4.heap.size, 6, none⟩ = some (.slice none 0 0) ∧ W9.cell? ⟨w4.heap.size, 7, none⟩ = some (.slice none 0 0) ∧ W9.cell? ⟨w6.heap.size, 0, none⟩ = some (.string ⟨#[102]⟩) ∧ W9.cell? ⟨w6.heap.size, 1, none⟩ = some (.slice (some ⟨w6.heap.size + 1 + 1, 0, none⟩) 1 1) ∧ W9.cell? ⟨w6.heap.size, 2, none⟩ = some (.int .i64 1) ∧ W9.cell? ⟨w6.heap.size, 3, none⟩ = some (.string ⟨#[100]⟩) ∧ W9.cell? ⟨w6.heap.size, 4, none⟩ = some (.int .i64 0) ∧ W9.cell? ⟨w6.heap.size, 5, none⟩ = some (.slice none 0 0) ∧ W9.cell? ⟨w6.heap.size, 6, none⟩ = some (.slice none 0 0) ∧ W9.cell? ⟨w6.heap.size, 7, none⟩ = some (.slice none 0 0) := ⟨(blk_cell (blk_below hbd.out HB_) 0).trans rfl, (blk_cell (blk_below hbd.out HB_) 1).trans rfl, (blk_cell (blk_below hbd.out HB_) 2).trans rfl, (blk_cell (blk_below hbd.out HB_) 3).trans rfl, (blk_cell (blk_below hbd.out HB_) 4).trans rfl, (blk_cell (blk_below hbd.out HB_) 5).trans rfl, (blk_cell (blk_below hbd.out HB_) 6).trans rfl, (blk_cell (blk_below hbd.out HB_) 7).trans rfl, (blk_cell (blk_below hbf.out HB_) 0).trans rfl, (blk_cell (blk_below hbf.out HB_) 1).trans rfl, (blk_cell (blk_below hbf.out HB_) 2).trans rfl, (blk_cell (blk_below hbf.out HB_) 3).trans rfl, (blk_cell (blk_below hbf.out HB_) 4).trans rfl, (blk_cell (blk_below hbf.out HB_) 5).trans rfl, (blk_cell (blk_below hbf.out HB_) 6).trans rfl, (blk_cell (blk_below hbf.out HB_) 7).trans rfl⟩
  refine norm_ (a' := ?_) ?_ ?_
  rotate_left
  · simp only [putAll, Act.put, List.setIfInBounds_toArray, List.set_cons_zero, List.set_cons_succ]
    rfl
  refine last_ (i := 6) (N := none) #[true, true, true, true, true, true, true] rfl rfl (by kernel_rfl) (by decide) (fun K hK => ?_)
  refine skip_ (w1 := ?_) (by rfl) rfl ?_ ?_
  rotate_left
  · go_simp
    rfl
  refine hK.out _ _ ?_
  clear hK K
  refine done_ (by kernel_rfl) ?_
  obtain ⟨hk8, hl8⟩ := H8.out
  obtain ⟨WS, hWS⟩ : ∃ WS, ((W9.setCell ⟨b8, 0, none⟩ (.slice B1 1 1)).setCell ⟨b8, 1, none⟩ (.slice B2 3 c2)) = WS := ⟨_, rfl⟩
  have K8 : WS.heap[b8]? = some (.cells #[.slice B1 1 1, .slice B2 3 c2] 39 (0, 0)) := by rw [← hWS]; exact blk_put (blk_put hk8 0 _ rfl) 1 _ rfl
  have hC : Kd.C k30 WS B2 3 [dD, fD 0, dM] := by rw [← hWS]; exact Kd.F_now (Kd.F_far (Kd.F_far H45.out (p := ⟨b8, 0, none⟩) (fun _ hk => hk) _) (p := ⟨b8, 1, none⟩) (fun _ hk => hk) _)
  have HBS : Aside0 (Below w.heap.size w WS) := ⟨by rw [← hWS]; have h1 := HB0.out.trans (HB_.mono HB0.out.size); have h2 := HB0.out.size; exact (h1.setCell (p := ⟨b8, 0, none⟩) (Nat.le_trans h2 hl8) _).setCell (p := ⟨b8, 1, none⟩) (Nat.le_trans h2 hl8) _⟩
  skip
  rw [hWS]
  clear hWS hHeld hr0 hr1 hq0 hq1 HB_ H45 H8 hk8 HB0 hbd hbf hKd hKf
  have hx0 := (blk_cell K8 0).trans rfl
  have hx1 := (blk_cell K8 1).trans rfl
  replace K8 := Aside0.mk K8
  obtain ⟨o1, o2, o3, o4⟩ := hd_at hd_all.1
  replace o1 := Aside0.mk o1
  replace o2 := Aside0.mk o2
  replace o3 := Aside0.mk o3
  replace o4 := Aside0.mk o4
  have CU1 := usesX (Ad := B1) (nd := 1) (cd := 1) (cf := c2) [dD, fD 0, dM] o1.out 3 0 rfl 1 1 rfl (by decide) o2.out rfl hC
  have HC := Aside0.mk hC
  clear hC
  have T1 : True := trivial
  go_wp2_with (first | (clear T1; go_at_call 12; go_loud (with_reducible refine (CU1).mono ?_); rintro e w11 ⟨A1, c1, rfl, hc1, hC1, hb1⟩; have hk11 := blk_below K8.out (hb1); have hx0 := (blk_cell hk11 0).trans rfl; have hx1 := (blk_cell hk11 1).trans rfl; replace K8 := Aside0.mk hk11; have HCn := Aside0.mk (Kd.C_below HC.out (hb1)); replace HC := HCn; have HBn := Aside0.mk (below_step HBS.out (hb1)); replace HBS := HBn; clear hk11 HCn HBn; have CS := @same0_calls w11 A1 none c1 0; clear hb1 hC1 CU1; have T2 : True := trivial) | (clear T2; go_at_call 11; go_loud (with_reducible refine (CS).mono ?_); rintro e w12 ⟨rfl, hd12⟩; have hk12 := blk_below K8.out (hd12.below); have hx0 := (blk_cell hk12 0).trans rfl; have hx1 := (blk_cell hk12 1).trans rfl; replace K8 := Aside0.mk hk12; have HCn := Aside0.mk (Kd.C_below HC.out (hd12.below)); replace HC := HCn; have HBn := Aside0.mk (below_step HBS.out (hd12.below)); replace HBS := HBn; clear hk12 HCn HBn; have CU := usesX (Ad := B1) (nd := 1) (cd := 1) (cf := c2) [dD, fD 0, dM] o1.out 3 0 rfl 2 2 rfl (by decide) o3.out rfl HC.out; clear hd12 CS; have T3 : True := trivial) | (clear T3; go_at_call 12; go_loud (with_reducible refine (CU).mono ?_); rintro e w13 ⟨A3, c3, rfl, hc3, hC3, hb3⟩; have hk13 := blk_below K8.out (hb3); have hx0 := (blk_cell hk13 0).trans rfl; have hx1 := (blk_cell hk13 1).trans rfl; replace K8 := Aside0.mk hk13; have HCn := Aside0.mk (Kd.C_below HC.out (hb3)); replace HC := HCn; have HBn := Aside0.mk (below_step HBS.out (hb3)); replace HBS := HBn; clear hk13 HCn HBn; have CV := uses0_calls (w := w13) 9 (Ad := B1) (Af := B2) (nd := 1) (cd := 1) (n := 3) (cf := c2) (Or.inr (by decide)); clear hb3 hC3 CU hc3; have T4 : True := trivial) | (clear T4; go_at_call 12; go_loud (with_reducible refine (CV).mono ?_); rintro e w14 ⟨rfl, hb4⟩; have hk14 := blk_below K8.out (hb4); have hx0 := (blk_cell hk14 0).trans rfl; have hx1 := (blk_cell hk14 1).trans rfl; replace K8 := Aside0.mk hk14; have HCn := Aside0.mk (Kd.C_below HC.out (hb4)); replace HC := HCn; have HBn := Aside0.mk (below_step HBS.out (hb4)); replace HBS := HBn; clear hk14 HCn HBn; have CN := neededX (Ad := B1) (nd := 1) (cd := 1) (cf := c2) [dD, fD 0, dM] o1.out 3 1 rfl 0 0 rfl (by decide) o4.out rfl HC.out; clear hb4 CV; have T5 : True := trivial) | (clear T5; go_at_call 13; go_loud (with_reducible refine (CN).mono ?_); rintro e w15 ⟨A5, c5, rfl, hc5, hC5, hb5⟩; have hk15 := blk_below K8.out (hb5); have hx0 := (blk_cell hk15 0).trans rfl; have hx1 := (blk_cell hk15 1).trans rfl; replace K8 := Aside0.mk hk15; have HCn := Aside0.mk (Kd.C_below HC.out (hb5)); replace HC := HCn; have HBn := Aside0.mk (below_step HBS.out (hb5)); replace HBS := HBn; clear hk15 HCn HBn; have CS := same1_calls 0 (w15.alloc (.cells #[.int .i64 0] 3)) (Kd.C_alloc hC5 _) hc5 (c_ints [0] (blk_new w15 _) (by decide)) (Nat.le_refl _); clear hb5 hC5 CN; have T6 : True := trivial) | (clear T6; go_at_call 11; go_loud (with_reducible refine (CS).mono ?_); rintro e w16 ⟨rfl, hd16⟩; have hb6 := below_step (below_alloc (Below.refl w15.heap.size w15) (.cells #[.int .i64 0] 3)) hd16.below; have hk16 := blk_below K8.out (hb6); have hx0 := (blk_cell hk16 0).trans rfl; have hx1 := (blk_cell hk16 1).trans rfl; replace K8 := Aside0.mk hk16; have HCn := Aside0.mk (Kd.C_below HC.out (hb6)); replace HC := HCn; have HBn := Aside0.mk (below_step HBS.out (hb6)); replace HBS := HBn; clear hk16 HCn HBn; have CW := needed0_calls (w := w16) (-1) (Ad := B1) (Af := B2) (nd := 1) (cd := 1) (n := 3) (cf := c2) (Or.inl (by decide)); clear hd16 hb6 CS; have T7 : True := trivial) | (clear T7; go_at_call 13; go_loud (with_reducible refine (CW).mono ?_); rintro e w17 ⟨rfl, hb7⟩; have HBZ := Aside0.mk (below_step HBS.out hb7); clear hb7 CW; have T8 : True := trivial))
  go_ret
  exact ⟨rfl, HBZ.out⟩
set_option maxHeartbeats 16000000 in
set_option maxRecDepth 100000 in
theorem hides_walk1 (k : Int) (w : World) (hr : PDepS.gristmillworld_Number.f k 4 = some 1) : Calls Try.prog 3 #[.int .i64 k] w fun e w' => e = .returned (.bool true) ∧ Below w.heap.size w w' := by
  have E : ∀ W : World, ∀ o : Obj, (W.alloc o).heap.size = W.heap.size + 1 := fun W o => Array.size_push _
  have T1 : True := trivial
  go_enter Try.func3, Try.ntmps3
  go_wp2_with (first | (clear T1; go_at_call 4; go_loud (with_reducible refine (first_calls _).mono ?_); rintro e w1 ⟨rfl, hb1⟩; have HB1 := Aside0.mk hb1; clear hb1; have T2 : True := trivial) | (clear T2; go_at_call 5; go_loud (with_reducible refine (PDepS.gristmillworld_Number.calls k 4 1 _ hr).mono ?_); rintro e w2 ⟨rfl, hd2⟩; have HB2 := Aside0.mk (below_step HB1.out hd2.below); clear hd2 HB1; have T3 : True := trivial) | (clear T3; go_at_call 7; go_loud (with_reducible refine (i_calls _ _).mono ?_); rintro e w3 ⟨rfl, hb3⟩; have HB3 := Aside0.mk (below_step HB2.out hb3); clear hb3 HB2; have T4 : True := trivial) | (clear T4; go_at_call 6; go_loud (with_reducible refine (d_calls _ _).mono ?_); rintro e w4 ⟨rfl, hb4⟩; have HB4 := Aside0.mk (below_step HB3.out hb4); clear hb4 HB3; have T5 : True := trivial) | (clear T5; go_at_call 8; go_loud (with_reducible refine (v_calls _ _).mono ?_); rintro e w5 ⟨rfl, hb5⟩; have l4 : w4.heap.size < w5.heap.size := (by have := hb5.size; rw [E] at this; omega); have L4 := Aside0.mk l4; have k5 := Aside0.mk (blk_below (blk_new w4 (.cells #[.string ⟨#[100]⟩, .slice none 0 0, .int .i64 2, .string ⟨#[]⟩, .int .i64 1, .slice none 0 0, .slice none 0 0, .slice none 0 0] 30 (0, 0))) hb5); have HB5 := Aside0.mk (below_step (below_alloc HB4.out _) hb5); clear hb5 HB4 l4; have T6 : True := trivial))
  (with_reducible refine (d_calls _ _).mono ?_)
  rintro e w6 ⟨rfl, hb6⟩
  have l5 : w5.heap.size + 1 < w6.heap.size := (by have := hb6.size; rw [E, E] at this; omega)
  have kv := Aside0.mk (blk_below (show ((w5.alloc (.cells #[.int .i64 1, .string ⟨#[100]⟩, .int .i64 0, .slice none 0 0, .slice none 0 0, .slice none 0 0] 28)).alloc (.cells #[.string ⟨#[120]⟩] 9)).heap[w5.heap.size]? = some (.cells #[.int .i64 1, .string ⟨#[100]⟩, .int .i64 0, .slice none 0 0, .slice none 0 0, .slice none 0 0] 28 (0, 0)) from (Below.heap_alloc _ _ _ (by rw [E]; omega)).trans (blk_new w5 _)) hb6)
  have kx := Aside0.mk (blk_below (show ((w5.alloc (.cells #[.int .i64 1, .string ⟨#[100]⟩, .int .i64 0, .slice none 0 0, .slice none 0 0, .slice none 0 0] 28)).alloc (.cells #[.string ⟨#[120]⟩] 9)).heap[w5.heap.size + 1]? = some (.cells #[.string ⟨#[120]⟩] 9 (0, 0)) by have := blk_new (w5.alloc (.cells #[.int .i64 1, .string ⟨#[100]⟩, .int .i64 0, .slice none 0 0, .slice none 0 0, .slice none 0 0] 28)) (.cells #[.string ⟨#[120]⟩] 9); rwa [E] at this) hb6)
  have k6 := Aside0.mk (blk_below k5.out (below_step (below_alloc (below_alloc (Below.refl _ _) _) _) hb6))
  have HB6 := Aside0.mk (below_step (below_alloc (below_alloc HB5.out _) _) hb6)
  have L5 := Aside0.mk l5
  clear hb6 HB5 l5 k5
  have hv0 := (blk_cell (blk_below kv.out (below_alloc (below_alloc (Below.refl w6.heap.size w6) (.cells #[.string ⟨#[102]⟩, .slice (some ⟨w5.heap.size + 1, 0, none⟩) 1 1, .int .i64 1, .string ⟨#[100]⟩, .int .i64 0, .slice none 0 0, .slice none 0 0, .slice none 0 0] 30)) (.cells #[.int .i64 0] 3))) 0).trans rfl
  have hv1 := (blk_cell (blk_below kv.out (below_alloc (below_alloc (Below.refl w6.heap.size w6) (.cells #[.string ⟨#[102]⟩, .slice (some ⟨w5.heap.size + 1, 0, none⟩) 1 1, .int .i64 1, .string ⟨#[100]⟩, .int .i64 0, .slice none 0 0, .slice none 0 0, .slice none 0 0] 30)) (.cells #[.int .i64 0] 3))) 1).trans rfl
  have hv2 := (blk_cell (blk_below kv.out (below_alloc (below_alloc (Below.refl w6.heap.size w6) (.cells #[.string ⟨#[102]⟩, .slice (some ⟨w5.heap.size + 1, 0, none⟩) 1 1, .int .i64 1, .string ⟨#[100]⟩, .int .i64 0, .slice none 0 0, .slice none 0 0, .slice none 0 0] 30)) (.cells #[.int .i64 0] 3))) 2).trans rfl
  have hv3 := (blk_cell (blk_below kv.out (below_alloc (below_alloc (Below.refl w6.heap.size w6) (.cells #[.string ⟨#[102]⟩, .slice (some ⟨w5.heap.size + 1, 0, none⟩) 1 1, .int .i64 1, .string ⟨#[100]⟩, .int .i64 0, .slice none 0 0, .slice none 0 0, .slice none 0 0] 30)) (.cells #[.int .i64 0] 3))) 3).trans rfl
  have hv4 := (blk_cell (blk_below kv.out (below_alloc (below_alloc (Below.refl w6.heap.size w6) (.cells #[.string ⟨#[102]⟩, .slice (some ⟨w5.heap.size + 1, 0, none⟩) 1 1, .int .i64 1, .string ⟨#[100]⟩, .int .i64 0, .slice none 0 0, .slice none 0 0, .slice none 0 0] 30)) (.cells #[.int .i64 0] 3))) 4).trans rfl
  have hv5 := (blk_cell (blk_below kv.out (below_alloc (below_alloc (Below.refl w6.heap.size w6) (.cells #[.string ⟨#[102]⟩, .slice (some ⟨w5.heap.size + 1, 0, none⟩) 1 1, .int .i64 1, .string ⟨#[100]⟩, .int .i64 0, .slice none 0 0, .slice none 0 0, .slice none 0 0] 30)) (.cells #[.int .i64 0] 3))) 5).trans rfl
  have T7 : True := trivial
  go_wp2_with (first | (clear T7; go_at_call 9; go_loud (with_reducible refine (f_calls _ _ _ _ _).mono ?_); rintro e w7 ⟨f1, f2, rfl, hg1, hg2, hA1, hA2, hb7⟩; have HF7 := Aside0.mk hb7; have HA1 := Aside0.mk hA1; have HA2 := Aside0.mk hA2; rw [E, E] at hg1 hg2; have HG := Aside0.mk (And.intro hg1 hg2); have hfb := blk_below ((Below.heap_alloc (w6.alloc (.cells #[.string ⟨#[102]⟩, .slice (some ⟨w5.heap.size + 1, 0, none⟩) 1 1, .int .i64 1, .string ⟨#[100]⟩, .int .i64 0, .slice none 0 0, .slice none 0 0, .slice none 0 0] 30)) (.cells #[.int .i64 0] 3) _ (by rw [E]; omega)).trans (blk_new w6 (.cells #[.string ⟨#[102]⟩, .slice (some ⟨w5.heap.size + 1, 0, none⟩) 1 1, .int .i64 1, .string ⟨#[100]⟩, .int .i64 0, .slice none 0 0, .slice none 0 0, .slice none 0 0] 30))) hb7; have hx2 := (blk_cell hfb 2).trans rfl; have hx3 := (blk_cell hfb 3).trans rfl; have hx4 := (blk_cell hfb 4).trans rfl; have hx5 := (blk_cell hfb 5).trans rfl; have hx6 := (blk_cell hfb 6).trans rfl; have hx7 := (blk_cell hfb 7).trans rfl; have hf2 := blk_frozen hfb 2; have hf3 := blk_frozen hfb 3; have hf4 := blk_frozen hfb 4; have hf5 := blk_frozen hfb 5; have hf6 := blk_frozen hfb 6; have hf7 := blk_frozen hfb 7; have HFB := Aside0.mk hfb; clear hb7 hA1 hA2 hfb hg1 hg2 hv0 hv1 hv2 hv3 hv4 hv5; have T8 : True := trivial))
  clear hx2 hf2 hx3 hf3 hx4 hf4 hx5 hf5 hx6 hf6 hx7 hf7
  have hch0 : Below w6.heap.size w6 w7 := below_step (below_alloc (below_alloc (Below.refl w6.heap.size w6) (.cells #[.string ⟨#[102]⟩, .slice (some ⟨w5.heap.size + 1, 0, none⟩) 1 1, .int .i64 1, .string ⟨#[100]⟩, .int .i64 0, .slice none 0 0, .slice none 0 0, .slice none 0 0] 30)) (.cells #[.int .i64 0] 3)) HF7.out
  obtain ⟨W0, hW0⟩ : ∃ W0, ((((((w7.setCell ⟨w6.heap.size, 2, none⟩ (.int .i64 6)).setCell ⟨w6.heap.size, 3, none⟩ (.string ⟨#[]⟩)).setCell ⟨w6.heap.size, 4, none⟩ (.int .i64 0)).setCell ⟨w6.heap.size, 5, none⟩ (.slice (some ⟨f1, 0, none⟩) 1 1)).setCell ⟨w6.heap.size, 6, none⟩ (.slice (some ⟨f2, 0, none⟩) 1 1)).setCell ⟨w6.heap.size, 7, none⟩ (.slice none 0 0)) = W0 := ⟨_, rfl⟩
  rw [hW0]
  have hbf : Aside0 (W0.heap[w6.heap.size]? = some (.cells #[.string ⟨#[102]⟩, .slice (some ⟨w5.heap.size + 1, 0, none⟩) 1 1, .int .i64 6, .string ⟨#[]⟩, .int .i64 0, .slice (some ⟨f1, 0, none⟩) 1 1, .slice (some ⟨f2, 0, none⟩) 1 1, .slice none 0 0] 30 (0, 0))) := ⟨by rw [← hW0]; exact (blk_put (blk_put (blk_put (blk_put (blk_put (blk_put HFB.out 2 _ rfl) 3 _ rfl) 4 _ rfl) 5 _ rfl) 6 _ rfl) 7 _ rfl)⟩
  have hfar : ∀ j, j ≠ w6.heap.size → W0.heap[j]? = w7.heap[j]? := fun j hj => by rw [← hW0]; exact (Below.heap_setCell _ ⟨w6.heap.size, 7, none⟩ _ _ hj).trans ((Below.heap_setCell _ ⟨w6.heap.size, 6, none⟩ _ _ hj).trans ((Below.heap_setCell _ ⟨w6.heap.size, 5, none⟩ _ _ hj).trans ((Below.heap_setCell _ ⟨w6.heap.size, 4, none⟩ _ _ hj).trans ((Below.heap_setCell _ ⟨w6.heap.size, 3, none⟩ _ _ hj).trans ((Below.heap_setCell _ ⟨w6.heap.size, 2, none⟩ _ _ hj).trans (rfl))))))
  have hch : Below w6.heap.size w6 W0 := by rw [← hW0]; exact ((((((hch0.setCell (p := ⟨w6.heap.size, 2, none⟩) (Nat.le_refl _) _).setCell (p := ⟨w6.heap.size, 3, none⟩) (Nat.le_refl _) _).setCell (p := ⟨w6.heap.size, 4, none⟩) (Nat.le_refl _) _).setCell (p := ⟨w6.heap.size, 5, none⟩) (Nat.le_refl _) _).setCell (p := ⟨w6.heap.size, 6, none⟩) (Nat.le_refl _) _).setCell (p := ⟨w6.heap.size, 7, none⟩) (Nat.le_refl _) _)
  have hpub : Below w6.heap.size w6 W0 := hch
  have hbd : Aside0 (W0.heap[w4.heap.size]? = some (.cells #[.string ⟨#[100]⟩, .slice none 0 0, .int .i64 2, .string ⟨#[]⟩, .int .i64 1, .slice none 0 0, .slice none 0 0, .slice none 0 0] 30 (0, 0))) := ⟨blk_below k6.out hch⟩
  have hx1 := blk_below kx.out hch
  have HB0 : Aside0 (Below w.heap.size w W0) := ⟨below_step HB6.out hch⟩
  have hKd : Aside0 (k30.K W0 dD [.string ⟨#[100]⟩, .slice none 0 0, .int .i64 2, .string ⟨#[]⟩, .int .i64 1, .slice none 0 0, .slice none 0 0, .slice none 0 0]) := ⟨k30_mk W0 dD (Nat.le_refl _) (Kd.C_nil _ _) (Nat.le_refl _) (Kd.C_nil _ _) (Nat.le_refl _) (Kd.C_nil _ _) (Nat.le_refl _) (Kd.C_nil _ _)⟩
  have hC7 := (hfar f1 (by have := HG.out; omega)).trans HA1.out
  have hE7 := (hfar f2 (by have := HG.out; omega)).trans HA2.out
  have hKf : Aside0 (k30.K W0 (fD 1) [.string ⟨#[102]⟩, .slice (some ⟨w5.heap.size + 1, 0, none⟩) 1 1, .int .i64 6, .string ⟨#[]⟩, .int .i64 0, .slice (some ⟨f1, 0, none⟩) 1 1, .slice (some ⟨f2, 0, none⟩) 1 1, .slice none 0 0]) := ⟨k30_mk W0 (fD 1) (Nat.le_refl 1) (C_strs [⟨#[120]⟩] hx1 (by decide)) (Nat.le_refl 1) (C_strs [sd] hC7 (by decide)) (Nat.le_refl 1) (C_cells (xs := [eV sd]) hE7 (Reps.c6 (k_0 _ _ _ _) (Reps.none _ _)) (by decide)) (Nat.le_refl _) (Kd.C_nil _ _)⟩
  clear hW0 hx1 HB6 kx k6 kv hch
  have HB_ : Below W0.heap.size W0 W0.drew := below_drew1 (Below.refl _ _)
  refine start_ (n := 7) (S := fun w' => w'.cell? ⟨w4.heap.size, 0, none⟩ = some (.string ⟨#[100]⟩) ∧ w'.cell? ⟨w4.heap.size, 1, none⟩ = some (.slice none 0 0) ∧ w'.cell? ⟨w4.heap.size, 2, none⟩ = some (.int .i64 2) ∧ w'.cell? ⟨w4.heap.size, 3, none⟩ = some (.string ⟨#[]⟩) ∧ w'.cell? ⟨w4.heap.size, 4, none⟩ = some (.int .i64 1) ∧ w'.cell? ⟨w4.heap.size, 5, none⟩ = some (.slice none 0 0) ∧ w'.cell? ⟨w4.heap.size, 6, none⟩ = some (.slice none 0 0) ∧ w'.cell? ⟨w4.heap.size, 7, none⟩ = some (.slice none 0 0) ∧ w'.cell? ⟨w6.heap.size, 0, none⟩ = some (.string ⟨#[102]⟩) ∧ w'.cell? ⟨w6.heap.size, 1, none⟩ = some (.slice (some ⟨w5.heap.size + 1, 0, none⟩) 1 1) ∧ w'.cell? ⟨w6.heap.size, 2, none⟩ = some (.int .i64 6) ∧ w'.cell? ⟨w6.heap.size, 3, none⟩ = some (.string ⟨#[]⟩) ∧ w'.cell? ⟨w6.heap.size, 4, none⟩ = some (.int .i64 0) ∧ w'.cell? ⟨w6.heap.size, 5, none⟩ = some (.slice (some ⟨f1, 0, none⟩) 1 1) ∧ w'.cell? ⟨w6.heap.size, 6, none⟩ = some (.slice (some ⟨f2, 0, none⟩) 1 1) ∧ w'.cell? ⟨w6.heap.size, 7, none⟩ = some (.slice none 0 0)) (ds := [6]) #[false, false, false, false, false, false, false] (by kernel_rfl) rfl rfl ⟨(blk_cell (blk_below hbd.out HB_) 0).trans rfl, (blk_cell (blk_below hbd.out HB_) 1).trans rfl, (blk_cell (blk_below hbd.out HB_) 2).trans rfl, (blk_cell (blk_below hbd.out HB_) 3).trans rfl, (blk_cell (blk_below hbd.out HB_) 4).trans rfl, (blk_cell (blk_below hbd.out HB_) 5).trans rfl, (blk_cell (blk_below hbd.out HB_) 6).trans rfl, (blk_cell (blk_below hbd.out HB_) 7).trans rfl, (blk_cell (blk_below hbf.out HB_) 0).trans rfl, (blk_cell (blk_below hbf.out HB_) 1).trans rfl, (blk_cell (blk_below hbf.out HB_) 2).trans rfl, (blk_cell (blk_below hbf.out HB_) 3).trans rfl, (blk_cell (blk_below hbf.out HB_) 4).trans rfl, (blk_cell (blk_below hbf.out HB_) 5).trans rfl, (blk_cell (blk_below hbf.out HB_) 6).trans rfl, (blk_cell (blk_below hbf.out HB_) 7).trans rfl⟩ (fun hHeld => ?_)
  generalize W0.drew = W9 at *
  refine take_ (i := 1) (N := some 40) (v := ?_) (a' := ?_) #[false, true, false, false, false, false, false] rfl rfl (by kernel_rfl) (fun _ _ _ h => h) (Or.inl ⟨by rfl, ?_⟩) hHeld ?_ ?_
  rotate_left
  · rintro w' ⟨s0, s1, s2, s3, s4, s5, s6, s7, s8, s9, s10, s11, s12, s13, s14, s15⟩
    go_simp
    with_reducible rfl
  rotate_left
  · simp only [Act.put, List.setIfInBounds_toArray, List.set_cons_zero, List.set_cons_succ, i64_w, i32_w]
    rfl
  refine take_ (i := 2) (N := some 41) (v := ?_) (a' := ?_) #[false, true, true, false, false, false, false] rfl rfl (by kernel_rfl) (fun _ _ _ h => h) (Or.inl ⟨by rfl, ?_⟩) hHeld ?_ ?_
  rotate_left
  · rintro w' ⟨s0, s1, s2, s3, s4, s5, s6, s7, s8, s9, s10, s11, s12, s13, s14, s15⟩
    go_simp
    with_reducible rfl
  rotate_left
  · simp only [Act.put, List.setIfInBounds_toArray, List.set_cons_zero, List.set_cons_succ, i64_w, i32_w]
    rfl
  refine join_ (σ := Nat × Nat × Option Addr × Option Addr × Nat) 1 #[true, true, true, true, true, true, false] (fun s_ => [(39, .agg #[.int .i64 2, .string ⟨#[]⟩, .int .i64 1, .slice none 0 0, .slice none 0 0, .slice none 0 0]), (42, .slice (some ⟨s_.1, 0, none⟩) 2 2), (43, .agg #[.slice s_.2.2.1 1 1, .slice s_.2.2.2.1 3 s_.2.2.2.2]), (8, .pointer (some ⟨s_.2.1, 0, none⟩))]) (fun s_ w' => (Below W0.heap.size W0 w') ∧ (w'.heap[s_.2.1]? = some (.cells #[.slice none 0 0, .slice none 0 0] 39 (0, 0)) ∧ W0.heap.size ≤ s_.2.1) ∧ (Kd.F k30 w' (fun k => k ≠ s_.2.1) s_.2.2.2.1 3 ([dD, fD 1, dM]))) ?_ ?_
  rotate_left
  · intro hJ0_3_4_5
    refine join_ (σ := Nat × Nat × Option Addr × Option Addr × Nat) 2 #[true, true, true, true, true, false, false] (fun s_ => [(39, .agg #[.int .i64 2, .string ⟨#[]⟩, .int .i64 1, .slice none 0 0, .slice none 0 0, .slice none 0 0]), (42, .slice (some ⟨s_.1, 0, none⟩) 2 2), (43, .agg #[.slice s_.2.2.1 1 1, .slice s_.2.2.2.1 3 s_.2.2.2.2])]) (fun s_ w' => (Below W0.heap.size W0 w') ∧ (Kd.F k30 w' (fun k => k < w'.heap.size) s_.2.2.2.1 3 ([dD, fD 1, dM]))) ?_ ?_
    rotate_left
    · intro hJ0_3_4
      refine join_ (σ := Nat × Nat × Option Addr × Option Addr × Nat) 2 #[true, true, true, true, false, true, false] (fun s_ => [(39, .agg #[.int .i64 2, .string ⟨#[]⟩, .int .i64 1, .slice none 0 0, .slice none 0 0, .slice none 0 0]), (42, .slice (some ⟨s_.1, 0, none⟩) 2 2), (8, .pointer (some ⟨s_.2.1, 0, none⟩))]) (fun s_ w' => (Below W0.heap.size W0 w') ∧ (w'.heap[s_.1]? = some (.cells #[.string ⟨#[100]⟩, .slice none 0 0, .int .i64 2, .string ⟨#[]⟩, .int .i64 1, .slice none 0 0, .slice none 0 0, .slice none 0 0, .string ⟨#[102]⟩, .slice (some ⟨w5.heap.size + 1, 0, none⟩) 1 1, .int .i64 6, .string ⟨#[]⟩, .int .i64 0, .slice (some ⟨f1, 0, none⟩) 1 1, .slice (some ⟨f2, 0, none⟩) 1 1, .slice none 0 0] 30 (0, 0)) ∧ W0.heap.size ≤ s_.1) ∧ (w'.heap[s_.2.1]? = some (.cells #[.slice none 0 0, .slice none 0 0] 39 (0, 0)) ∧ W0.heap.size ≤ s_.2.1) ∧ (s_.1 ≠ s_.2.1)) ?_ ?_
      rotate_left
      · intro hJ0_3_5
        refine join_ (σ := Nat × Nat × Option Addr × Option Addr × Nat) 3 #[true, true, true, true, false, false, false] (fun s_ => [(39, .agg #[.int .i64 2, .string ⟨#[]⟩, .int .i64 1, .slice none 0 0, .slice none 0 0, .slice none 0 0]), (42, .slice (some ⟨s_.1, 0, none⟩) 2 2)]) (fun s_ w' => (Below W0.heap.size W0 w') ∧ (w'.heap[s_.1]? = some (.cells #[.string ⟨#[100]⟩, .slice none 0 0, .int .i64 2, .string ⟨#[]⟩, .int .i64 1, .slice none 0 0, .slice none 0 0, .slice none 0 0, .string ⟨#[102]⟩, .slice (some ⟨w5.heap.size + 1, 0, none⟩) 1 1, .int .i64 6, .string ⟨#[]⟩, .int .i64 0, .slice (some ⟨f1, 0, none⟩) 1 1, .slice (some ⟨f2, 0, none⟩) 1 1, .slice none 0 0] 30 (0, 0)) ∧ W0.heap.size ≤ s_.1)) ?_ ?_
        rotate_left
        · intro hJ0_3
          refine join_ (σ := Nat × Nat × Option Addr × Option Addr × Nat) 3 #[true, true, true, false, false, true, false] (fun s_ => [(39, .agg #[.int .i64 2, .string ⟨#[]⟩, .int .i64 1, .slice none 0 0, .slice none 0 0, .slice none 0 0]), (8, .pointer (some ⟨s_.2.1, 0, none⟩))]) (fun s_ w' => (Below W0.heap.size W0 w') ∧ (w'.heap[s_.2.1]? = some (.cells #[.slice none 0 0, .slice none 0 0] 39 (0, 0)) ∧ W0.heap.size ≤ s_.2.1)) ?_ ?_
          rotate_left
          · intro hJ0_5
            refine join_ (σ := Nat × Nat × Option Addr × Option Addr × Nat) 3 #[false, true, true, true, false, true, false] (fun s_ => [(42, .slice (some ⟨s_.1, 0, none⟩) 2 2), (8, .pointer (some ⟨s_.2.1, 0, none⟩))]) (fun s_ w' => (Below W0.heap.size W0 w') ∧ (w'.heap[s_.1]? = some (.cells #[.string ⟨#[100]⟩, .slice none 0 0, .int .i64 2, .string ⟨#[]⟩, .int .i64 1, .slice none 0 0, .slice none 0 0, .slice none 0 0, .string ⟨#[102]⟩, .slice (some ⟨w5.heap.size + 1, 0, none⟩) 1 1, .int .i64 6, .string ⟨#[]⟩, .int .i64 0, .slice (some ⟨f1, 0, none⟩) 1 1, .slice (some ⟨f2, 0, none⟩) 1 1, .slice none 0 0] 30 (0, 0)) ∧ W0.heap.size ≤ s_.1) ∧ (w'.heap[s_.2.1]? = some (.cells #[.slice none 0 0, .slice none 0 0] 39 (0, 0)) ∧ W0.heap.size ≤ s_.2.1) ∧ (s_.1 ≠ s_.2.1)) ?_ ?_
            rotate_left
            · intro hJ3_5
              refine join_ (σ := Nat × Nat × Option Addr × Option Addr × Nat) 4 #[true, true, true, false, false, false, false] (fun s_ => [(39, .agg #[.int .i64 2, .string ⟨#[]⟩, .int .i64 1, .slice none 0 0, .slice none 0 0, .slice none 0 0])]) (fun s_ w' => (Below W0.heap.size W0 w')) ?_ ?_
              rotate_left
              · intro hJ0
                refine join_ (σ := Nat × Nat × Option Addr × Option Addr × Nat) 4 #[false, true, true, true, false, false, false] (fun s_ => [(42, .slice (some ⟨s_.1, 0, none⟩) 2 2)]) (fun s_ w' => (Below W0.heap.size W0 w') ∧ (w'.heap[s_.1]? = some (.cells #[.string ⟨#[100]⟩, .slice none 0 0, .int .i64 2, .string ⟨#[]⟩, .int .i64 1, .slice none 0 0, .slice none 0 0, .slice none 0 0, .string ⟨#[102]⟩, .slice (some ⟨w5.heap.size + 1, 0, none⟩) 1 1, .int .i64 6, .string ⟨#[]⟩, .int .i64 0, .slice (some ⟨f1, 0, none⟩) 1 1, .slice (some ⟨f2, 0, none⟩) 1 1, .slice none 0 0] 30 (0, 0)) ∧ W0.heap.size ≤ s_.1)) ?_ ?_
                rotate_left
                · intro hJ3
                  refine join_ (σ := Nat × Nat × Option Addr × Option Addr × Nat) 4 #[false, true, true, false, false, true, false] (fun s_ => [(8, .pointer (some ⟨s_.2.1, 0, none⟩))]) (fun s_ w' => (Below W0.heap.size W0 w') ∧ (w'.heap[s_.2.1]? = some (.cells #[.slice none 0 0, .slice none 0 0] 39 (0, 0)) ∧ W0.heap.size ≤ s_.2.1)) ?_ ?_
                  rotate_left
                  · intro hJ5
                    refine three_ (i := 0) (j := 3) (k := 5) (Ni := some 39) (Nj := some 42) (Nk := some 8) #[true, true, true, false, false, false, false] #[false, true, true, true, false, false, false] #[false, true, true, false, false, true, false] rfl rfl rfl rfl rfl rfl (by kernel_rfl) (by decide) (by decide) (by decide) (fun K hK => ?_) (fun K hK => ?_) (fun K hK => ?_)
                    · skip
                      refine goes_ Try.func7 (by kernel_rfl) rfl #[.int .i64 1] (by rfl) rfl rfl (by simp only [List.map_toArray, List.map_cons, List.map_nil]; rfl) ?_
                      (with_reducible refine (i_calls 1 W9).mono ?_)
                      rintro e w3 ⟨rfl, hbq⟩
                      refine ⟨_, rfl, ?_⟩
                      have HBn := below_step HB_ hbq
                      refine hK.out _ _ ⟨(blk_cell (blk_below hbd.out HBn) 0).trans rfl, (blk_cell (blk_below hbd.out HBn) 1).trans rfl, (blk_cell (blk_below hbd.out HBn) 2).trans rfl, (blk_cell (blk_below hbd.out HBn) 3).trans rfl, (blk_cell (blk_below hbd.out HBn) 4).trans rfl, (blk_cell (blk_below hbd.out HBn) 5).trans rfl, (blk_cell (blk_below hbd.out HBn) 6).trans rfl, (blk_cell (blk_below hbd.out HBn) 7).trans rfl, (blk_cell (blk_below hbf.out HBn) 0).trans rfl, (blk_cell (blk_below hbf.out HBn) 1).trans rfl, (blk_cell (blk_below hbf.out HBn) 2).trans rfl, (blk_cell (blk_below hbf.out HBn) 3).trans rfl, (blk_cell (blk_below hbf.out HBn) 4).trans rfl, (blk_cell (blk_below hbf.out HBn) 5).trans rfl, (blk_cell (blk_below hbf.out HBn) 6).trans rfl, (blk_cell (blk_below hbf.out HBn) 7).trans rfl⟩ (fun hHeld => ?_)
                      clear hK K
                      refine norm_ (a' := ?_) ?_ ?_
                      rotate_left
                      · show Act.put _ (some 39) _ = _
                        simp only [Act.put, List.setIfInBounds_toArray, List.set_cons_zero, List.set_cons_succ, i64_w, i32_w]
                        rfl
                      exact norm_ (by first | (simp only [putAll, Act.put, List.setIfInBounds_toArray, List.set_cons_zero, List.set_cons_succ]; done) | (simp only [putAll, Act.put, List.setIfInBounds_toArray, List.set_cons_zero, List.set_cons_succ]; rfl)) (hJ0 (0, 0, none, none, 0) _ HBn)
                    · skip
                      refine value_ (w1 := ?_) (v := ?_) (by rfl) rfl ?_ ?_
                      rotate_left 2
                      · go_simp
                        constructor
                        · rfl
                        · rfl
                      have hbq := below_alloc (Below.refl W9.heap.size W9) (.cells #[.string ⟨#[100]⟩, .slice none 0 0, .int .i64 2, .string ⟨#[]⟩, .int .i64 1, .slice none 0 0, .slice none 0 0, .slice none 0 0, .string ⟨#[102]⟩, .slice (some ⟨w5.heap.size + 1, 0, none⟩) 1 1, .int .i64 6, .string ⟨#[]⟩, .int .i64 0, .slice (some ⟨f1, 0, none⟩) 1 1, .slice (some ⟨f2, 0, none⟩) 1 1, .slice none 0 0] 30)
                      have HBn := below_step HB_ hbq
                      refine hK.out _ _ ⟨(blk_cell (blk_below hbd.out HBn) 0).trans rfl, (blk_cell (blk_below hbd.out HBn) 1).trans rfl, (blk_cell (blk_below hbd.out HBn) 2).trans rfl, (blk_cell (blk_below hbd.out HBn) 3).trans rfl, (blk_cell (blk_below hbd.out HBn) 4).trans rfl, (blk_cell (blk_below hbd.out HBn) 5).trans rfl, (blk_cell (blk_below hbd.out HBn) 6).trans rfl, (blk_cell (blk_below hbd.out HBn) 7).trans rfl, (blk_cell (blk_below hbf.out HBn) 0).trans rfl, (blk_cell (blk_below hbf.out HBn) 1).trans rfl, (blk_cell (blk_below hbf.out HBn) 2).trans rfl, (blk_cell (blk_below hbf.out HBn) 3).trans rfl, (blk_cell (blk_below hbf.out HBn) 4).trans rfl, (blk_cell (blk_below hbf.out HBn) 5).trans rfl, (blk_cell (blk_below hbf.out HBn) 6).trans rfl, (blk_cell (blk_below hbf.out HBn) 7).trans rfl⟩ (fun hHeld => ?_)
                      clear hK K
                      refine norm_ (a' := ?_) ?_ ?_
                      rotate_left
                      · show Act.put _ (some 42) _ = _
                        simp only [Act.put, List.setIfInBounds_toArray, List.set_cons_zero, List.set_cons_succ, i64_w, i32_w]
                        rfl
                      exact norm_ (by first | (simp only [putAll, Act.put, List.setIfInBounds_toArray, List.set_cons_zero, List.set_cons_succ]; done) | (simp only [putAll, Act.put, List.setIfInBounds_toArray, List.set_cons_zero, List.set_cons_succ]; rfl)) (hJ3 (W9.heap.size, 0, none, none, 0) _ ⟨HBn, ⟨blk_new W9 _, HB_.size⟩⟩)
                    · skip
                      refine value_ (w1 := ?_) (v := ?_) (by rfl) rfl ?_ ?_
                      rotate_left 2
                      · go_simp
                        constructor
                        · rfl
                        · rfl
                      have hbq := below_alloc (Below.refl W9.heap.size W9) (.cells #[.slice none 0 0, .slice none 0 0] 39)
                      have HBn := below_step HB_ hbq
                      refine hK.out _ _ ⟨(blk_cell (blk_below hbd.out HBn) 0).trans rfl, (blk_cell (blk_below hbd.out HBn) 1).trans rfl, (blk_cell (blk_below hbd.out HBn) 2).trans rfl, (blk_cell (blk_below hbd.out HBn) 3).trans rfl, (blk_cell (blk_below hbd.out HBn) 4).trans rfl, (blk_cell (blk_below hbd.out HBn) 5).trans rfl, (blk_cell (blk_below hbd.out HBn) 6).trans rfl, (blk_cell (blk_below hbd.out HBn) 7).trans rfl, (blk_cell (blk_below hbf.out HBn) 0).trans rfl, (blk_cell (blk_below hbf.out HBn) 1).trans rfl, (blk_cell (blk_below hbf.out HBn) 2).trans rfl, (blk_cell (blk_below hbf.out HBn) 3).trans rfl, (blk_cell (blk_below hbf.out HBn) 4).trans rfl, (blk_cell (blk_below hbf.out HBn) 5).trans rfl, (blk_cell (blk_below hbf.out HBn) 6).trans rfl, (blk_cell (blk_below hbf.out HBn) 7).trans rfl⟩ (fun hHeld => ?_)
                      clear hK K
                      refine norm_ (a' := ?_) ?_ ?_
                      rotate_left
                      · show Act.put _ (some 8) _ = _
                        simp only [Act.put, List.setIfInBounds_toArray, List.set_cons_zero, List.set_cons_succ, i64_w, i32_w]
                        rfl
                      exact norm_ (by first | (simp only [putAll, Act.put, List.setIfInBounds_toArray, List.set_cons_zero, List.set_cons_succ]; done) | (simp only [putAll, Act.put, List.setIfInBounds_toArray, List.set_cons_zero, List.set_cons_succ]; rfl)) (hJ5 (0, W9.heap.size, none, none, 0) _ ⟨HBn, ⟨blk_new W9 _, HB_.size⟩⟩)
                  · skip
                    rintro ⟨b42, b8, B1, B2, c2⟩ W9 ⟨HB_, h5⟩
                    try dsimp only at h5
                    have hHeld : W9.cell? ⟨w4.heap.size, 0, none⟩ = some (.string ⟨#[100]⟩) ∧ W9.cell? ⟨w4.heap.size, 1, none⟩ = some (.slice none 0 0) ∧ W9.cell? ⟨w4.heap.size, 2, none⟩ = some (.int .i64 2) ∧ W9.cell? ⟨w4.heap.size, 3, none⟩ = some (.string ⟨#[]⟩) ∧ W9.cell? ⟨w4.heap.size, 4, none⟩ = some (.int .i64 1) ∧ W9.cell? ⟨w4.heap.size, 5, none⟩ = some (.slice none 0 0) ∧ W9.cell? ⟨w4.heap.size, 6, none⟩ = some (.slice none 0 0) ∧ W9.cell? ⟨w4.heap.size, 7, none⟩ = some (.slice none 0 0) ∧ W9.cell? ⟨w6.heap.size, 0, none⟩ = some (.string ⟨#[102]⟩) ∧ W9.cell? ⟨w6.heap.size, 1, none⟩ = some (.slice (some ⟨w5.heap.size + 1, 0, none⟩) 1 1) ∧ W9.cell? ⟨w6.heap.size, 2, none⟩ = some (.int .i64 6) ∧ W9.cell? ⟨w6.heap.size, 3, none⟩ = some (.string ⟨#[]⟩) ∧ W9.cell? ⟨w6.heap.size, 4, none⟩ = some (.int .i64 0) ∧ W9.cell? ⟨w6.heap.size, 5, none⟩ = some (.slice (some ⟨f1, 0, none⟩) 1 1) ∧ W9.cell? ⟨w6.heap.size, 6, none⟩ = some (.slice (some ⟨f2, 0, none⟩) 1 1) ∧ W9.cell? ⟨w6.heap.size, 7, none⟩ = some (.slice none 0 0) := ⟨(blk_cell (blk_below hbd.out HB_) 0).trans rfl, (blk_cell (blk_below hbd.out HB_) 1).trans rfl, (blk_cell (blk_below hbd.out HB_) 2).trans rfl, (blk_cell (blk_below hbd.out HB_) 3).trans rfl, (blk_cell (blk_below hbd.out HB_) 4).trans rfl, (blk_cell (blk_below hbd.out HB_) 5).trans rfl, (blk_cell (blk_below hbd.out HB_) 6).trans rfl, (blk_cell (blk_below hbd.out HB_) 7).trans rfl, (blk_cell (blk_below hbf.out HB_) 0).trans rfl, (blk_cell (blk_below hbf.out HB_) 1).trans rfl, (blk_cell (blk_below hbf.out HB_) 2).trans rfl, (blk_cell (blk_below hbf.out HB_) 3).trans rfl, (blk_cell (blk_below hbf.out HB_) 4).trans rfl, (blk_cell (blk_below hbf.out HB_) 5).trans rfl, (blk_cell (blk_below hbf.out HB_) 6).trans rfl, (blk_cell (blk_below hbf.out HB_) 7).trans rfl⟩
                    refine norm_ (a' := ?_) ?_ ?_
                    rotate_left
                    · simp only [putAll, Act.put, List.setIfInBounds_toArray, List.set_cons_zero, List.set_cons_succ]
                      rfl
                    refine two_ (i := 0) (j := 3) (Ni := some 39) (Nj := some 42) #[true, true, true, false, false, true, false] #[false, true, true, true, false, true, false] rfl rfl rfl rfl (by kernel_rfl) (by decide) (by decide) (fun K hK => ?_) (fun K hK => ?_)
                    · skip
                      refine goes_ Try.func7 (by kernel_rfl) rfl #[.int .i64 1] (by rfl) rfl rfl (by simp only [List.map_toArray, List.map_cons, List.map_nil]; rfl) ?_
                      (with_reducible refine (i_calls 1 W9).mono ?_)
                      rintro e w3 ⟨rfl, hbq⟩
                      refine ⟨_, rfl, ?_⟩
                      have HBn := below_step HB_ hbq
                      refine hK.out _ _ ⟨(blk_cell (blk_below hbd.out HBn) 0).trans rfl, (blk_cell (blk_below hbd.out HBn) 1).trans rfl, (blk_cell (blk_below hbd.out HBn) 2).trans rfl, (blk_cell (blk_below hbd.out HBn) 3).trans rfl, (blk_cell (blk_below hbd.out HBn) 4).trans rfl, (blk_cell (blk_below hbd.out HBn) 5).trans rfl, (blk_cell (blk_below hbd.out HBn) 6).trans rfl, (blk_cell (blk_below hbd.out HBn) 7).trans rfl, (blk_cell (blk_below hbf.out HBn) 0).trans rfl, (blk_cell (blk_below hbf.out HBn) 1).trans rfl, (blk_cell (blk_below hbf.out HBn) 2).trans rfl, (blk_cell (blk_below hbf.out HBn) 3).trans rfl, (blk_cell (blk_below hbf.out HBn) 4).trans rfl, (blk_cell (blk_below hbf.out HBn) 5).trans rfl, (blk_cell (blk_below hbf.out HBn) 6).trans rfl, (blk_cell (blk_below hbf.out HBn) 7).trans rfl⟩ (fun hHeld => ?_)
                      clear hK K
                      refine norm_ (a' := ?_) ?_ ?_
                      rotate_left
                      · show Act.put _ (some 39) _ = _
                        simp only [Act.put, List.setIfInBounds_toArray, List.set_cons_zero, List.set_cons_succ, i64_w, i32_w]
                        rfl
                      exact norm_ (by first | (simp only [putAll, Act.put, List.setIfInBounds_toArray, List.set_cons_zero, List.set_cons_succ]; done) | (simp only [putAll, Act.put, List.setIfInBounds_toArray, List.set_cons_zero, List.set_cons_succ]; rfl)) (hJ0_5 (b42, b8, B1, B2, c2) _ ⟨HBn, ⟨blk_below h5.1 hbq, h5.2⟩⟩)
                    · skip
                      refine value_ (w1 := ?_) (v := ?_) (by rfl) rfl ?_ ?_
                      rotate_left 2
                      · go_simp
                        constructor
                        · rfl
                        · rfl
                      have hbq := below_alloc (Below.refl W9.heap.size W9) (.cells #[.string ⟨#[100]⟩, .slice none 0 0, .int .i64 2, .string ⟨#[]⟩, .int .i64 1, .slice none 0 0, .slice none 0 0, .slice none 0 0, .string ⟨#[102]⟩, .slice (some ⟨w5.heap.size + 1, 0, none⟩) 1 1, .int .i64 6, .string ⟨#[]⟩, .int .i64 0, .slice (some ⟨f1, 0, none⟩) 1 1, .slice (some ⟨f2, 0, none⟩) 1 1, .slice none 0 0] 30)
                      have HBn := below_step HB_ hbq
                      refine hK.out _ _ ⟨(blk_cell (blk_below hbd.out HBn) 0).trans rfl, (blk_cell (blk_below hbd.out HBn) 1).trans rfl, (blk_cell (blk_below hbd.out HBn) 2).trans rfl, (blk_cell (blk_below hbd.out HBn) 3).trans rfl, (blk_cell (blk_below hbd.out HBn) 4).trans rfl, (blk_cell (blk_below hbd.out HBn) 5).trans rfl, (blk_cell (blk_below hbd.out HBn) 6).trans rfl, (blk_cell (blk_below hbd.out HBn) 7).trans rfl, (blk_cell (blk_below hbf.out HBn) 0).trans rfl, (blk_cell (blk_below hbf.out HBn) 1).trans rfl, (blk_cell (blk_below hbf.out HBn) 2).trans rfl, (blk_cell (blk_below hbf.out HBn) 3).trans rfl, (blk_cell (blk_below hbf.out HBn) 4).trans rfl, (blk_cell (blk_below hbf.out HBn) 5).trans rfl, (blk_cell (blk_below hbf.out HBn) 6).trans rfl, (blk_cell (blk_below hbf.out HBn) 7).trans rfl⟩ (fun hHeld => ?_)
                      clear hK K
                      refine norm_ (a' := ?_) ?_ ?_
                      rotate_left
                      · show Act.put _ (some 42) _ = _
                        simp only [Act.put, List.setIfInBounds_toArray, List.set_cons_zero, List.set_cons_succ, i64_w, i32_w]
                        rfl
                      exact norm_ (by first | (simp only [putAll, Act.put, List.setIfInBounds_toArray, List.set_cons_zero, List.set_cons_succ]; done) | (simp only [putAll, Act.put, List.setIfInBounds_toArray, List.set_cons_zero, List.set_cons_succ]; rfl)) (hJ3_5 (W9.heap.size, b8, B1, B2, c2) _ ⟨HBn, ⟨blk_new W9 _, HB_.size⟩, ⟨blk_below h5.1 hbq, h5.2⟩, fun e => by dsimp only at e; have := (Array.getElem?_eq_some_iff.1 h5.1).1; omega⟩)
                · skip
                  rintro ⟨b42, b8, B1, B2, c2⟩ W9 ⟨HB_, h3⟩
                  try dsimp only at h3
                  have hHeld : W9.cell? ⟨w4.heap.size, 0, none⟩ = some (.string ⟨#[100]⟩) ∧ W9.cell? ⟨w4.heap.size, 1, none⟩ = some (.slice none 0 0) ∧ W9.cell? ⟨w4.heap.size, 2, none⟩ = some (.int .i64 2) ∧ W9.cell? ⟨w4.heap.size, 3, none⟩ = some (.string ⟨#[]⟩) ∧ W9.cell? ⟨w4.heap.size, 4, none⟩ = some (.int .i64 1) ∧ W9.cell? ⟨w4.heap.size, 5, none⟩ = some (.slice none 0 0) ∧ W9.cell? ⟨w4.heap.size, 6, none⟩ = some (.slice none 0 0) ∧ W9.cell? ⟨w4.heap.size, 7, none⟩ = some (.slice none 0 0) ∧ W9.cell? ⟨w6.heap.size, 0, none⟩ = some (.string ⟨#[102]⟩) ∧ W9.cell? ⟨w6.heap.size, 1, none⟩ = some (.slice (some ⟨w5.heap.size + 1, 0, none⟩) 1 1) ∧ W9.cell? ⟨w6.heap.size, 2, none⟩ = some (.int .i64 6) ∧ W9.cell? ⟨w6.heap.size, 3, none⟩ = some (.string ⟨#[]⟩) ∧ W9.cell? ⟨w6.heap.size, 4, none⟩ = some (.int .i64 0) ∧ W9.cell? ⟨w6.heap.size, 5, none⟩ = some (.slice (some ⟨f1, 0, none⟩) 1 1) ∧ W9.cell? ⟨w6.heap.size, 6, none⟩ = some (.slice (some ⟨f2, 0, none⟩) 1 1) ∧ W9.cell? ⟨w6.heap.size, 7, none⟩ = some (.slice none 0 0) := ⟨(blk_cell (blk_below hbd.out HB_) 0).trans rfl, (blk_cell (blk_below hbd.out HB_) 1).trans rfl, (blk_cell (blk_below hbd.out HB_) 2).trans rfl, (blk_cell (blk_below hbd.out HB_) 3).trans rfl, (blk_cell (blk_below hbd.out HB_) 4).trans rfl, (blk_cell (blk_below hbd.out HB_) 5).trans rfl, (blk_cell (blk_below hbd.out HB_) 6).trans rfl, (blk_cell (blk_below hbd.out HB_) 7).trans rfl, (blk_cell (blk_below hbf.out HB_) 0).trans rfl, (blk_cell (blk_below hbf.out HB_) 1).trans rfl, (blk_cell (blk_below hbf.out HB_) 2).trans rfl, (blk_cell (blk_below hbf.out HB_) 3).trans rfl, (blk_cell (blk_below hbf.out HB_) 4).trans rfl, (blk_cell (blk_below hbf.out HB_) 5).trans rfl, (blk_cell (blk_below hbf.out HB_) 6).trans rfl, (blk_cell (blk_below hbf.out HB_) 7).trans rfl⟩
                  refine norm_ (a' := ?_) ?_ ?_
                  rotate_left
                  · simp only [putAll, Act.put, List.setIfInBounds_toArray, List.set_cons_zero, List.set_cons_succ]
                    rfl
                  refine two_ (i := 0) (j := 5) (Ni := some 39) (Nj := some 8) #[true, true, true, true, false, false, false] #[false, true, true, true, false, true, false] rfl rfl rfl rfl (by kernel_rfl) (by decide) (by decide) (fun K hK => ?_) (fun K hK => ?_)
                  · skip
                    refine goes_ Try.func7 (by kernel_rfl) rfl #[.int .i64 1] (by rfl) rfl rfl (by simp only [List.map_toArray, List.map_cons, List.map_nil]; rfl) ?_
                    (with_reducible refine (i_calls 1 W9).mono ?_)
                    rintro e w3 ⟨rfl, hbq⟩
                    refine ⟨_, rfl, ?_⟩
                    have HBn := below_step HB_ hbq
                    refine hK.out _ _ ⟨(blk_cell (blk_below hbd.out HBn) 0).trans rfl, (blk_cell (blk_below hbd.out HBn) 1).trans rfl, (blk_cell (blk_below hbd.out HBn) 2).trans rfl, (blk_cell (blk_below hbd.out HBn) 3).trans rfl, (blk_cell (blk_below hbd.out HBn) 4).trans rfl, (blk_cell (blk_below hbd.out HBn) 5).trans rfl, (blk_cell (blk_below hbd.out HBn) 6).trans rfl, (blk_cell (blk_below hbd.out HBn) 7).trans rfl, (blk_cell (blk_below hbf.out HBn) 0).trans rfl, (blk_cell (blk_below hbf.out HBn) 1).trans rfl, (blk_cell (blk_below hbf.out HBn) 2).trans rfl, (blk_cell (blk_below hbf.out HBn) 3).trans rfl, (blk_cell (blk_below hbf.out HBn) 4).trans rfl, (blk_cell (blk_below hbf.out HBn) 5).trans rfl, (blk_cell (blk_below hbf.out HBn) 6).trans rfl, (blk_cell (blk_below hbf.out HBn) 7).trans rfl⟩ (fun hHeld => ?_)
                    clear hK K
                    refine norm_ (a' := ?_) ?_ ?_
                    rotate_left
                    · show Act.put _ (some 39) _ = _
                      simp only [Act.put, List.setIfInBounds_toArray, List.set_cons_zero, List.set_cons_succ, i64_w, i32_w]
                      rfl
                    exact norm_ (by first | (simp only [putAll, Act.put, List.setIfInBounds_toArray, List.set_cons_zero, List.set_cons_succ]; done) | (simp only [putAll, Act.put, List.setIfInBounds_toArray, List.set_cons_zero, List.set_cons_succ]; rfl)) (hJ0_3 (b42, b8, B1, B2, c2) _ ⟨HBn, ⟨blk_below h3.1 hbq, h3.2⟩⟩)
                  · skip
                    refine value_ (w1 := ?_) (v := ?_) (by rfl) rfl ?_ ?_
                    rotate_left 2
                    · go_simp
                      constructor
                      · rfl
                      · rfl
                    have hbq := below_alloc (Below.refl W9.heap.size W9) (.cells #[.slice none 0 0, .slice none 0 0] 39)
                    have HBn := below_step HB_ hbq
                    refine hK.out _ _ ⟨(blk_cell (blk_below hbd.out HBn) 0).trans rfl, (blk_cell (blk_below hbd.out HBn) 1).trans rfl, (blk_cell (blk_below hbd.out HBn) 2).trans rfl, (blk_cell (blk_below hbd.out HBn) 3).trans rfl, (blk_cell (blk_below hbd.out HBn) 4).trans rfl, (blk_cell (blk_below hbd.out HBn) 5).trans rfl, (blk_cell (blk_below hbd.out HBn) 6).trans rfl, (blk_cell (blk_below hbd.out HBn) 7).trans rfl, (blk_cell (blk_below hbf.out HBn) 0).trans rfl, (blk_cell (blk_below hbf.out HBn) 1).trans rfl, (blk_cell (blk_below hbf.out HBn) 2).trans rfl, (blk_cell (blk_below hbf.out HBn) 3).trans rfl, (blk_cell (blk_below hbf.out HBn) 4).trans rfl, (blk_cell (blk_below hbf.out HBn) 5).trans rfl, (blk_cell (blk_below hbf.out HBn) 6).trans rfl, (blk_cell (blk_below hbf.out HBn) 7).trans rfl⟩ (fun hHeld => ?_)
                    clear hK K
                    refine norm_ (a' := ?_) ?_ ?_
                    rotate_left
                    · show Act.put _ (some 8) _ = _
                      simp only [Act.put, List.setIfInBounds_toArray, List.set_cons_zero, List.set_cons_succ, i64_w, i32_w]
                      rfl
                    exact norm_ (by first | (simp only [putAll, Act.put, List.setIfInBounds_toArray, List.set_cons_zero, List.set_cons_succ]; done) | (simp only [putAll, Act.put, List.setIfInBounds_toArray, List.set_cons_zero, List.set_cons_succ]; rfl)) (hJ3_5 (b42, W9.heap.size, B1, B2, c2) _ ⟨HBn, ⟨blk_below h3.1 hbq, h3.2⟩, ⟨blk_new W9 _, HB_.size⟩, fun e => by dsimp only at e; have := (Array.getElem?_eq_some_iff.1 h3.1).1; omega⟩)
              · skip
                rintro ⟨b42, b8, B1, B2, c2⟩ W9 HB_
                have hHeld : W9.cell? ⟨w4.heap.size, 0, none⟩ = some (.string ⟨#[100]⟩) ∧ W9.cell? ⟨w4.heap.size, 1, none⟩ = some (.slice none 0 0) ∧ W9.cell? ⟨w4.heap.size, 2, none⟩ = some (.int .i64 2) ∧ W9.cell? ⟨w4.heap.size, 3, none⟩ = some (.string ⟨#[]⟩) ∧ W9.cell? ⟨w4.heap.size, 4, none⟩ = some (.int .i64 1) ∧ W9.cell? ⟨w4.heap.size, 5, none⟩ = some (.slice none 0 0) ∧ W9.cell? ⟨w4.heap.size, 6, none⟩ = some (.slice none 0 0) ∧ W9.cell? ⟨w4.heap.size, 7, none⟩ = some (.slice none 0 0) ∧ W9.cell? ⟨w6.heap.size, 0, none⟩ = some (.string ⟨#[102]⟩) ∧ W9.cell? ⟨w6.heap.size, 1, none⟩ = some (.slice (some ⟨w5.heap.size + 1, 0, none⟩) 1 1) ∧ W9.cell? ⟨w6.heap.size, 2, none⟩ = some (.int .i64 6) ∧ W9.cell? ⟨w6.heap.size, 3, none⟩ = some (.string ⟨#[]⟩) ∧ W9.cell? ⟨w6.heap.size, 4, none⟩ = some (.int .i64 0) ∧ W9.cell? ⟨w6.heap.size, 5, none⟩ = some (.slice (some ⟨f1, 0, none⟩) 1 1) ∧ W9.cell? ⟨w6.heap.size, 6, none⟩ = some (.slice (some ⟨f2, 0, none⟩) 1 1) ∧ W9.cell? ⟨w6.heap.size, 7, none⟩ = some (.slice none 0 0) := ⟨(blk_cell (blk_below hbd.out HB_) 0).trans rfl, (blk_cell (blk_below hbd.out HB_) 1).trans rfl, (blk_cell (blk_below hbd.out HB_) 2).trans rfl, (blk_cell (blk_below hbd.out HB_) 3).trans rfl, (blk_cell (blk_below hbd.out HB_) 4).trans rfl, (blk_cell (blk_below hbd.out HB_) 5).trans rfl, (blk_cell (blk_below hbd.out HB_) 6).trans rfl, (blk_cell (blk_below hbd.out HB_) 7).trans rfl, (blk_cell (blk_below hbf.out HB_) 0).trans rfl, (blk_cell (blk_below hbf.out HB_) 1).trans rfl, (blk_cell (blk_below hbf.out HB_) 2).trans rfl, (blk_cell (blk_below hbf.out HB_) 3).trans rfl, (blk_cell (blk_below hbf.out HB_) 4).trans rfl, (blk_cell (blk_below hbf.out HB_) 5).trans rfl, (blk_cell (blk_below hbf.out HB_) 6).trans rfl, (blk_cell (blk_below hbf.out HB_) 7).trans rfl⟩
                refine norm_ (a' := ?_) ?_ ?_
                rotate_left
                · simp only [putAll, Act.put, List.setIfInBounds_toArray, List.set_cons_zero, List.set_cons_succ]
                  rfl
                refine two_ (i := 3) (j := 5) (Ni := some 42) (Nj := some 8) #[true, true, true, true, false, false, false] #[true, true, true, false, false, true, false] rfl rfl rfl rfl (by kernel_rfl) (by decide) (by decide) (fun K hK => ?_) (fun K hK => ?_)
                · skip
                  refine value_ (w1 := ?_) (v := ?_) (by rfl) rfl ?_ ?_
                  rotate_left 2
                  · go_simp
                    constructor
                    · rfl
                    · rfl
                  have hbq := below_alloc (Below.refl W9.heap.size W9) (.cells #[.string ⟨#[100]⟩, .slice none 0 0, .int .i64 2, .string ⟨#[]⟩, .int .i64 1, .slice none 0 0, .slice none 0 0, .slice none 0 0, .string ⟨#[102]⟩, .slice (some ⟨w5.heap.size + 1, 0, none⟩) 1 1, .int .i64 6, .string ⟨#[]⟩, .int .i64 0, .slice (some ⟨f1, 0, none⟩) 1 1, .slice (some ⟨f2, 0, none⟩) 1 1, .slice none 0 0] 30)
                  have HBn := below_step HB_ hbq
                  refine hK.out _ _ ⟨(blk_cell (blk_below hbd.out HBn) 0).trans rfl, (blk_cell (blk_below hbd.out HBn) 1).trans rfl, (blk_cell (blk_below hbd.out HBn) 2).trans rfl, (blk_cell (blk_below hbd.out HBn) 3).trans rfl, (blk_cell (blk_below hbd.out HBn) 4).trans rfl, (blk_cell (blk_below hbd.out HBn) 5).trans rfl, (blk_cell (blk_below hbd.out HBn) 6).trans rfl, (blk_cell (blk_below hbd.out HBn) 7).trans rfl, (blk_cell (blk_below hbf.out HBn) 0).trans rfl, (blk_cell (blk_below hbf.out HBn) 1).trans rfl, (blk_cell (blk_below hbf.out HBn) 2).trans rfl, (blk_cell (blk_below hbf.out HBn) 3).trans rfl, (blk_cell (blk_below hbf.out HBn) 4).trans rfl, (blk_cell (blk_below hbf.out HBn) 5).trans rfl, (blk_cell (blk_below hbf.out HBn) 6).trans rfl, (blk_cell (blk_below hbf.out HBn) 7).trans rfl⟩ (fun hHeld => ?_)
                  clear hK K
                  refine norm_ (a' := ?_) ?_ ?_
                  rotate_left
                  · show Act.put _ (some 42) _ = _
                    simp only [Act.put, List.setIfInBounds_toArray, List.set_cons_zero, List.set_cons_succ, i64_w, i32_w]
                    rfl
                  exact norm_ (by first | (simp only [putAll, Act.put, List.setIfInBounds_toArray, List.set_cons_zero, List.set_cons_succ]; done) | (simp only [putAll, Act.put, List.setIfInBounds_toArray, List.set_cons_zero, List.set_cons_succ]; rfl)) (hJ0_3 (W9.heap.size, b8, B1, B2, c2) _ ⟨HBn, ⟨blk_new W9 _, HB_.size⟩⟩)
                · skip
                  refine value_ (w1 := ?_) (v := ?_) (by rfl) rfl ?_ ?_
                  rotate_left 2
                  · go_simp
                    constructor
                    · rfl
                    · rfl
                  have hbq := below_alloc (Below.refl W9.heap.size W9) (.cells #[.slice none 0 0, .slice none 0 0] 39)
                  have HBn := below_step HB_ hbq
                  refine hK.out _ _ ⟨(blk_cell (blk_below hbd.out HBn) 0).trans rfl, (blk_cell (blk_below hbd.out HBn) 1).trans rfl, (blk_cell (blk_below hbd.out HBn) 2).trans rfl, (blk_cell (blk_below hbd.out HBn) 3).trans rfl, (blk_cell (blk_below hbd.out HBn) 4).trans rfl, (blk_cell (blk_below hbd.out HBn) 5).trans rfl, (blk_cell (blk_below hbd.out HBn) 6).trans rfl, (blk_cell (blk_below hbd.out HBn) 7).trans rfl, (blk_cell (blk_below hbf.out HBn) 0).trans rfl, (blk_cell (blk_below hbf.out HBn) 1).trans rfl, (blk_cell (blk_below hbf.out HBn) 2).trans rfl, (blk_cell (blk_below hbf.out HBn) 3).trans rfl, (blk_cell (blk_below hbf.out HBn) 4).trans rfl, (blk_cell (blk_below hbf.out HBn) 5).trans rfl, (blk_cell (blk_below hbf.out HBn) 6).trans rfl, (blk_cell (blk_below hbf.out HBn) 7).trans rfl⟩ (fun hHeld => ?_)
                  clear hK K
                  refine norm_ (a' := ?_) ?_ ?_
                  rotate_left
                  · show Act.put _ (some 8) _ = _
                    simp only [Act.put, List.setIfInBounds_toArray, List.set_cons_zero, List.set_cons_succ, i64_w, i32_w]
                    rfl
                  exact norm_ (by first | (simp only [putAll, Act.put, List.setIfInBounds_toArray, List.set_cons_zero, List.set_cons_succ]; done) | (simp only [putAll, Act.put, List.setIfInBounds_toArray, List.set_cons_zero, List.set_cons_succ]; rfl)) (hJ0_5 (b42, W9.heap.size, B1, B2, c2) _ ⟨HBn, ⟨blk_new W9 _, HB_.size⟩⟩)
            · skip
              rintro ⟨b42, b8, B1, B2, c2⟩ W9 ⟨HB_, h3, h5, h35⟩
              try dsimp only at h3
              try dsimp only at h5
              try dsimp only at h35
              have hHeld : W9.cell? ⟨w4.heap.size, 0, none⟩ = some (.string ⟨#[100]⟩) ∧ W9.cell? ⟨w4.heap.size, 1, none⟩ = some (.slice none 0 0) ∧ W9.cell? ⟨w4.heap.size, 2, none⟩ = some (.int .i64 2) ∧ W9.cell? ⟨w4.heap.size, 3, none⟩ = some (.string ⟨#[]⟩) ∧ W9.cell? ⟨w4.heap.size, 4, none⟩ = some (.int .i64 1) ∧ W9.cell? ⟨w4.heap.size, 5, none⟩ = some (.slice none 0 0) ∧ W9.cell? ⟨w4.heap.size, 6, none⟩ = some (.slice none 0 0) ∧ W9.cell? ⟨w4.heap.size, 7, none⟩ = some (.slice none 0 0) ∧ W9.cell? ⟨w6.heap.size, 0, none⟩ = some (.string ⟨#[102]⟩) ∧ W9.cell? ⟨w6.heap.size, 1, none⟩ = some (.slice (some ⟨w5.heap.size + 1, 0, none⟩) 1 1) ∧ W9.cell? ⟨w6.heap.size, 2, none⟩ = some (.int .i64 6) ∧ W9.cell? ⟨w6.heap.size, 3, none⟩ = some (.string ⟨#[]⟩) ∧ W9.cell? ⟨w6.heap.size, 4, none⟩ = some (.int .i64 0) ∧ W9.cell? ⟨w6.heap.size, 5, none⟩ = some (.slice (some ⟨f1, 0, none⟩) 1 1) ∧ W9.cell? ⟨w6.heap.size, 6, none⟩ = some (.slice (some ⟨f2, 0, none⟩) 1 1) ∧ W9.cell? ⟨w6.heap.size, 7, none⟩ = some (.slice none 0 0) := ⟨(blk_cell (blk_below hbd.out HB_) 0).trans rfl, (blk_cell (blk_below hbd.out HB_) 1).trans rfl, (blk_cell (blk_below hbd.out HB_) 2).trans rfl, (blk_cell (blk_below hbd.out HB_) 3).trans rfl, (blk_cell (blk_below hbd.out HB_) 4).trans rfl, (blk_cell (blk_below hbd.out HB_) 5).trans rfl, (blk_cell (blk_below hbd.out HB_) 6).trans rfl, (blk_cell (blk_below hbd.out HB_) 7).trans rfl, (blk_cell (blk_below hbf.out HB_) 0).trans rfl, (blk_cell (blk_below hbf.out HB_) 1).trans rfl, (blk_cell (blk_below hbf.out HB_) 2).trans rfl, (blk_cell (blk_below hbf.out HB_) 3).trans rfl, (blk_cell (blk_below hbf.out HB_) 4).trans rfl, (blk_cell (blk_below hbf.out HB_) 5).trans rfl, (blk_cell (blk_below hbf.out HB_) 6).trans rfl, (blk_cell (blk_below hbf.out HB_) 7).trans rfl⟩
              refine norm_ (a' := ?_) ?_ ?_
              rotate_left
              · simp only [putAll, Act.put, List.setIfInBounds_toArray, List.set_cons_zero, List.set_cons_succ]
                rfl
              refine one_ (i := 0) (N := some 39) #[true, true, true, true, false, true, false] rfl rfl (by kernel_rfl) (by decide) (fun K hK => ?_)
              refine goes_ Try.func7 (by kernel_rfl) rfl #[.int .i64 1] (by rfl) rfl rfl (by simp only [List.map_toArray, List.map_cons, List.map_nil]; rfl) ?_
              (with_reducible refine (i_calls 1 W9).mono ?_)
              rintro e w3 ⟨rfl, hbq⟩
              refine ⟨_, rfl, ?_⟩
              have HBn := below_step HB_ hbq
              refine hK.out _ _ ⟨(blk_cell (blk_below hbd.out HBn) 0).trans rfl, (blk_cell (blk_below hbd.out HBn) 1).trans rfl, (blk_cell (blk_below hbd.out HBn) 2).trans rfl, (blk_cell (blk_below hbd.out HBn) 3).trans rfl, (blk_cell (blk_below hbd.out HBn) 4).trans rfl, (blk_cell (blk_below hbd.out HBn) 5).trans rfl, (blk_cell (blk_below hbd.out HBn) 6).trans rfl, (blk_cell (blk_below hbd.out HBn) 7).trans rfl, (blk_cell (blk_below hbf.out HBn) 0).trans rfl, (blk_cell (blk_below hbf.out HBn) 1).trans rfl, (blk_cell (blk_below hbf.out HBn) 2).trans rfl, (blk_cell (blk_below hbf.out HBn) 3).trans rfl, (blk_cell (blk_below hbf.out HBn) 4).trans rfl, (blk_cell (blk_below hbf.out HBn) 5).trans rfl, (blk_cell (blk_below hbf.out HBn) 6).trans rfl, (blk_cell (blk_below hbf.out HBn) 7).trans rfl⟩ (fun hHeld => ?_)
              clear hK K
              refine norm_ (a' := ?_) ?_ ?_
              rotate_left
              · show Act.put _ (some 39) _ = _
                simp only [Act.put, List.setIfInBounds_toArray, List.set_cons_zero, List.set_cons_succ, i64_w, i32_w]
                rfl
              exact norm_ (by first | (simp only [putAll, Act.put, List.setIfInBounds_toArray, List.set_cons_zero, List.set_cons_succ]; done) | (simp only [putAll, Act.put, List.setIfInBounds_toArray, List.set_cons_zero, List.set_cons_succ]; rfl)) (hJ0_3_5 (b42, b8, B1, B2, c2) _ ⟨HBn, ⟨blk_below h3.1 hbq, h3.2⟩, ⟨blk_below h5.1 hbq, h5.2⟩, h35⟩)
          · skip
            rintro ⟨b42, b8, B1, B2, c2⟩ W9 ⟨HB_, h5⟩
            try dsimp only at h5
            have hHeld : W9.cell? ⟨w4.heap.size, 0, none⟩ = some (.string ⟨#[100]⟩) ∧ W9.cell? ⟨w4.heap.size, 1, none⟩ = some (.slice none 0 0) ∧ W9.cell? ⟨w4.heap.size, 2, none⟩ = some (.int .i64 2) ∧ W9.cell? ⟨w4.heap.size, 3, none⟩ = some (.string ⟨#[]⟩) ∧ W9.cell? ⟨w4.heap.size, 4, none⟩ = some (.int .i64 1) ∧ W9.cell? ⟨w4.heap.size, 5, none⟩ = some (.slice none 0 0) ∧ W9.cell? ⟨w4.heap.size, 6, none⟩ = some (.slice none 0 0) ∧ W9.cell? ⟨w4.heap.size, 7, none⟩ = some (.slice none 0 0) ∧ W9.cell? ⟨w6.heap.size, 0, none⟩ = some (.string ⟨#[102]⟩) ∧ W9.cell? ⟨w6.heap.size, 1, none⟩ = some (.slice (some ⟨w5.heap.size + 1, 0, none⟩) 1 1) ∧ W9.cell? ⟨w6.heap.size, 2, none⟩ = some (.int .i64 6) ∧ W9.cell? ⟨w6.heap.size, 3, none⟩ = some (.string ⟨#[]⟩) ∧ W9.cell? ⟨w6.heap.size, 4, none⟩ = some (.int .i64 0) ∧ W9.cell? ⟨w6.heap.size, 5, none⟩ = some (.slice (some ⟨f1, 0, none⟩) 1 1) ∧ W9.cell? ⟨w6.heap.size, 6, none⟩ = some (.slice (some ⟨f2, 0, none⟩) 1 1) ∧ W9.cell? ⟨w6.heap.size, 7, none⟩ = some (.slice none 0 0) := ⟨(blk_cell (blk_below hbd.out HB_) 0).trans rfl, (blk_cell (blk_below hbd.out HB_) 1).trans rfl, (blk_cell (blk_below hbd.out HB_) 2).trans rfl, (blk_cell (blk_below hbd.out HB_) 3).trans rfl, (blk_cell (blk_below hbd.out HB_) 4).trans rfl, (blk_cell (blk_below hbd.out HB_) 5).trans rfl, (blk_cell (blk_below hbd.out HB_) 6).trans rfl, (blk_cell (blk_below hbd.out HB_) 7).trans rfl, (blk_cell (blk_below hbf.out HB_) 0).trans rfl, (blk_cell (blk_below hbf.out HB_) 1).trans rfl, (blk_cell (blk_below hbf.out HB_) 2).trans rfl, (blk_cell (blk_below hbf.out HB_) 3).trans rfl, (blk_cell (blk_below hbf.out HB_) 4).trans rfl, (blk_cell (blk_below hbf.out HB_) 5).trans rfl, (blk_cell (blk_below hbf.out HB_) 6).trans rfl, (blk_cell (blk_below hbf.out HB_) 7).trans rfl⟩
            refine norm_ (a' := ?_) ?_ ?_
            rotate_left
            · simp only [putAll, Act.put, List.setIfInBounds_toArray, List.set_cons_zero, List.set_cons_succ]
              rfl
            refine one_ (i := 3) (N := some 42) #[true, true, true, true, false, true, false] rfl rfl (by kernel_rfl) (by decide) (fun K hK => ?_)
            refine value_ (w1 := ?_) (v := ?_) (by rfl) rfl ?_ ?_
            rotate_left 2
            · go_simp
              constructor
              · rfl
              · rfl
            have hbq := below_alloc (Below.refl W9.heap.size W9) (.cells #[.string ⟨#[100]⟩, .slice none 0 0, .int .i64 2, .string ⟨#[]⟩, .int .i64 1, .slice none 0 0, .slice none 0 0, .slice none 0 0, .string ⟨#[102]⟩, .slice (some ⟨w5.heap.size + 1, 0, none⟩) 1 1, .int .i64 6, .string ⟨#[]⟩, .int .i64 0, .slice (some ⟨f1, 0, none⟩) 1 1, .slice (some ⟨f2, 0, none⟩) 1 1, .slice none 0 0] 30)
            have HBn := below_step HB_ hbq
            refine hK.out _ _ ⟨(blk_cell (blk_below hbd.out HBn) 0).trans rfl, (blk_cell (blk_below hbd.out HBn) 1).trans rfl, (blk_cell (blk_below hbd.out HBn) 2).trans rfl, (blk_cell (blk_below hbd.out HBn) 3).trans rfl, (blk_cell (blk_below hbd.out HBn) 4).trans rfl, (blk_cell (blk_below hbd.out HBn) 5).trans rfl, (blk_cell (blk_below hbd.out HBn) 6).trans rfl, (blk_cell (blk_below hbd.out HBn) 7).trans rfl, (blk_cell (blk_below hbf.out HBn) 0).trans rfl, (blk_cell (blk_below hbf.out HBn) 1).trans rfl, (blk_cell (blk_below hbf.out HBn) 2).trans rfl, (blk_cell (blk_below hbf.out HBn) 3).trans rfl, (blk_cell (blk_below hbf.out HBn) 4).trans rfl, (blk_cell (blk_below hbf.out HBn) 5).trans rfl, (blk_cell (blk_below hbf.out HBn) 6).trans rfl, (blk_cell (blk_below hbf.out HBn) 7).trans rfl⟩ (fun hHeld => ?_)
            clear hK K
            refine norm_ (a' := ?_) ?_ ?_
            rotate_left
            · show Act.put _ (some 42) _ = _
              simp only [Act.put, List.setIfInBounds_toArray, List.set_cons_zero, List.set_cons_succ, i64_w, i32_w]
              rfl
            exact norm_ (by first | (simp only [putAll, Act.put, List.setIfInBounds_toArray, List.set_cons_zero, List.set_cons_succ]; done) | (simp only [putAll, Act.put, List.setIfInBounds_toArray, List.set_cons_zero, List.set_cons_succ]; rfl)) (hJ0_3_5 (W9.heap.size, b8, B1, B2, c2) _ ⟨HBn, ⟨blk_new W9 _, HB_.size⟩, ⟨blk_below h5.1 hbq, h5.2⟩, fun e => by dsimp only at e; have := (Array.getElem?_eq_some_iff.1 h5.1).1; omega⟩)
        · skip
          rintro ⟨b42, b8, B1, B2, c2⟩ W9 ⟨HB_, h3⟩
          try dsimp only at h3
          have hHeld : W9.cell? ⟨w4.heap.size, 0, none⟩ = some (.string ⟨#[100]⟩) ∧ W9.cell? ⟨w4.heap.size, 1, none⟩ = some (.slice none 0 0) ∧ W9.cell? ⟨w4.heap.size, 2, none⟩ = some (.int .i64 2) ∧ W9.cell? ⟨w4.heap.size, 3, none⟩ = some (.string ⟨#[]⟩) ∧ W9.cell? ⟨w4.heap.size, 4, none⟩ = some (.int .i64 1) ∧ W9.cell? ⟨w4.heap.size, 5, none⟩ = some (.slice none 0 0) ∧ W9.cell? ⟨w4.heap.size, 6, none⟩ = some (.slice none 0 0) ∧ W9.cell? ⟨w4.heap.size, 7, none⟩ = some (.slice none 0 0) ∧ W9.cell? ⟨w6.heap.size, 0, none⟩ = some (.string ⟨#[102]⟩) ∧ W9.cell? ⟨w6.heap.size, 1, none⟩ = some (.slice (some ⟨w5.heap.size + 1, 0, none⟩) 1 1) ∧ W9.cell? ⟨w6.heap.size, 2, none⟩ = some (.int .i64 6) ∧ W9.cell? ⟨w6.heap.size, 3, none⟩ = some (.string ⟨#[]⟩) ∧ W9.cell? ⟨w6.heap.size, 4, none⟩ = some (.int .i64 0) ∧ W9.cell? ⟨w6.heap.size, 5, none⟩ = some (.slice (some ⟨f1, 0, none⟩) 1 1) ∧ W9.cell? ⟨w6.heap.size, 6, none⟩ = some (.slice (some ⟨f2, 0, none⟩) 1 1) ∧ W9.cell? ⟨w6.heap.size, 7, none⟩ = some (.slice none 0 0) := ⟨(blk_cell (blk_below hbd.out HB_) 0).trans rfl, (blk_cell (blk_below hbd.out HB_) 1).trans rfl, (blk_cell (blk_below hbd.out HB_) 2).trans rfl, (blk_cell (blk_below hbd.out HB_) 3).trans rfl, (blk_cell (blk_below hbd.out HB_) 4).trans rfl, (blk_cell (blk_below hbd.out HB_) 5).trans rfl, (blk_cell (blk_below hbd.out HB_) 6).trans rfl, (blk_cell (blk_below hbd.out HB_) 7).trans rfl, (blk_cell (blk_below hbf.out HB_) 0).trans rfl, (blk_cell (blk_below hbf.out HB_) 1).trans rfl, (blk_cell (blk_below hbf.out HB_) 2).trans rfl, (blk_cell (blk_below hbf.out HB_) 3).trans rfl, (blk_cell (blk_below hbf.out HB_) 4).trans rfl, (blk_cell (blk_below hbf.out HB_) 5).trans rfl, (blk_cell (blk_below hbf.out HB_) 6).trans rfl, (blk_cell (blk_below hbf.out HB_) 7).trans rfl⟩
          refine norm_ (a' := ?_) ?_ ?_
          rotate_left
          · simp only [putAll, Act.put, List.setIfInBounds_toArray, List.set_cons_zero, List.set_cons_succ]
            rfl
          refine two_ (i := 4) (j := 5) (Ni := some 43) (Nj := some 8) #[true, true, true, true, true, false, false] #[true, true, true, true, false, true, false] rfl rfl rfl rfl (by kernel_rfl) (by decide) (by decide) (fun K hK => ?_) (fun K hK => ?_)
          · skip
            obtain ⟨h3b, h3l⟩ := h3
            refine goes_ Try.func10 (by kernel_rfl) rfl #[.agg #[.int .i64 2, .string ⟨#[]⟩, .int .i64 1, .slice none 0 0, .slice none 0 0, .slice none 0 0], .slice (some ⟨b42, 0, none⟩) 2 2] (by rfl) rfl rfl (by simp only [List.map_toArray, List.map_cons, List.map_nil]; rfl) ?_
            (with_reducible refine (main2_calls hKd.out hKf.out HB_ h3b).mono ?_)
            rintro e w3 ⟨B1, B2, c2, rfl, hF, hbq⟩
            refine ⟨_, rfl, ?_⟩
            have HBn := below_step HB_ hbq
            have hF : Kd.F k30 w3 _ B2 3 ([dD, fD 1, dM]) := hF
            refine hK.out _ _ ⟨(blk_cell (blk_below hbd.out HBn) 0).trans rfl, (blk_cell (blk_below hbd.out HBn) 1).trans rfl, (blk_cell (blk_below hbd.out HBn) 2).trans rfl, (blk_cell (blk_below hbd.out HBn) 3).trans rfl, (blk_cell (blk_below hbd.out HBn) 4).trans rfl, (blk_cell (blk_below hbd.out HBn) 5).trans rfl, (blk_cell (blk_below hbd.out HBn) 6).trans rfl, (blk_cell (blk_below hbd.out HBn) 7).trans rfl, (blk_cell (blk_below hbf.out HBn) 0).trans rfl, (blk_cell (blk_below hbf.out HBn) 1).trans rfl, (blk_cell (blk_below hbf.out HBn) 2).trans rfl, (blk_cell (blk_below hbf.out HBn) 3).trans rfl, (blk_cell (blk_below hbf.out HBn) 4).trans rfl, (blk_cell (blk_below hbf.out HBn) 5).trans rfl, (blk_cell (blk_below hbf.out HBn) 6).trans rfl, (blk_cell (blk_below hbf.out HBn) 7).trans rfl⟩ (fun hHeld => ?_)
            clear hK K
            refine norm_ (a' := ?_) ?_ ?_
            rotate_left
            · show Act.put _ (some 43) _ = _
              simp only [Act.put, List.setIfInBounds_toArray, List.set_cons_zero, List.set_cons_succ, i64_w, i32_w]
              rfl
            exact norm_ (by first | (simp only [putAll, Act.put, List.setIfInBounds_toArray, List.set_cons_zero, List.set_cons_succ]; done) | (simp only [putAll, Act.put, List.setIfInBounds_toArray, List.set_cons_zero, List.set_cons_succ]; rfl)) (hJ0_3_4 (b42, b8, B1, B2, c2) _ ⟨HBn, Kd.F_mono (Kd.F_bound hF) (fun k hk => hk.2)⟩)
          · skip
            refine value_ (w1 := ?_) (v := ?_) (by rfl) rfl ?_ ?_
            rotate_left 2
            · go_simp
              constructor
              · rfl
              · rfl
            have hbq := below_alloc (Below.refl W9.heap.size W9) (.cells #[.slice none 0 0, .slice none 0 0] 39)
            have HBn := below_step HB_ hbq
            refine hK.out _ _ ⟨(blk_cell (blk_below hbd.out HBn) 0).trans rfl, (blk_cell (blk_below hbd.out HBn) 1).trans rfl, (blk_cell (blk_below hbd.out HBn) 2).trans rfl, (blk_cell (blk_below hbd.out HBn) 3).trans rfl, (blk_cell (blk_below hbd.out HBn) 4).trans rfl, (blk_cell (blk_below hbd.out HBn) 5).trans rfl, (blk_cell (blk_below hbd.out HBn) 6).trans rfl, (blk_cell (blk_below hbd.out HBn) 7).trans rfl, (blk_cell (blk_below hbf.out HBn) 0).trans rfl, (blk_cell (blk_below hbf.out HBn) 1).trans rfl, (blk_cell (blk_below hbf.out HBn) 2).trans rfl, (blk_cell (blk_below hbf.out HBn) 3).trans rfl, (blk_cell (blk_below hbf.out HBn) 4).trans rfl, (blk_cell (blk_below hbf.out HBn) 5).trans rfl, (blk_cell (blk_below hbf.out HBn) 6).trans rfl, (blk_cell (blk_below hbf.out HBn) 7).trans rfl⟩ (fun hHeld => ?_)
            clear hK K
            refine norm_ (a' := ?_) ?_ ?_
            rotate_left
            · show Act.put _ (some 8) _ = _
              simp only [Act.put, List.setIfInBounds_toArray, List.set_cons_zero, List.set_cons_succ, i64_w, i32_w]
              rfl
            exact norm_ (by first | (simp only [putAll, Act.put, List.setIfInBounds_toArray, List.set_cons_zero, List.set_cons_succ]; done) | (simp only [putAll, Act.put, List.setIfInBounds_toArray, List.set_cons_zero, List.set_cons_succ]; rfl)) (hJ0_3_5 (b42, W9.heap.size, B1, B2, c2) _ ⟨HBn, ⟨blk_below h3.1 hbq, h3.2⟩, ⟨blk_new W9 _, HB_.size⟩, fun e => by dsimp only at e; have := (Array.getElem?_eq_some_iff.1 h3.1).1; omega⟩)
      · skip
        rintro ⟨b42, b8, B1, B2, c2⟩ W9 ⟨HB_, h3, h5, h35⟩
        try dsimp only at h3
        try dsimp only at h5
        try dsimp only at h35
        have hHeld : W9.cell? ⟨w4.heap.size, 0, none⟩ = some (.string ⟨#[100]⟩) ∧ W9.cell? ⟨w4.heap.size, 1, none⟩ = some (.slice none 0 0) ∧ W9.cell? ⟨w4.heap.size, 2, none⟩ = some (.int .i64 2) ∧ W9.cell? ⟨w4.heap.size, 3, none⟩ = some (.string ⟨#[]⟩) ∧ W9.cell? ⟨w4.heap.size, 4, none⟩ = some (.int .i64 1) ∧ W9.cell? ⟨w4.heap.size, 5, none⟩ = some (.slice none 0 0) ∧ W9.cell? ⟨w4.heap.size, 6, none⟩ = some (.slice none 0 0) ∧ W9.cell? ⟨w4.heap.size, 7, none⟩ = some (.slice none 0 0) ∧ W9.cell? ⟨w6.heap.size, 0, none⟩ = some (.string ⟨#[102]⟩) ∧ W9.cell? ⟨w6.heap.size, 1, none⟩ = some (.slice (some ⟨w5.heap.size + 1, 0, none⟩) 1 1) ∧ W9.cell? ⟨w6.heap.size, 2, none⟩ = some (.int .i64 6) ∧ W9.cell? ⟨w6.heap.size, 3, none⟩ = some (.string ⟨#[]⟩) ∧ W9.cell? ⟨w6.heap.size, 4, none⟩ = some (.int .i64 0) ∧ W9.cell? ⟨w6.heap.size, 5, none⟩ = some (.slice (some ⟨f1, 0, none⟩) 1 1) ∧ W9.cell? ⟨w6.heap.size, 6, none⟩ = some (.slice (some ⟨f2, 0, none⟩) 1 1) ∧ W9.cell? ⟨w6.heap.size, 7, none⟩ = some (.slice none 0 0) := ⟨(blk_cell (blk_below hbd.out HB_) 0).trans rfl, (blk_cell (blk_below hbd.out HB_) 1).trans rfl, (blk_cell (blk_below hbd.out HB_) 2).trans rfl, (blk_cell (blk_below hbd.out HB_) 3).trans rfl, (blk_cell (blk_below hbd.out HB_) 4).trans rfl, (blk_cell (blk_below hbd.out HB_) 5).trans rfl, (blk_cell (blk_below hbd.out HB_) 6).trans rfl, (blk_cell (blk_below hbd.out HB_) 7).trans rfl, (blk_cell (blk_below hbf.out HB_) 0).trans rfl, (blk_cell (blk_below hbf.out HB_) 1).trans rfl, (blk_cell (blk_below hbf.out HB_) 2).trans rfl, (blk_cell (blk_below hbf.out HB_) 3).trans rfl, (blk_cell (blk_below hbf.out HB_) 4).trans rfl, (blk_cell (blk_below hbf.out HB_) 5).trans rfl, (blk_cell (blk_below hbf.out HB_) 6).trans rfl, (blk_cell (blk_below hbf.out HB_) 7).trans rfl⟩
        refine norm_ (a' := ?_) ?_ ?_
        rotate_left
        · simp only [putAll, Act.put, List.setIfInBounds_toArray, List.set_cons_zero, List.set_cons_succ]
          rfl
        refine one_ (i := 4) (N := some 43) #[true, true, true, true, true, true, false] rfl rfl (by kernel_rfl) (by decide) (fun K hK => ?_)
        obtain ⟨h3b, h3l⟩ := h3
        refine goes_ Try.func10 (by kernel_rfl) rfl #[.agg #[.int .i64 2, .string ⟨#[]⟩, .int .i64 1, .slice none 0 0, .slice none 0 0, .slice none 0 0], .slice (some ⟨b42, 0, none⟩) 2 2] (by rfl) rfl rfl (by simp only [List.map_toArray, List.map_cons, List.map_nil]; rfl) ?_
        (with_reducible refine (main2_calls hKd.out hKf.out HB_ h3b).mono ?_)
        rintro e w3 ⟨B1, B2, c2, rfl, hF, hbq⟩
        refine ⟨_, rfl, ?_⟩
        have HBn := below_step HB_ hbq
        have hF : Kd.F k30 w3 _ B2 3 ([dD, fD 1, dM]) := hF
        refine hK.out _ _ ⟨(blk_cell (blk_below hbd.out HBn) 0).trans rfl, (blk_cell (blk_below hbd.out HBn) 1).trans rfl, (blk_cell (blk_below hbd.out HBn) 2).trans rfl, (blk_cell (blk_below hbd.out HBn) 3).trans rfl, (blk_cell (blk_below hbd.out HBn) 4).trans rfl, (blk_cell (blk_below hbd.out HBn) 5).trans rfl, (blk_cell (blk_below hbd.out HBn) 6).trans rfl, (blk_cell (blk_below hbd.out HBn) 7).trans rfl, (blk_cell (blk_below hbf.out HBn) 0).trans rfl, (blk_cell (blk_below hbf.out HBn) 1).trans rfl, (blk_cell (blk_below hbf.out HBn) 2).trans rfl, (blk_cell (blk_below hbf.out HBn) 3).trans rfl, (blk_cell (blk_below hbf.out HBn) 4).trans rfl, (blk_cell (blk_below hbf.out HBn) 5).trans rfl, (blk_cell (blk_below hbf.out HBn) 6).trans rfl, (blk_cell (blk_below hbf.out HBn) 7).trans rfl⟩ (fun hHeld => ?_)
        clear hK K
        refine norm_ (a' := ?_) ?_ ?_
        rotate_left
        · show Act.put _ (some 43) _ = _
          simp only [Act.put, List.setIfInBounds_toArray, List.set_cons_zero, List.set_cons_succ, i64_w, i32_w]
          rfl
        exact norm_ (by first | (simp only [putAll, Act.put, List.setIfInBounds_toArray, List.set_cons_zero, List.set_cons_succ]; done) | (simp only [putAll, Act.put, List.setIfInBounds_toArray, List.set_cons_zero, List.set_cons_succ]; rfl)) (hJ0_3_4_5 (b42, b8, B1, B2, c2) _ ⟨HBn, ⟨blk_below h5.1 hbq, h5.2⟩, Kd.F_mono hF (fun k hk e => by dsimp only at e; have := h5.2; have := (Array.getElem?_eq_some_iff.1 h5.1).1; rcases hk with ⟨hk | hk, _⟩ | hk; omega; exact h35 (hk.symm.trans e); omega)⟩)
    · skip
      rintro ⟨b42, b8, B1, B2, c2⟩ W9 ⟨HB_, h4⟩
      try dsimp only at h4
      have hHeld : W9.cell? ⟨w4.heap.size, 0, none⟩ = some (.string ⟨#[100]⟩) ∧ W9.cell? ⟨w4.heap.size, 1, none⟩ = some (.slice none 0 0) ∧ W9.cell? ⟨w4.heap.size, 2, none⟩ = some (.int .i64 2) ∧ W9.cell? ⟨w4.heap.size, 3, none⟩ = some (.string ⟨#[]⟩) ∧ W9.cell? ⟨w4.heap.size, 4, none⟩ = some (.int .i64 1) ∧ W9.cell? ⟨w4.heap.size, 5, none⟩ = some (.slice none 0 0) ∧ W9.cell? ⟨w4.heap.size, 6, none⟩ = some (.slice none 0 0) ∧ W9.cell? ⟨w4.heap.size, 7, none⟩ = some (.slice none 0 0) ∧ W9.cell? ⟨w6.heap.size, 0, none⟩ = some (.string ⟨#[102]⟩) ∧ W9.cell? ⟨w6.heap.size, 1, none⟩ = some (.slice (some ⟨w5.heap.size + 1, 0, none⟩) 1 1) ∧ W9.cell? ⟨w6.heap.size, 2, none⟩ = some (.int .i64 6) ∧ W9.cell? ⟨w6.heap.size, 3, none⟩ = some (.string ⟨#[]⟩) ∧ W9.cell? ⟨w6.heap.size, 4, none⟩ = some (.int .i64 0) ∧ W9.cell? ⟨w6.heap.size, 5, none⟩ = some (.slice (some ⟨f1, 0, none⟩) 1 1) ∧ W9.cell? ⟨w6.heap.size, 6, none⟩ = some (.slice (some ⟨f2, 0, none⟩) 1 1) ∧ W9.cell? ⟨w6.heap.size, 7, none⟩ = some (.slice none 0 0) := ⟨(blk_cell (blk_below hbd.out HB_) 0).trans rfl, (blk_cell (blk_below hbd.out HB_) 1).trans rfl, (blk_cell (blk_below hbd.out HB_) 2).trans rfl, (blk_cell (blk_below hbd.out HB_) 3).trans rfl, (blk_cell (blk_below hbd.out HB_) 4).trans rfl, (blk_cell (blk_below hbd.out HB_) 5).trans rfl, (blk_cell (blk_below hbd.out HB_) 6).trans rfl, (blk_cell (blk_below hbd.out HB_) 7).trans rfl, (blk_cell (blk_below hbf.out HB_) 0).trans rfl, (blk_cell (blk_below hbf.out HB_) 1).trans rfl, (blk_cell (blk_below hbf.out HB_) 2).trans rfl, (blk_cell (blk_below hbf.out HB_) 3).trans rfl, (blk_cell (blk_below hbf.out HB_) 4).trans rfl, (blk_cell (blk_below hbf.out HB_) 5).trans rfl, (blk_cell (blk_below hbf.out HB_) 6).trans rfl, (blk_cell (blk_below hbf.out HB_) 7).trans rfl⟩
      refine norm_ (a' := ?_) ?_ ?_
      rotate_left
      · simp only [putAll, Act.put, List.setIfInBounds_toArray, List.set_cons_zero, List.set_cons_succ]
        rfl
      refine one_ (i := 5) (N := some 8) #[true, true, true, true, true, true, false] rfl rfl (by kernel_rfl) (by decide) (fun K hK => ?_)
      refine value_ (w1 := ?_) (v := ?_) (by rfl) rfl ?_ ?_
      rotate_left 2
      · go_simp
        constructor
        · rfl
        · rfl
      have hbq := below_alloc (Below.refl W9.heap.size W9) (.cells #[.slice none 0 0, .slice none 0 0] 39)
      have HBn := below_step HB_ hbq
      refine hK.out _ _ ⟨(blk_cell (blk_below hbd.out HBn) 0).trans rfl, (blk_cell (blk_below hbd.out HBn) 1).trans rfl, (blk_cell (blk_below hbd.out HBn) 2).trans rfl, (blk_cell (blk_below hbd.out HBn) 3).trans rfl, (blk_cell (blk_below hbd.out HBn) 4).trans rfl, (blk_cell (blk_below hbd.out HBn) 5).trans rfl, (blk_cell (blk_below hbd.out HBn) 6).trans rfl, (blk_cell (blk_below hbd.out HBn) 7).trans rfl, (blk_cell (blk_below hbf.out HBn) 0).trans rfl, (blk_cell (blk_below hbf.out HBn) 1).trans rfl, (blk_cell (blk_below hbf.out HBn) 2).trans rfl, (blk_cell (blk_below hbf.out HBn) 3).trans rfl, (blk_cell (blk_below hbf.out HBn) 4).trans rfl, (blk_cell (blk_below hbf.out HBn) 5).trans rfl, (blk_cell (blk_below hbf.out HBn) 6).trans rfl, (blk_cell (blk_below hbf.out HBn) 7).trans rfl⟩ (fun hHeld => ?_)
      clear hK K
      refine norm_ (a' := ?_) ?_ ?_
      rotate_left
      · show Act.put _ (some 8) _ = _
        simp only [Act.put, List.setIfInBounds_toArray, List.set_cons_zero, List.set_cons_succ, i64_w, i32_w]
        rfl
      exact norm_ (by first | (simp only [putAll, Act.put, List.setIfInBounds_toArray, List.set_cons_zero, List.set_cons_succ]; done) | (simp only [putAll, Act.put, List.setIfInBounds_toArray, List.set_cons_zero, List.set_cons_succ]; rfl)) (hJ0_3_4_5 (b42, W9.heap.size, B1, B2, c2) _ ⟨HBn, ⟨blk_new W9 _, HB_.size⟩, Kd.F_mono (Kd.F_below h4 hbq) (fun k hk e => by dsimp only at e; omega)⟩)
  rintro ⟨b42, b8, B1, B2, c2⟩ W9 ⟨HB_, h5, h45⟩
  try dsimp only at h5
  try dsimp only at h45
  obtain ⟨hb8, hl8⟩ := h5
  have hr0 := (blk_cell hb8 0).trans rfl
  have hr1 := (blk_cell hb8 1).trans rfl
  have hq0 := blk_frozen hb8 0
  have hq1 := blk_frozen hb8 1
  have H8 := Aside0.mk (And.intro hb8 hl8)
  have H45 := Aside0.mk h45
  clear hb8 hl8 h45
  have hHeld : W9.cell? ⟨w4.heap.size, 0, none⟩ = some (.string ⟨#[100]⟩) ∧ W9.cell? ⟨w4.heap.size, 1, none⟩ = some (.slice none 0 0) ∧ W9.cell? ⟨w4.heap.size, 2, none⟩ = some (.int .i64 2) ∧ W9.cell? ⟨w4.heap.size, 3, none⟩ = some (.string ⟨#[]⟩) ∧ W9.cell? ⟨w4.heap.size, 4, none⟩ = some (.int .i64 1) ∧ W9.cell? ⟨w4.heap.size, 5, none⟩ = some (.slice none 0 0) ∧ W9.cell? ⟨w4.heap.size, 6, none⟩ = some (.slice none 0 0) ∧ W9.cell? ⟨w4.heap.size, 7, none⟩ = some (.slice none 0 0) ∧ W9.cell? ⟨w6.heap.size, 0, none⟩ = some (.string ⟨#[102]⟩) ∧ W9.cell? ⟨w6.heap.size, 1, none⟩ = some (.slice (some ⟨w5.heap.size + 1, 0, none⟩) 1 1) ∧ W9.cell? ⟨w6.heap.size, 2, none⟩ = some (.int .i64 6) ∧ W9.cell? ⟨w6.heap.size, 3, none⟩ = some (.string ⟨#[]⟩) ∧ W9.cell? ⟨w6.heap.size, 4, none⟩ = some (.int .i64 0) ∧ W9.cell? ⟨w6.heap.size, 5, none⟩ = some (.slice (some ⟨f1, 0, none⟩) 1 1) ∧ W9.cell? ⟨w6.heap.size, 6, none⟩ = some (.slice (some ⟨f2, 0, none⟩) 1 1) ∧ W9.cell? ⟨w6.heap.size, 7, none⟩ = some (.slice none 0 0) := ⟨(blk_cell (blk_below hbd.out HB_) 0).trans rfl, (blk_cell (blk_below hbd.out HB_) 1).trans rfl, (blk_cell (blk_below hbd.out HB_) 2).trans rfl, (blk_cell (blk_below hbd.out HB_) 3).trans rfl, (blk_cell (blk_below hbd.out HB_) 4).trans rfl, (blk_cell (blk_below hbd.out HB_) 5).trans rfl, (blk_cell (blk_below hbd.out HB_) 6).trans rfl, (blk_cell (blk_below hbd.out HB_) 7).trans rfl, (blk_cell (blk_below hbf.out HB_) 0).trans rfl, (blk_cell (blk_below hbf.out HB_) 1).trans rfl, (blk_cell (blk_below hbf.out HB_) 2).trans rfl, (blk_cell (blk_below hbf.out HB_) 3).trans rfl, (blk_cell (blk_below hbf.out HB_) 4).trans rfl, (blk_cell (blk_below hbf.out HB_) 5).trans rfl, (blk_cell (blk_below hbf.out HB_) 6).trans rfl, (blk_cell (blk_below hbf.out HB_) 7).trans rfl⟩
  refine norm_ (a' := ?_) ?_ ?_
  rotate_left
  · simp only [putAll, Act.put, List.setIfInBounds_toArray, List.set_cons_zero, List.set_cons_succ]
    rfl
  refine last_ (i := 6) (N := none) #[true, true, true, true, true, true, true] rfl rfl (by kernel_rfl) (by decide) (fun K hK => ?_)
  refine skip_ (w1 := ?_) (by rfl) rfl ?_ ?_
  rotate_left
  · go_simp
    rfl
  refine hK.out _ _ ?_
  clear hK K
  refine done_ (by kernel_rfl) ?_
  obtain ⟨hk8, hl8⟩ := H8.out
  obtain ⟨WS, hWS⟩ : ∃ WS, ((W9.setCell ⟨b8, 0, none⟩ (.slice B1 1 1)).setCell ⟨b8, 1, none⟩ (.slice B2 3 c2)) = WS := ⟨_, rfl⟩
  have K8 : WS.heap[b8]? = some (.cells #[.slice B1 1 1, .slice B2 3 c2] 39 (0, 0)) := by rw [← hWS]; exact blk_put (blk_put hk8 0 _ rfl) 1 _ rfl
  have hC : Kd.C k30 WS B2 3 [dD, fD 1, dM] := by rw [← hWS]; exact Kd.F_now (Kd.F_far (Kd.F_far H45.out (p := ⟨b8, 0, none⟩) (fun _ hk => hk) _) (p := ⟨b8, 1, none⟩) (fun _ hk => hk) _)
  have HBS : Aside0 (Below w.heap.size w WS) := ⟨by rw [← hWS]; have h1 := HB0.out.trans (HB_.mono HB0.out.size); have h2 := HB0.out.size; exact (h1.setCell (p := ⟨b8, 0, none⟩) (Nat.le_trans h2 hl8) _).setCell (p := ⟨b8, 1, none⟩) (Nat.le_trans h2 hl8) _⟩
  skip
  rw [hWS]
  clear hWS hHeld hr0 hr1 hq0 hq1 HB_ H45 H8 hk8 HB0 hbd hbf hKd hKf
  have hx0 := (blk_cell K8 0).trans rfl
  have hx1 := (blk_cell K8 1).trans rfl
  replace K8 := Aside0.mk K8
  obtain ⟨o1, o2, o3, o4⟩ := hd_at hd_all.2.1
  replace o1 := Aside0.mk o1
  replace o2 := Aside0.mk o2
  replace o3 := Aside0.mk o3
  replace o4 := Aside0.mk o4
  have CU1 := usesX (Ad := B1) (nd := 1) (cd := 1) (cf := c2) [dD, fD 1, dM] o1.out 3 0 rfl 1 1 rfl (by decide) o2.out rfl hC
  have HC := Aside0.mk hC
  clear hC
  have T1 : True := trivial
  go_wp2_with (first | (clear T1; go_at_call 12; go_loud (with_reducible refine (CU1).mono ?_); rintro e w11 ⟨A1, c1, rfl, hc1, hC1, hb1⟩; have hk11 := blk_below K8.out (hb1); have hx0 := (blk_cell hk11 0).trans rfl; have hx1 := (blk_cell hk11 1).trans rfl; replace K8 := Aside0.mk hk11; have HCn := Aside0.mk (Kd.C_below HC.out (hb1)); replace HC := HCn; have HBn := Aside0.mk (below_step HBS.out (hb1)); replace HBS := HBn; clear hk11 HCn HBn; have CS := @same0_calls w11 A1 none c1 0; clear hb1 hC1 CU1; have T2 : True := trivial) | (clear T2; go_at_call 11; go_loud (with_reducible refine (CS).mono ?_); rintro e w12 ⟨rfl, hd12⟩; have hk12 := blk_below K8.out (hd12.below); have hx0 := (blk_cell hk12 0).trans rfl; have hx1 := (blk_cell hk12 1).trans rfl; replace K8 := Aside0.mk hk12; have HCn := Aside0.mk (Kd.C_below HC.out (hd12.below)); replace HC := HCn; have HBn := Aside0.mk (below_step HBS.out (hd12.below)); replace HBS := HBn; clear hk12 HCn HBn; have CU := usesX (Ad := B1) (nd := 1) (cd := 1) (cf := c2) [dD, fD 1, dM] o1.out 3 0 rfl 2 2 rfl (by decide) o3.out rfl HC.out; clear hd12 CS; have T3 : True := trivial) | (clear T3; go_at_call 12; go_loud (with_reducible refine (CU).mono ?_); rintro e w13 ⟨A3, c3, rfl, hc3, hC3, hb3⟩; have hk13 := blk_below K8.out (hb3); have hx0 := (blk_cell hk13 0).trans rfl; have hx1 := (blk_cell hk13 1).trans rfl; replace K8 := Aside0.mk hk13; have HCn := Aside0.mk (Kd.C_below HC.out (hb3)); replace HC := HCn; have HBn := Aside0.mk (below_step HBS.out (hb3)); replace HBS := HBn; clear hk13 HCn HBn; have CV := uses0_calls (w := w13) 9 (Ad := B1) (Af := B2) (nd := 1) (cd := 1) (n := 3) (cf := c2) (Or.inr (by decide)); clear hb3 hC3 CU hc3; have T4 : True := trivial) | (clear T4; go_at_call 12; go_loud (with_reducible refine (CV).mono ?_); rintro e w14 ⟨rfl, hb4⟩; have hk14 := blk_below K8.out (hb4); have hx0 := (blk_cell hk14 0).trans rfl; have hx1 := (blk_cell hk14 1).trans rfl; replace K8 := Aside0.mk hk14; have HCn := Aside0.mk (Kd.C_below HC.out (hb4)); replace HC := HCn; have HBn := Aside0.mk (below_step HBS.out (hb4)); replace HBS := HBn; clear hk14 HCn HBn; have CN := neededX (Ad := B1) (nd := 1) (cd := 1) (cf := c2) [dD, fD 1, dM] o1.out 3 1 rfl 0 0 rfl (by decide) o4.out rfl HC.out; clear hb4 CV; have T5 : True := trivial) | (clear T5; go_at_call 13; go_loud (with_reducible refine (CN).mono ?_); rintro e w15 ⟨A5, c5, rfl, hc5, hC5, hb5⟩; have hk15 := blk_below K8.out (hb5); have hx0 := (blk_cell hk15 0).trans rfl; have hx1 := (blk_cell hk15 1).trans rfl; replace K8 := Aside0.mk hk15; have HCn := Aside0.mk (Kd.C_below HC.out (hb5)); replace HC := HCn; have HBn := Aside0.mk (below_step HBS.out (hb5)); replace HBS := HBn; clear hk15 HCn HBn; have CS := same1_calls 0 (w15.alloc (.cells #[.int .i64 0] 3)) (Kd.C_alloc hC5 _) hc5 (c_ints [0] (blk_new w15 _) (by decide)) (Nat.le_refl _); clear hb5 hC5 CN; have T6 : True := trivial) | (clear T6; go_at_call 11; go_loud (with_reducible refine (CS).mono ?_); rintro e w16 ⟨rfl, hd16⟩; have hb6 := below_step (below_alloc (Below.refl w15.heap.size w15) (.cells #[.int .i64 0] 3)) hd16.below; have hk16 := blk_below K8.out (hb6); have hx0 := (blk_cell hk16 0).trans rfl; have hx1 := (blk_cell hk16 1).trans rfl; replace K8 := Aside0.mk hk16; have HCn := Aside0.mk (Kd.C_below HC.out (hb6)); replace HC := HCn; have HBn := Aside0.mk (below_step HBS.out (hb6)); replace HBS := HBn; clear hk16 HCn HBn; have CW := needed0_calls (w := w16) (-1) (Ad := B1) (Af := B2) (nd := 1) (cd := 1) (n := 3) (cf := c2) (Or.inl (by decide)); clear hd16 hb6 CS; have T7 : True := trivial) | (clear T7; go_at_call 13; go_loud (with_reducible refine (CW).mono ?_); rintro e w17 ⟨rfl, hb7⟩; have HBZ := Aside0.mk (below_step HBS.out hb7); clear hb7 CW; have T8 : True := trivial))
  go_ret
  exact ⟨rfl, HBZ.out⟩
end Go.Proofs.Ytlgpoigbadajnaa.DepA
