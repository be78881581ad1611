/- HeapApart: its walk. No condition beyond those that each states. -/
import Derived.Test.YtepaddjjdhpmpaaDoorHeapApartP
namespace Go.Proofs.YtepaddjjdhpmpaaDoor.HeapA
open Go.RowKit Go.Proofs.YtepaddjjdhpmpaaDoorW.PrintWords Go.Proofs.YtepaddjjdhpmpaaDoorW.PrintLast Go.Proofs.YtepaddjjdhpmpaaDoorW.PrintMore Go.Proofs.YtepaddjjdhpmpaaDoor.HeapK Go.Proofs.YtepaddjjdhpmpaaDoor.PHeapP
set_option linter.unusedVariables false
set_option linter.unusedSimpArgs false
theorem set_77 {B : Nat} {W : World} {b : Nat} {half : Int} {P P' : PH} {Z : Nat → Prop} (h : HP B W b half P Z) (hp : pSet P 0 0 ⟨false, 77⟩ = some P') : Calls Tryd.prog 15 #[.pointer (some ⟨b, 0, none⟩), .int .i64 0, .int .i64 0, .agg #[.bool false, .int .i64 77]] W fun e W' => e = .returned (.bool true) ∧ Op B b half W Z P' W' := by
  have h1 := set_p h hp
  simp only [Int.natCast_zero, Int.ofNat_eq_natCast] at h1
  exact h1
theorem alloc_5 {B : Nat} {W : World} {b : Nat} {half : Int} {P P' : PH} {Z : Nat → Prop} (h : HP B W b half P Z) {r : Int × Bool} (hp : pAlloc half P 5 [] = some (P', r)) : Calls Tryd.prog 11 #[.pointer (some ⟨b, 0, none⟩), .int .i64 5, .slice none 0 0] W fun e W' => e = .returned (.tuple #[.int .i64 r.1, .bool r.2]) ∧ Op B b half W Z P' W' := by
  have h1 := alloc_p h (A := none) (c := 0) (Kd.C_nil _ _) hp
  simp only [List.length_nil] at h1
  exact h1
theorem node_2 {B : Nat} {W : World} {b : Nat} {half : Int} {P : PH} {Z : Nat → Prop} (h : HP B W b half P Z) {nd : Nd} {x y : Int} (hp : pNode P 0 = some nd) (hf : nd.fs = [⟨false, x⟩, ⟨false, y⟩]) :
    Calls Tryd.prog 16 #[.pointer (some ⟨b, 0, none⟩), .int .i64 0] W fun e W' => ∃ g c, e = .returned (.tuple #[.int .i64 nd.tag, .slice (some ⟨g, 0, none⟩) 2 c, .bool true]) ∧ W'.cell? ⟨g, 1, none⟩ = some (.int .i64 x) ∧ W'.cell? ⟨g, 3, none⟩ = some (.int .i64 y) ∧ (∀ i, W'.frozen? ⟨g, i, none⟩ = false) ∧ W.heap.size ≤ g ∧ ¬ Z g ∧ Below W.heap.size W W' := by
  refine (node_p h hp).mono ?_
  rintro e W' ⟨u, rfl, hr, hb, _⟩
  obtain ⟨A, c, hv⟩ := Kd.R_slice hr
  subst hv
  rw [hf] at hr
  have hl : nd.fs.length = 2 := by rw [hf]; rfl
  rw [hl]
  obtain ⟨g, rfl, _, h1, _, h3, hz, hg, hn⟩ := own_two (by simpa using hr)
  exact ⟨g, c, rfl, h1, h3, hz, hg, hn, hb⟩
theorem collect_0 {B : Nat} {W : World} {b : Nat} {half : Int} {P P' : PH} {Z : Nat → Prop} (h : HP B W b half P Z) {us : List S33} (hp : pCollect P [] = some (P', us)) :
    Calls Tryd.prog 14 #[.pointer (some ⟨b, 0, none⟩), .slice none 0 0] W fun e W' => ∃ u, e = .returned u ∧ Op B b half W Z P' W' := by
  have h1 := collect_p h (ws := []) (c := 0) (A := none) (Kd.C_nil _ _) (by simp) hp
  simp only [List.length_nil] at h1
  refine h1.mono ?_
  rintro e W' ⟨u, Z', rfl, h', _, hm, hz⟩
  exact ⟨u, rfl, Z', h', hm, hz⟩
theorem not_0 {B : Nat} {W : World} {b : Nat} {half : Int} {P : PH} {Z : Nat → Prop} (h : HP B W b half P Z) (hp : find P.l 0 = none) :
    Calls Tryd.prog 16 #[.pointer (some ⟨b, 0, none⟩), .int .i64 0] W fun e W' => e = .returned (.tuple #[.int .i64 0, .slice none 0 0, .bool false]) ∧ Below W.heap.size W W' := by
  refine (node_not h (show WF 0 from ⟨by decide, by decide⟩) hp).mono ?_
  rintro e W' ⟨rfl, hb, _⟩
  exact ⟨rfl, hb⟩
theorem Op.cell {B : Nat} {W W1 : World} {b : Nat} {half : Int} {P : PH} {Z : Nat → Prop} (h : Op B b half W Z P W1) {a : Addr} {v : Value} (hc : W.cell? a = some v) (hn : ¬ Z a.block) : W1.cell? a = some v := by
  obtain ⟨_, _, hm, _⟩ := h
  have := hm.block a.block (World.block_lt_of_cell? _ _ hc) hn
  rw [World.cell?] at hc ⊢
  rwa [this]
set_option maxHeartbeats 16000000 in
set_option maxRecDepth 100000 in
theorem apart_walk (a0 : Int) (w : World) : Calls Tryd.prog 7 #[.int .i64 a0] w fun e w' => e = .returned (.bool true) ∧ Below w.heap.size w w' := by
  have CF := first_calls w
  have CN := fun W => number_p a0 10 (by decide) (by decide) W
  go_enter Tryd.func7, Tryd.ntmps7
  go_wp2_with (first | (go_at_call 8; (with_reducible refine CF.mono ?_); rintro e w1 ⟨rfl, hb1⟩; have HB1 := Aside0.mk hb1; clear hb1 CF) | (go_at_call 9; (with_reducible refine (CN w1).mono ?_); rintro e w2 ⟨k, rfl, hk1, hb2⟩; have HB2 := Aside0.mk (below_step HB1.out hb2); clear hb2 CN) | (go_at_call 10; (with_reducible refine (new_q HB2.out 500 (by decide) (by decide)).mono ?_); rintro e w4 ⟨rfl, hq4⟩; rw [show (500 : Int) / 2 = 250 by decide] at hq4; have HQ4 := Aside0.mk hq4; clear hq4))
  obtain ⟨PA, nd, P1, P2, r, nd2, P3, us, hA, hus, hpt, hlen, hnd, hnf, hP1, hP2, hnd2, hnf2, hcol, hu3, hf3⟩ := ap_facts (ap_all (k + 1) (by omega) (by omega))
  rw [show (((k + 1 : Nat)) : Int) = (k : Int) + 1 from rfl] at hus
  replace hA := Aside0.mk hA
  replace hus := Aside0.mk hus
  replace hpt := Aside0.mk hpt
  replace hlen := Aside0.mk hlen
  replace hnd := Aside0.mk hnd
  replace hnf := Aside0.mk hnf
  replace hP1 := Aside0.mk hP1
  replace hP2 := Aside0.mk hP2
  replace hnd2 := Aside0.mk hnd2
  replace hnf2 := Aside0.mk hnf2
  replace hcol := Aside0.mk hcol
  replace hu3 := Aside0.mk hu3
  replace hf3 := Aside0.mk hf3
  generalize w2.heap.size + 1 = b at *
  go_loopg [6] (k + 2) (fun kq v6 w' => ∃ (i : Nat) (P : PH), v6 = .int .i64 (i : Int) ∧ i + kq = k + 2 ∧ 1 ≤ kq ∧ Aside0 (HQ w w' b 250 P) ∧ Aside0 (apA (k + 1 - i) i P = some PA))
  case atStart => exact ⟨0, _, rfl, by omega, by omega, HQ4, hA⟩
  case round =>
    obtain ⟨i, P, rfl, hi, hk, hq, hr⟩ := hrel
    by_cases hlt : i < k + 1
    · have q1 : decide ((i : Int) < (k : Int) + 1) = true := decide_eq_true (by omega)
      have hr2 := hr.out
      rw [show k + 1 - i = (k - i) + 1 by omega] at hr2
      obtain ⟨P', rr, hp, hrn⟩ := apA_step hr2
      have hrn := Aside0.mk hrn
      have CA := alloc_q (hq.out.below (below_alloc (Below.refl _ wr) (.cells #[.bool false, .int .i64 1, .bool false, .int .i64 2] 33))) (c := 2) (c_two wr ⟨false, 1⟩ ⟨false, 2⟩) (m := 2) rfl hp
      clear hp hr2
      go_wp2_with (first | (go_at_call 11; go_loud (with_reducible refine CA.mono ?_); rintro e w6 ⟨rfl, hq1⟩; have HQ1 := Aside0.mk hq1; clear hq1 CA))
      go_roundg (gk - 1)
      case measure => omega
      case rel => exact ⟨i + 1, P', by go_num, by omega, by omega, HQ1, ⟨by rw [show k + 1 - (i + 1) = k - i by omega]; exact hrn.out⟩⟩
    · have q1 : decide ((i : Int) < (k : Int) + 1) = false := decide_eq_false (by omega)
      have hr2 := hr.out
      rw [show k + 1 - i = 0 by omega] at hr2
      simp only [apA, Option.some.injEq] at hr2
      subst hr2
      obtain ⟨Z, hrr⟩ := hq.out.r
      have hrr := Aside0.mk hrr
      have CC := clone_p hrr.out.2 hrr.out.1.size hpt.out hlen.out
      go_wp2_with (first | (go_at_call 19; go_loud (with_reducible refine CC.mono ?_); rintro e w5 ⟨xb, Zc, rfl, hc5, hb5⟩; have AP0 : Aside0 (AP w w5 b xb wr.heap.size 250 P P Z Zc) := ⟨⟨hrr.out.1.trans (hb5.mono hrr.out.1.size), hrr.out.2.below hb5, hc5, fun j hj => (hrr.out.2.lt hj).2, hrr.out.1.size⟩⟩; have CS := set_77 AP0.out.c hP1.out; clear hc5 hb5 CC) | (go_at_call 15; go_loud (with_reducible refine CS.mono ?_); rintro e w6 ⟨rfl, ho⟩; obtain ⟨Zc6, ap⟩ := AP0.out.opc ho; have AP6 := Aside0.mk ap; have CA := alloc_5 ap.c hP2.out; clear ho ap CS) | (go_at_call 11; go_loud (with_reducible refine CA.mono ?_); rintro e w7 ⟨rfl, ho⟩; obtain ⟨Zc7, ap⟩ := AP6.out.opc ho; have AP7 := Aside0.mk ap; have CN0 := node_2 ap.h hnd.out hnf.out; clear ho ap CA) | (go_at_call 16; go_loud (with_reducible refine CN0.mono ?_); rintro e w8 ⟨g8, c8, rfl, h81, h83, hz8, hg8, hn8, hb8⟩; have hz83 := hz8 3; have AP9 : Aside0 (AP w (w8.setCell ⟨g8, 3, none⟩ (.int .i64 99)) b xb wr.heap.size 250 P P2 Z Zc7) := ⟨(AP7.out.below hb8).set (a := ⟨g8, 3, none⟩) hn8 (fun hh => by have := (AP7.out.c.lt hh).2; exact Nat.lt_irrefl _ (Nat.lt_of_lt_of_le this hg8)) (Nat.le_trans AP7.out.bl.size hg8)⟩; have CN1 := node_2 AP9.out.h hnd.out hnf.out; clear hz8 hb8 hg8 hn8 CN0) | (go_at_call 16; go_loud (with_reducible refine CN1.mono ?_); rintro e w10 ⟨g10, c10, rfl, hA1, hA3, _, hg10, hn10, hb10⟩; have AP10 := Aside0.mk (AP9.out.below hb10); have HA10 := Aside0.mk (And.intro hA1 hA3); have HN10 := Aside0.mk (show ¬ Zc7 g10 from fun hh => by have := (AP9.out.c.lt hh).2; exact Nat.lt_irrefl _ (Nat.lt_of_lt_of_le this hg10)); have CN2 := node_2 AP10.out.c hnd2.out hnf2.out; clear hA1 hA3 hg10 hn10 hb10 CN1 h81 h83 hz83) | (go_at_call 16; go_loud (with_reducible refine CN2.mono ?_); rintro e w11 ⟨g11, c11, rfl, hC1, _, _, hg11, hn11, hb11⟩; have AP11 := Aside0.mk (AP10.out.below hb11); have HA11 := Aside0.mk (And.intro ((hb11.cell (World.block_lt_of_cell? _ _ HA10.out.1)).trans HA10.out.1) ((hb11.cell (World.block_lt_of_cell? _ _ HA10.out.2)).trans HA10.out.2)); have HC11 := Aside0.mk hC1; have HN11 := Aside0.mk hn11; have CCo := collect_0 AP11.out.c hcol.out; clear hC1 hg11 hn11 hb11 CN2) | (go_at_call 14; go_loud (with_reducible refine CCo.mono ?_); rintro e w12 ⟨u12, rfl, ho⟩; obtain ⟨Zc12, ap⟩ := AP11.out.opc ho; have AP12 := Aside0.mk ap; have HA12 := Aside0.mk (And.intro (ho.cell HA11.out.1 HN10.out) (ho.cell HA11.out.2 HN10.out)); have HC12 := Aside0.mk (ho.cell HC11.out HN11.out); have CN3 := not_0 ap.c hf3.out; clear ho ap CCo) | (go_at_call 16; go_loud (with_reducible refine CN3.mono ?_); rintro e w13 ⟨rfl, hb13⟩; have AP13 := Aside0.mk (AP12.out.below hb13); have k1 := (hb13.cell (World.block_lt_of_cell? _ _ HA12.out.1)).trans HA12.out.1; have k2 := (hb13.cell (World.block_lt_of_cell? _ _ HA12.out.2)).trans HA12.out.2; have k3 := (hb13.cell (World.block_lt_of_cell? _ _ HC12.out)).trans HC12.out; have CU := ptr_p AP13.out.h; rw [hus.out] at CU; have CV := ptr_p AP13.out.c; rw [hu3.out] at CV; clear hb13 CN3) | (go_at_call 12; go_loud (with_reducible refine CU.mono ?_); rintro e w14 ⟨rfl, rfl⟩; clear CU) | (go_at_call 12; go_loud (with_reducible refine CV.mono ?_); rintro e w15 ⟨rfl, rfl⟩; clear CV))
      go_ret
      exact ⟨rfl, AP13.out.bl⟩
end Go.Proofs.YtepaddjjdhpmpaaDoor.HeapA
