/- For each Go function that the laws of this group reach: a plain function with the same answers, and the proof that the call comes to them wherever the plain function has an answer. No other condition. (Laid by a program of this session.) -/
import Derived.Test.YtiacndjjppcaoaaDoorPLexNx0
import Derived.Test.YtiacndjjppcaoaaDoorPLexNx1
import Derived.Test.YtiacndjjppcaoaaDoorPLexNx2
import Derived.Test.YtiacndjjppcaoaaDoorExtS
namespace Go.Proofs.YtiacndjjppcaoaaDoor.PLexN
open Go.RowKit Go.Proofs.YtiacndjjppcaoaaDoorW.PrintWords Go.Proofs.YtiacndjjppcaoaaDoorW.PrintLast Go.Proofs.YtiacndjjppcaoaaDoorW.PrintMore Go.Proofs.YtiacndjjppcaoaaDoor.ExtS
attribute [local go_sem] max2_int min2_int max_two min_two max_three min_three max_four min_four   -- for this text's walks alone
set_option linter.unusedVariables false
set_option linter.unusedSimpArgs false

variable {ad : Int → Addr}
/-! ### gristmilllaw3_LexMany: function 6 -/
mutual
def gristmilllaw3_LexMany.l0 : Nat → Int → Bool → List Int → Int → Option (Bool)
  | 0, _, _, _, _ => none
  | k + 1, x0, x3, x4, x5 => if x5 < (x4.length : Int) then (if 0 ≤ x5 then (gristmilllaw3_LexMany.l0 k x0 x3 (x4.set (x5 : Int).toNat 32) (wrap64 (x5 + 1))) else (none)) else ((lex_Words.f k (strOfNums x4)).bind fun bt158 => (gristmilllaw3_LexMany.l1 k x0 x3 bt158.1 bt158.2 (⟨#[97]⟩ : ByteArray) 1))
def gristmilllaw3_LexMany.l1 : Nat → Int → Bool → List (S32) → Option Int → ByteArray → Int → Option (Bool)
  | 0, _, _, _, _, _, _ => none
  | k + 1, x0, x3, x6, x7, x8, x9 => if x9 < (wrap64 (40 + x0)) then (if x8.size + 1 ≤ 9223372036854775807 then (gristmilllaw3_LexMany.l1 k x0 x3 x6 x7 (x8 ++ (⟨#[98]⟩ : ByteArray)) (wrap64 (x9 + 1))) else (none)) else (if x3 = true then (if (x6.length : Int) = 0 then ((gristmillsee_Is.f x7 104).bind fun t162 => (if (t162 == (decide (x0 > 0))) = true then (if x7.isNone = true then (if (true == (decide (x0 ≤ 0))) = true then ((lex_Name.f k x8).bind fun t164 => (if (t164 == (decide (x0 ≤ 0))) = true then ((lex_Name.f k (⟨#[102, 110]⟩ : ByteArray)).bind fun t165 => (if t165 = true then (some false) else ((lex_Name.f k (⟨#[110, 97, 110]⟩ : ByteArray)).bind fun t166 => (if t166 = true then (some false) else ((lex_Upper.f k x8).bind fun t167 => (some (!t167))))))) else (some false))) else (some false)) else (if (false == (decide (x0 ≤ 0))) = true then ((lex_Name.f k x8).bind fun t168 => (if (t168 == (decide (x0 ≤ 0))) = true then ((lex_Name.f k (⟨#[102, 110]⟩ : ByteArray)).bind fun t169 => (if t169 = true then (some false) else ((lex_Name.f k (⟨#[110, 97, 110]⟩ : ByteArray)).bind fun t170 => (if t170 = true then (some false) else ((lex_Upper.f k x8).bind fun t171 => (some (!t171))))))) else (some false))) else (some false))) else (some false))) else (some false)) else (some false))
end
def gristmilllaw3_LexMany.f (k : Nat) (a0 : Int) : Option (Bool) := (gristmilllaw3_first.f k).bind fun t152 => (if t152 = true then ((gristmillworld_Number.f a0 7).bind fun t153 => (if 0 ≤ (wrap64 (65536 + (wrap64 (t153 - 3)))) then (if (wrap64 (65536 + (wrap64 (t153 - 3))) : Int).toNat ≤ 281474976710656 then (gristmilllaw3_LexMany.l0 k (wrap64 (t153 - 3)) t152 (List.replicate (wrap64 (65536 + (wrap64 (t153 - 3))) : Int).toNat 0) 0) else (none)) else (none))) else (some false))
theorem gristmilllaw3_LexMany.mono_l : ∀ k, (∀ y0 y1 y2 y3, LeO (gristmilllaw3_LexMany.l0 k y0 y1 y2 y3) (gristmilllaw3_LexMany.l0 (k + 1) y0 y1 y2 y3)) ∧ (∀ y0 y1 y2 y3 y4 y5, LeO (gristmilllaw3_LexMany.l1 k y0 y1 y2 y3 y4 y5) (gristmilllaw3_LexMany.l1 (k + 1) y0 y1 y2 y3 y4 y5))
  | 0 => ⟨fun _ _ _ _ r h => by simp [gristmilllaw3_LexMany.l0] at h, fun _ _ _ _ _ _ r h => by simp [gristmilllaw3_LexMany.l1] at h⟩
  | k + 1 => by
    obtain ⟨ih0, ih1⟩ := gristmilllaw3_LexMany.mono_l k
    refine ⟨?_, ?_⟩
    · intro y0 y1 y2 y3
      unfold gristmilllaw3_LexMany.l0
      repeat' first
      | (with_reducible exact ih0 _ _ _ _)
      | (with_reducible exact ih1 _ _ _ _ _ _)
      | (with_reducible exact gristmilllaw3_first.mono _)
      | (with_reducible exact lex_Name.mono _ _)
      | (with_reducible exact lex_Upper.mono _ _)
      | (with_reducible exact lex_Words.mono _ _)
      | (with_reducible exact LeO.refl _)
      | (with_reducible exact LeO.none _)
      | (with_reducible refine LeO.ite ?_ ?_)
      | (with_reducible refine LeO.bind ?_ (fun _ => ?_))
      | exact ih0 _ _ _ _
      | exact ih1 _ _ _ _ _ _
      | exact gristmilllaw3_first.mono _
      | exact lex_Name.mono _ _
      | exact lex_Upper.mono _ _
      | exact lex_Words.mono _ _
      | exact LeO.none _
      | refine LeO.ite ?_ ?_
      | refine LeO.bind ?_ (fun _ => ?_)
    · intro y0 y1 y2 y3 y4 y5
      unfold gristmilllaw3_LexMany.l1
      repeat' first
      | (with_reducible exact ih0 _ _ _ _)
      | (with_reducible exact ih1 _ _ _ _ _ _)
      | (with_reducible exact gristmilllaw3_first.mono _)
      | (with_reducible exact lex_Name.mono _ _)
      | (with_reducible exact lex_Upper.mono _ _)
      | (with_reducible exact lex_Words.mono _ _)
      | (with_reducible exact LeO.refl _)
      | (with_reducible exact LeO.none _)
      | (with_reducible refine LeO.ite ?_ ?_)
      | (with_reducible refine LeO.bind ?_ (fun _ => ?_))
      | exact ih0 _ _ _ _
      | exact ih1 _ _ _ _ _ _
      | exact gristmilllaw3_first.mono _
      | exact lex_Name.mono _ _
      | exact lex_Upper.mono _ _
      | exact lex_Words.mono _ _
      | exact LeO.none _
      | refine LeO.ite ?_ ?_
      | refine LeO.bind ?_ (fun _ => ?_)
theorem gristmilllaw3_LexMany.mono : ∀ a0 k, LeO (gristmilllaw3_LexMany.f k a0) (gristmilllaw3_LexMany.f (k + 1) a0) := by
  intro a0 k
  obtain ⟨ih0, ih1⟩ := gristmilllaw3_LexMany.mono_l k
  unfold gristmilllaw3_LexMany.f
  repeat' first
      | (with_reducible exact ih0 _ _ _ _)
      | (with_reducible exact ih1 _ _ _ _ _ _)
      | (with_reducible exact gristmilllaw3_first.mono _)
      | (with_reducible exact lex_Name.mono _ _)
      | (with_reducible exact lex_Upper.mono _ _)
      | (with_reducible exact lex_Words.mono _ _)
      | (with_reducible exact LeO.refl _)
      | (with_reducible exact LeO.none _)
      | (with_reducible refine LeO.ite ?_ ?_)
      | (with_reducible refine LeO.bind ?_ (fun _ => ?_))
      | exact ih0 _ _ _ _
      | exact ih1 _ _ _ _ _ _
      | exact gristmilllaw3_first.mono _
      | exact lex_Name.mono _ _
      | exact lex_Upper.mono _ _
      | exact lex_Words.mono _ _
      | exact LeO.none _
      | refine LeO.ite ?_ ?_
      | refine LeO.bind ?_ (fun _ => ?_)
set_option maxHeartbeats 8000000 in
set_option maxRecDepth 100000 in
theorem gristmilllaw3_LexMany.calls (k : Nat) (a0 : Int) (r : Bool) (w : World) (hGG : GG ad w) (h : gristmilllaw3_LexMany.f k a0 = some r) :
    Calls Tryd.prog 6 #[.int .i64 a0] w fun e w' => e = .returned (.bool r) ∧ Below w.heap.size w w' := by
  have hu28 := Tryd.underlying28
  have HB := Aside0.mk (Below.refl w.heap.size w)
  have H : ((gristmilllaw3_first.f k).bind fun t152 => (if t152 = true then ((gristmillworld_Number.f a0 7).bind fun t153 => (if 0 ≤ (wrap64 (65536 + (wrap64 (t153 - 3)))) then (if (wrap64 (65536 + (wrap64 (t153 - 3))) : Int).toNat ≤ 281474976710656 then (gristmilllaw3_LexMany.l0 k (wrap64 (t153 - 3)) t152 (List.replicate (wrap64 (65536 + (wrap64 (t153 - 3))) : Int).toNat 0) 0) else (none)) else (none))) else (some false))) = some r := h
  clear h
  replace H := Option.bind_eq_some_iff.mp H
  obtain ⟨t152, A20, H⟩ := H
  replace H : (if t152 = true then ((gristmillworld_Number.f a0 7).bind fun t153 => (if 0 ≤ (wrap64 (65536 + (wrap64 (t153 - 3)))) then (if (wrap64 (65536 + (wrap64 (t153 - 3))) : Int).toNat ≤ 281474976710656 then (gristmilllaw3_LexMany.l0 k (wrap64 (t153 - 3)) t152 (List.replicate (wrap64 (65536 + (wrap64 (t153 - 3))) : Int).toNat 0) 0) else (none)) else (none))) else (some false)) = some r := H
  have A2 := Aside0.mk A20
  clear A20
  by_cases c3 : t152 = true
  · subst c3
    have H1 : ((gristmillworld_Number.f a0 7).bind fun t153 => (if 0 ≤ (wrap64 (65536 + (wrap64 (t153 - 3)))) then (if (wrap64 (65536 + (wrap64 (t153 - 3))) : Int).toNat ≤ 281474976710656 then (gristmilllaw3_LexMany.l0 k (wrap64 (t153 - 3)) true (List.replicate (wrap64 (65536 + (wrap64 (t153 - 3))) : Int).toNat 0) 0) else (none)) else (none))) = some r := by rw [if_pos rfl] at H; exact H
    clear H
    have H := H1
    clear H1
    replace H := Option.bind_eq_some_iff.mp H
    obtain ⟨t153, A40, H⟩ := H
    replace H : (if 0 ≤ (wrap64 (65536 + (wrap64 (t153 - 3)))) then (if (wrap64 (65536 + (wrap64 (t153 - 3))) : Int).toNat ≤ 281474976710656 then (gristmilllaw3_LexMany.l0 k (wrap64 (t153 - 3)) true (List.replicate (wrap64 (65536 + (wrap64 (t153 - 3))) : Int).toNat 0) 0) else (none)) else (none)) = some r := H
    have A4 := Aside0.mk A40
    clear A40
    obtain ⟨ji5, hji5⟩ : ∃ j_ : Int, (wrap64 (65536 + (wrap64 (t153 - 3)))) = j_ := ⟨_, rfl⟩
    replace H : (if 0 ≤ (ji5) then (if (ji5 : Int).toNat ≤ 281474976710656 then (gristmilllaw3_LexMany.l0 k (wrap64 (t153 - 3)) true (List.replicate (ji5 : Int).toNat 0) 0) else (none)) else (none)) = some r := by first | (rw [hji5] at H; exact H) | (simp only [hji5] at H ⊢; exact H)
    (try rw [hji5] at A2)
    (try rw [hji5] at A4)
    have hji5w : (IntKind.i64.wrap (65536 + (wrap64 (t153 - 3)))) = ji5 := (i64_w _).trans hji5
    by_cases c6 : 0 ≤ (ji5)
    · rw [if_pos c6] at H
      have c6b0 := eq_true c6
      have c6b1 : decide (0 ≤ (ji5)) = true := decide_eq_true c6
      clear c6
      by_cases c7 : (ji5 : Int).toNat ≤ 281474976710656
      · rw [if_pos c7] at H
        have c7b0 := eq_true c7
        have c7b1 : decide ((ji5 : Int).toNat ≤ 281474976710656) = true := decide_eq_true c7
        clear c7
        obtain ⟨y154, hy154⟩ : ∃ y_ : List Int, y_ = (List.replicate (ji5 : Int).toNat 0) := ⟨_, rfl⟩
        replace H : (gristmilllaw3_LexMany.l0 k (wrap64 (t153 - 3)) true y154 0) = some r := by first | (rw [hy154]; with_reducible exact H) | (have H2_ := (Option.bind_some _ _).symm.trans H; rw [hy154]; with_reducible exact H2_) | (have H2_ := (Option.bind_some _ _).symm.trans H; with_reducible exact H2_) | with_reducible exact H | (rw [hy154]; exact H) | exact H
        have Ny154 := Aside0.mk hy154
        clear hy154
        have H' := Aside0.mk H
        clear H
        go_enter Tryd.func6, Tryd.ntmps6
        go_wp2_with (first | ((with_reducible refine gate_callee (f := 8) rfl ?_); refine goesL_ (some 10) rfl rfl Tryd.func8 (by kernel_rfl) rfl #[] rfl (by (try simp only [List.map_toArray, List.map_cons, List.map_nil]); first | done | rfl | (simp only [List.length_drop, List.length_take]; rfl)) ?_; (with_reducible refine (gristmilllaw3_first.calls (ad := ad) k  true _ ?side1 A2.out).mono ?_); (case side1 => exact GG.below hGG (by repeat (first | (with_reducible first | exact HB.out | apply below_alloc | apply pw_below_drewN | apply below_drew1) | exact HB.out))); rintro e w8 ⟨rfl, hb⟩; refine ⟨_, rfl, ?_⟩; have n0_ := Aside0.mk (below_step (by repeat (first | (with_reducible first | exact HB.out | apply below_alloc | apply pw_below_drewN | apply below_drew1) | exact HB.out)) hb); clear HB; have HB := n0_; clear n0_; (try clear hb); (try clear hb2); (try clear hk); (try clear hi)) | ((with_reducible refine gate_callee (f := 9) rfl ?_); refine goesL_ (some 14) rfl rfl Tryd.func9 (by kernel_rfl) rfl #[.int .i64 a0, .int .i64 7] rfl (by (try simp only [List.map_toArray, List.map_cons, List.map_nil]); first | done | rfl | (simp only [List.length_drop, List.length_take]; rfl)) ?_; (with_reducible refine (gristmillworld_Number.calls a0 7 t153 _ A4.out).mono ?_); rintro e w' ⟨rfl, ⟨nd, rfl⟩⟩; refine ⟨_, rfl, ?_⟩) | ((with_reducible refine gate_dst (N := 18) rfl ?_); (try (refine gate_guard (by rfl) ?_; dsimp only)); refine Kd.R_make (Kd.int .u8) _ 5 rfl (N := 18) rfl 40 _ _ rfl ji5 rfl rfl Tryd.underlying40 (.int .u8 0) 1 info5 rfl (by decide) (by omega) 0 (ok := fun _ => True) (okp := fun _ => True) rfl (fun _ hk => hk) trivial (of_decide_eq_true (by first | (with_reducible assumption) | assumption)) (Nat.le_trans (Nat.mul_le_mul_right _ (of_decide_eq_true (by first | (with_reducible assumption) | assumption) : ji5.toNat ≤ 281474976710656)) (by omega)) (Below.refl _ _) (Nat.le_refl _) ?_; intro v155 w9 ho10 hb hg_ hnew_; clear hg_ hnew_; (first | rw [← Ny154.out] at ho10 | (simp only [Int.reduceToNat] at ho10; rw [← Ny154.out] at ho10)); have n0_ := Aside0.mk (Kd.R_lower ho10 (below_size (by repeat (first | (with_reducible first | exact HB.out | apply below_alloc | apply pw_below_drewN | apply below_drew1) | exact HB.out)))); have n1_ := Aside0.mk (below_step (by repeat (first | (with_reducible first | exact HB.out | apply below_alloc | apply pw_below_drewN | apply below_drew1) | exact HB.out)) hb); clear HB; have HO156 := n0_; have HB := n1_; clear n0_ n1_; clear hb ho10))
        go_loopg [5] k (fun kq v5 w' => ∃ (x4_1 : List Int) (x5_1 : Int), v5 = .int .i64 x5_1 ∧ Aside0 (gristmilllaw3_LexMany.l0 kq (wrap64 (t153 - 3)) true x4_1 x5_1 = some r) ∧ Aside0 (kq ≤ k) ∧ Aside0 (Kd.R (Kd.int .u8) 5 w' w.heap.size (fun _ => True) v155 x4_1) ∧ Aside0 (Below w.heap.size w w'))
        case atStart => exact ⟨(y154), (0), (by first | rfl | (simp; done) | (simp [*]; done)), H', ⟨Nat.le_refl _⟩, ⟨by (with_reducible repeat (first | apply Kd.R_alloc | apply Kd.R_drewN | apply Kd.R_drew)); exact HO156.out⟩, ⟨by repeat (first | (with_reducible first | exact HB.out | apply below_alloc | apply pw_below_drewN | apply below_drew1) | exact HB.out)⟩⟩
        case round =>
          clear H'
          try clear p2
          try clear c3
          try clear c6
          try clear c6b0
          try clear c6b1
          try clear p6
          try clear c7
          try clear c7b0
          try clear c7b1
          try clear c8
          try clear c9
          obtain ⟨x4_1, x5_1, rfl, HA, HK1, HO_4, HB⟩ := hrel
          cases gk with
          | zero => exact absurd HA.out (by simp [gristmilllaw3_LexMany.l0])
          | succ k1 =>
            have H := HA.out
            clear HA
            simp only [gristmilllaw3_LexMany.l0] at H
            by_cases c11 : x5_1 < (x4_1.length : Int)
            · rw [if_pos c11] at H
              have c11b0 : decide (x5_1 < (x4_1.length : Int)) = true := decide_eq_true c11
              clear c11
              by_cases c12 : 0 ≤ x5_1
              · rw [if_pos c12] at H
                have c12b0 : decide (0 ≤ x5_1) = true := decide_eq_true c12
                clear c12
                obtain ⟨y157, hy157⟩ : ∃ y_ : List Int, y_ = (x4_1.set (x5_1 : Int).toNat 32) := ⟨_, rfl⟩
                replace H : (gristmilllaw3_LexMany.l0 k1 (wrap64 (t153 - 3)) true y157 (wrap64 (x5_1 + 1))) = some r := by first | (rw [hy157]; with_reducible exact H) | (have H2_ := (Option.bind_some _ _).symm.trans H; rw [hy157]; with_reducible exact H2_) | (have H2_ := (Option.bind_some _ _).symm.trans H; with_reducible exact H2_) | with_reducible exact H | (rw [hy157]; exact H) | exact H
                have Ny157 := Aside0.mk hy157
                clear hy157
                have H' := Aside0.mk H
                clear H
                obtain ⟨Ao14, co14, eo14⟩ := Kd.R_slice HO_4.out
                subst eo14
                have p13 : 0 ≤ (x5_1 : Int) := of_decide_eq_true (by first | (with_reducible assumption) | assumption)
                have q13 : (x5_1 : Int) < ((x4_1.length : Int) : Int) := of_decide_eq_true (by first | (with_reducible assumption) | assumption)
                obtain ⟨go13, co13, eo13, gb13, gl13, cl13, HG13⟩ := Kd.R_form HO_4.out (by omega)
                (first | cases eo13 | (injection eo13 with ea_ en_ ec_; (first | subst ea_ | (injection ea_ with ea_; subst ea_)); subst ec_; clear en_))
                have GB13 := Aside0.mk gb13
                have GG13 := Aside0.mk HG13
                clear gb13 gl13 HG13
                obtain ⟨hx13_0, hf13_0⟩ := Kd.R_celln 0 HO_4.out (x5_1 : Int) p13 q13
                replace p13 := eq_true p13
                replace q13 := eq_true q13
                have HP15 := Kd.R_putg HO_4.out (x5_1 : Int) 32
                go_wp2_with (first | ((with_reducible refine gate_store (t := 5) (p := 27) rfl ?_); refine store_event (t := 5) (p := 27) (v := ?vo_w16) (w1 := (wr.setCell ⟨go13, (x5_1 : Int).toNat, none⟩ (.int .u8 32))) ?hg ?ho ?hn ?hr ?_; (case ho => rfl); (case hg => rfl); (case hn => rfl); (case hr => first | (go_simp; done) | (go_simp; rfl)); intro w16 hw; have hg : wr.grownBy w16 (some go13) := (by rw [hw]; exact HP15.2); have hp_ : Kd.R (Kd.int .u8) 5 w16 w.heap.size (fun _ => True) (.slice (some ⟨go13, 0, none⟩) x4_1.length co14) y157 := (by rw [hw, Ny157.out]; exact HP15.1); clear HP15; have n0_ := Aside0.mk (hp_); have n1_ := Aside0.mk ((by rw [hw]; exact below_set (HB.out) GB13.out : Below w.heap.size w w16)); clear HO_4; clear HB; have HO_4 := n0_; have HB := n1_; clear n0_ n1_; clear hg hw hp_))
                go_roundg k1
                case measure => have := HK1.out; omega
                case rel => exact ⟨(y157), (wrap64 (x5_1 + 1)), (by first | rfl | (simp; done) | (simp [*]; done)), H', ⟨by have := HK1.out; omega⟩, ⟨by (with_reducible repeat (first | apply Kd.R_alloc | apply Kd.R_drewN | apply Kd.R_drew)); exact HO_4.out⟩, ⟨by repeat (first | (with_reducible first | exact HB.out | apply below_alloc | apply pw_below_drewN | apply below_drew1) | exact HB.out)⟩⟩
              · rw [if_neg c12] at H
                exact absurd H (by simp)
            · rw [if_neg c11] at H
              have c11b0 : decide (x5_1 < (x4_1.length : Int)) = false := decide_eq_false c11
              clear c11
              replace H := Option.bind_eq_some_iff.mp H
              obtain ⟨⟨t158, t159⟩, A170, H⟩ := H
              replace H : (gristmilllaw3_LexMany.l1 k1 (wrap64 (t153 - 3)) true t158 t159 (⟨#[97]⟩ : ByteArray) 1) = some r := H
              have A17 := Aside0.mk A170
              clear A170
              have H' := Aside0.mk H
              clear H
              obtain ⟨Ao18, co18, eo18⟩ := Kd.R_slice HO_4.out
              subst eo18
              have hcv19 := own_string (P := Tryd.prog) Tryd.underlying40 Tryd.underlying5 Tryd.underlying9 (Kd.own_of_R HO_4.out)
              go_wp2_with (first | ((with_reducible refine gate_callee (f := 10) rfl ?_); refine goesL_ (some 31) rfl rfl Tryd.func10 (by kernel_rfl) rfl #[.string (strOfNums x4_1)] rfl (by (try simp only [List.map_toArray, List.map_cons, List.map_nil]); first | done | rfl | (simp only [List.length_drop, List.length_take]; rfl)) ?_; (with_reducible refine (lex_Words.calls (ad := ad) k1 (strOfNums x4_1) t158 t159 _ ?side1 A17.out).mono ?_); (case side1 => exact GG.below hGG (by repeat (first | (with_reducible first | exact HB.out | apply below_alloc | apply pw_below_drewN | apply below_drew1) | exact HB.out))); rintro e w20 ⟨v160, rfl, ho0, hb⟩; refine ⟨_, rfl, ?_⟩; have n0_ := Aside0.mk (Kd.R_below (by (with_reducible repeat (first | apply Kd.R_alloc | apply Kd.R_drewN | apply Kd.R_drew)); exact HO_4.out) hb); have n1_ := Aside0.mk (Kd.R_lower ho0 (below_size (by repeat (first | (with_reducible first | exact HB.out | apply below_alloc | apply pw_below_drewN | apply below_drew1) | exact HB.out)))); have n2_ := Aside0.mk (below_step (by repeat (first | (with_reducible first | exact HB.out | apply below_alloc | apply pw_below_drewN | apply below_drew1) | exact HB.out)) hb); clear HO_4; clear HB; have HO_4 := n0_; have HO161 := n1_; have HB := n2_; clear n0_ n1_ n2_; (try clear hb); (try clear hb2); (try clear hk); (try clear hi); (try clear ho0); (try simp only [errW_none, errW_some])))
              go_loopg [8, 9] k1 (fun kq v8 v9 w' => ∃ (x8_2 : ByteArray) (x9_2 : Int), v8 = .string x8_2 ∧ v9 = .int .i64 x9_2 ∧ Aside0 (gristmilllaw3_LexMany.l1 kq (wrap64 (t153 - 3)) true t158 t159 x8_2 x9_2 = some r) ∧ Aside0 (kq ≤ k1) ∧ Aside0 (Kd.R k32 32 w' w.heap.size (fun _ => True) v160 t158) ∧ Aside0 (Below w.heap.size w w'))
              case atStart => exact ⟨((⟨#[97]⟩ : ByteArray)), (1), (by first | rfl | (simp; done) | (simp [*]; done)), (by first | rfl | (simp; done) | (simp [*]; done)), H', ⟨Nat.le_refl _⟩, ⟨by (with_reducible repeat (first | apply Kd.R_alloc | apply Kd.R_drewN | apply Kd.R_drew)); exact HO161.out⟩, ⟨by repeat (first | (with_reducible first | exact HB.out | apply below_alloc | apply pw_below_drewN | apply below_drew1) | exact HB.out)⟩⟩
              case round =>
                clear H'
                try clear c1
                try clear p1
                try clear q1
                try clear hx1
                try clear hcv1
                try clear hf1
                try clear p2
                try clear c3
                try clear c6
                try clear c6b0
                try clear c6b1
                try clear p6
                try clear c7
                try clear c7b0
                try clear c7b1
                try clear c8
                try clear c9
                try clear c10
                try clear c11
                try clear c11b0
                try clear c12
                try clear c12b0
                try clear p13
                try clear q13
                try clear hx13
                try clear hf13
                try clear hcv19
                try clear hx13_0
                try clear p13
                try clear p2
                try clear p6
                try clear q13
                obtain ⟨x8_2, x9_2, rfl, rfl, HA, HK2, HO_6, HB⟩ := hrel
                cases gk with
                | zero => exact absurd HA.out (by simp [gristmilllaw3_LexMany.l1])
                | succ k2 =>
                  have H := HA.out
                  clear HA
                  simp only [gristmilllaw3_LexMany.l1] at H
                  by_cases c21 : x9_2 < (wrap64 (40 + (wrap64 (t153 - 3))))
                  · rw [if_pos c21] at H
                    have c21b0 : decide (x9_2 < (wrap64 (40 + (wrap64 (t153 - 3))))) = true := decide_eq_true c21
                    clear c21
                    by_cases c22 : x8_2.size + 1 ≤ 9223372036854775807
                    · rw [if_pos c22] at H
                      have c22b0 := eq_true c22
                      have c22b1 : decide (x8_2.size + 1 ≤ 9223372036854775807) = true := decide_eq_true c22
                      try have c22b2 : (9223372036854775807 < x8_2.size + 1) = False := eq_false (Nat.not_lt.2 c22)
                      have H' := Aside0.mk H
                      clear H
                      go_wp2
                      go_roundg k2
                      case measure => have := HK1.out; have := HK2.out; omega
                      case rel => exact ⟨(x8_2 ++ (⟨#[98]⟩ : ByteArray)), (wrap64 (x9_2 + 1)), (by first | rfl | (simp; done) | (simp [*]; done)), (by first | rfl | (simp; done) | (simp [*]; done)), H', ⟨by have := HK1.out; have := HK2.out; omega⟩, ⟨by (with_reducible repeat (first | apply Kd.R_alloc | apply Kd.R_drewN | apply Kd.R_drew)); exact HO_6.out⟩, ⟨by repeat (first | (with_reducible first | exact HB.out | apply below_alloc | apply pw_below_drewN | apply below_drew1) | exact HB.out)⟩⟩
                    · rw [if_neg c22] at H
                      exact absurd H (by simp)
                  · rw [if_neg c21] at H
                    have c21b0 : decide (x9_2 < (wrap64 (40 + (wrap64 (t153 - 3))))) = false := decide_eq_false c21
                    clear c21
                    have H1 : (if (t158.length : Int) = 0 then ((gristmillsee_Is.f t159 104).bind fun t162 => (if (t162 == (decide ((wrap64 (t153 - 3)) > 0))) = true then (if t159.isNone = true then (if (true == (decide ((wrap64 (t153 - 3)) ≤ 0))) = true then ((lex_Name.f k2 x8_2).bind fun t164 => (if (t164 == (decide ((wrap64 (t153 - 3)) ≤ 0))) = true then ((lex_Name.f k2 (⟨#[102, 110]⟩ : ByteArray)).bind fun t165 => (if t165 = true then (some false) else ((lex_Name.f k2 (⟨#[110, 97, 110]⟩ : ByteArray)).bind fun t166 => (if t166 = true then (some false) else ((lex_Upper.f k2 x8_2).bind fun t167 => (some (!t167))))))) else (some false))) else (some false)) else (if (false == (decide ((wrap64 (t153 - 3)) ≤ 0))) = true then ((lex_Name.f k2 x8_2).bind fun t168 => (if (t168 == (decide ((wrap64 (t153 - 3)) ≤ 0))) = true then ((lex_Name.f k2 (⟨#[102, 110]⟩ : ByteArray)).bind fun t169 => (if t169 = true then (some false) else ((lex_Name.f k2 (⟨#[110, 97, 110]⟩ : ByteArray)).bind fun t170 => (if t170 = true then (some false) else ((lex_Upper.f k2 x8_2).bind fun t171 => (some (!t171))))))) else (some false))) else (some false))) else (some false))) else (some false)) = some r := by first | exact H | (rw [if_pos rfl] at H; exact H)
                    clear H
                    have H := H1
                    clear H1
                    by_cases c23 : (t158.length : Int) = 0
                    · rw [if_pos c23] at H
                      have c23b0 : ((t158.length : Int) == 0) = true := beq_iff_eq.mpr c23
                      have c23b1 : ((t158.length : Int) != 0) = false := bne_eq_false_iff_eq.mpr c23
                      clear c23
                      replace H := Option.bind_eq_some_iff.mp H
                      obtain ⟨t162, A240, H⟩ := H
                      replace H : (if (t162 == (decide ((wrap64 (t153 - 3)) > 0))) = true then (if t159.isNone = true then (if (true == (decide ((wrap64 (t153 - 3)) ≤ 0))) = true then ((lex_Name.f k2 x8_2).bind fun t164 => (if (t164 == (decide ((wrap64 (t153 - 3)) ≤ 0))) = true then ((lex_Name.f k2 (⟨#[102, 110]⟩ : ByteArray)).bind fun t165 => (if t165 = true then (some false) else ((lex_Name.f k2 (⟨#[110, 97, 110]⟩ : ByteArray)).bind fun t166 => (if t166 = true then (some false) else ((lex_Upper.f k2 x8_2).bind fun t167 => (some (!t167))))))) else (some false))) else (some false)) else (if (false == (decide ((wrap64 (t153 - 3)) ≤ 0))) = true then ((lex_Name.f k2 x8_2).bind fun t168 => (if (t168 == (decide ((wrap64 (t153 - 3)) ≤ 0))) = true then ((lex_Name.f k2 (⟨#[102, 110]⟩ : ByteArray)).bind fun t169 => (if t169 = true then (some false) else ((lex_Name.f k2 (⟨#[110, 97, 110]⟩ : ByteArray)).bind fun t170 => (if t170 = true then (some false) else ((lex_Upper.f k2 x8_2).bind fun t171 => (some (!t171))))))) else (some false))) else (some false))) else (some false)) = some r := H
                      have A24 := Aside0.mk A240
                      clear A240
                      by_cases c25 : (t162 == (decide ((wrap64 (t153 - 3)) > 0))) = true
                      · rw [if_pos c25] at H
                        have c25b0 : (t162 == (decide ((wrap64 (t153 - 3)) > 0))) = true := c25
                        (try (have c25b1 : decide (t162 = (decide ((wrap64 (t153 - 3)) > 0))) = true := by simpa using c25))
                        (try (have c25b2 : (t162 == (decide ((wrap64 (t153 - 3)) > 0))) = true := by simpa using c25))
                        clear c25
                        rcases t159 with _ | q163
                        · have H1 : (if (true == (decide ((wrap64 (t153 - 3)) ≤ 0))) = true then ((lex_Name.f k2 x8_2).bind fun t164 => (if (t164 == (decide ((wrap64 (t153 - 3)) ≤ 0))) = true then ((lex_Name.f k2 (⟨#[102, 110]⟩ : ByteArray)).bind fun t165 => (if t165 = true then (some false) else ((lex_Name.f k2 (⟨#[110, 97, 110]⟩ : ByteArray)).bind fun t166 => (if t166 = true then (some false) else ((lex_Upper.f k2 x8_2).bind fun t167 => (some (!t167))))))) else (some false))) else (some false)) = some r := by rw [if_pos (show (none : Option Int).isNone = true by rfl)] at H; exact H
                          clear H
                          have H := H1
                          clear H1
                          try simp only [errW_none, errW_some]
                          by_cases c26 : (true == (decide ((wrap64 (t153 - 3)) ≤ 0))) = true
                          · rw [if_pos c26] at H
                            have c26b0 : (true == (decide ((wrap64 (t153 - 3)) ≤ 0))) = true := c26
                            (try (have c26b1 : decide (true = (decide ((wrap64 (t153 - 3)) ≤ 0))) = true := by simpa using c26))
                            (try (have c26b2 : (true == (decide ((wrap64 (t153 - 3)) ≤ 0))) = true := by simpa using c26))
                            clear c26
                            replace H := Option.bind_eq_some_iff.mp H
                            obtain ⟨t164, A270, H⟩ := H
                            replace H : (if (t164 == (decide ((wrap64 (t153 - 3)) ≤ 0))) = true then ((lex_Name.f k2 (⟨#[102, 110]⟩ : ByteArray)).bind fun t165 => (if t165 = true then (some false) else ((lex_Name.f k2 (⟨#[110, 97, 110]⟩ : ByteArray)).bind fun t166 => (if t166 = true then (some false) else ((lex_Upper.f k2 x8_2).bind fun t167 => (some (!t167))))))) else (some false)) = some r := H
                            have A27 := Aside0.mk A270
                            clear A270
                            by_cases c28 : (t164 == (decide ((wrap64 (t153 - 3)) ≤ 0))) = true
                            · rw [if_pos c28] at H
                              have c28b0 : (t164 == (decide ((wrap64 (t153 - 3)) ≤ 0))) = true := c28
                              (try (have c28b1 : decide (t164 = (decide ((wrap64 (t153 - 3)) ≤ 0))) = true := by simpa using c28))
                              (try (have c28b2 : (t164 == (decide ((wrap64 (t153 - 3)) ≤ 0))) = true := by simpa using c28))
                              clear c28
                              replace H := Option.bind_eq_some_iff.mp H
                              obtain ⟨t165, A290, H⟩ := H
                              replace H : (if t165 = true then (some false) else ((lex_Name.f k2 (⟨#[110, 97, 110]⟩ : ByteArray)).bind fun t166 => (if t166 = true then (some false) else ((lex_Upper.f k2 x8_2).bind fun t167 => (some (!t167)))))) = some r := H
                              have A29 := Aside0.mk A290
                              clear A290
                              by_cases c30 : t165 = true
                              · subst c30
                                have H1 : (some false) = some r := by rw [if_pos rfl] at H; exact H
                                clear H
                                have H := H1
                                clear H1
                                obtain rfl := Option.some.inj H
                                obtain ⟨Ao31, co31, eo31⟩ := Kd.R_slice HO_6.out
                                subst eo31
                                have CA24 := fun W (hG : GG ad W) => gristmillsee_Is.calls none 104 t162 W hG A24.out
                                try simp only [errW_none, errW_some] at CA24
                                go_wp2_with (first | (go_at_call 16; (with_reducible refine (CA24 _ ?side1).mono ?_); (case side1 => exact GG.below hGG (by repeat (first | (with_reducible first | exact HB.out | apply below_alloc | apply pw_below_drewN | apply below_drew1) | exact HB.out))); rintro e w32 ⟨rfl, hb⟩; have n0_ := Aside0.mk (Kd.R_below (by (with_reducible repeat (first | apply Kd.R_alloc | apply Kd.R_drewN | apply Kd.R_drew)); exact HO_6.out) hb); have n1_ := Aside0.mk (below_step (by repeat (first | (with_reducible first | exact HB.out | apply below_alloc | apply pw_below_drewN | apply below_drew1) | exact HB.out)) hb); clear HO_6; clear HB; have HO_6 := n0_; have HB := n1_; clear n0_ n1_; (try clear hb); (try clear hb2); (try clear hk); (try clear hi)) | (go_at_call 12; (with_reducible refine (lex_Name.calls k2 x8_2 t164 _ A27.out).mono ?_); rintro e w33 ⟨rfl, hb⟩; have n0_ := Aside0.mk (Kd.R_below (by (with_reducible repeat (first | apply Kd.R_alloc | apply Kd.R_drewN | apply Kd.R_drew)); exact HO_6.out) hb); have n1_ := Aside0.mk (below_step (by repeat (first | (with_reducible first | exact HB.out | apply below_alloc | apply pw_below_drewN | apply below_drew1) | exact HB.out)) hb); clear HO_6; clear HB; have HO_6 := n0_; have HB := n1_; clear n0_ n1_; (try clear hb); (try clear hb2); (try clear hk); (try clear hi)) | (go_at_call 12; (with_reducible refine (lex_Name.calls k2 (⟨#[102, 110]⟩ : ByteArray) true _ A29.out).mono ?_); rintro e w34 ⟨rfl, hb⟩; have n0_ := Aside0.mk (Kd.R_below (by (with_reducible repeat (first | apply Kd.R_alloc | apply Kd.R_drewN | apply Kd.R_drew)); exact HO_6.out) hb); have n1_ := Aside0.mk (below_step (by repeat (first | (with_reducible first | exact HB.out | apply below_alloc | apply pw_below_drewN | apply below_drew1) | exact HB.out)) hb); clear HO_6; clear HB; have HO_6 := n0_; have HB := n1_; clear n0_ n1_; (try clear hb); (try clear hb2); (try clear hk); (try clear hi)))
                                go_ret
                                exact ⟨by first | rfl | (simp [errW_none, errW_some] <;> rfl) | (simp only [← hji5]; first | rfl | (simp [errW_none, errW_some] <;> rfl)) | (simp [*, errW_none, errW_some] <;> rfl) | (simp [errW_none, errW_some] <;> (rw [Bool.eq_iff_iff]; simp; done)), by repeat (first | (with_reducible first | exact HB.out | apply below_alloc | apply pw_below_drewN | apply below_drew1) | exact HB.out)⟩
                              · replace c30 := Bool.eq_false_iff.mpr c30
                                subst c30
                                have H1 : ((lex_Name.f k2 (⟨#[110, 97, 110]⟩ : ByteArray)).bind fun t166 => (if t166 = true then (some false) else ((lex_Upper.f k2 x8_2).bind fun t167 => (some (!t167))))) = some r := by rw [if_neg (show ¬ (false = true) by decide)] at H; exact H
                                clear H
                                have H := H1
                                clear H1
                                replace H := Option.bind_eq_some_iff.mp H
                                obtain ⟨t166, A350, H⟩ := H
                                replace H : (if t166 = true then (some false) else ((lex_Upper.f k2 x8_2).bind fun t167 => (some (!t167)))) = some r := H
                                have A35 := Aside0.mk A350
                                clear A350
                                by_cases c36 : t166 = true
                                · subst c36
                                  have H1 : (some false) = some r := by rw [if_pos rfl] at H; exact H
                                  clear H
                                  have H := H1
                                  clear H1
                                  obtain rfl := Option.some.inj H
                                  obtain ⟨Ao37, co37, eo37⟩ := Kd.R_slice HO_6.out
                                  subst eo37
                                  have CA24 := fun W (hG : GG ad W) => gristmillsee_Is.calls none 104 t162 W hG A24.out
                                  try simp only [errW_none, errW_some] at CA24
                                  go_wp2_with (first | (go_at_call 16; (with_reducible refine (CA24 _ ?side1).mono ?_); (case side1 => exact GG.below hGG (by repeat (first | (with_reducible first | exact HB.out | apply below_alloc | apply pw_below_drewN | apply below_drew1) | exact HB.out))); rintro e w38 ⟨rfl, hb⟩; have n0_ := Aside0.mk (Kd.R_below (by (with_reducible repeat (first | apply Kd.R_alloc | apply Kd.R_drewN | apply Kd.R_drew)); exact HO_6.out) hb); have n1_ := Aside0.mk (below_step (by repeat (first | (with_reducible first | exact HB.out | apply below_alloc | apply pw_below_drewN | apply below_drew1) | exact HB.out)) hb); clear HO_6; clear HB; have HO_6 := n0_; have HB := n1_; clear n0_ n1_; (try clear hb); (try clear hb2); (try clear hk); (try clear hi)) | (go_at_call 12; (with_reducible refine (lex_Name.calls k2 x8_2 t164 _ A27.out).mono ?_); rintro e w39 ⟨rfl, hb⟩; have n0_ := Aside0.mk (Kd.R_below (by (with_reducible repeat (first | apply Kd.R_alloc | apply Kd.R_drewN | apply Kd.R_drew)); exact HO_6.out) hb); have n1_ := Aside0.mk (below_step (by repeat (first | (with_reducible first | exact HB.out | apply below_alloc | apply pw_below_drewN | apply below_drew1) | exact HB.out)) hb); clear HO_6; clear HB; have HO_6 := n0_; have HB := n1_; clear n0_ n1_; (try clear hb); (try clear hb2); (try clear hk); (try clear hi)) | (go_at_call 12; (with_reducible refine (lex_Name.calls k2 (⟨#[102, 110]⟩ : ByteArray) false _ A29.out).mono ?_); rintro e w40 ⟨rfl, hb⟩; have n0_ := Aside0.mk (Kd.R_below (by (with_reducible repeat (first | apply Kd.R_alloc | apply Kd.R_drewN | apply Kd.R_drew)); exact HO_6.out) hb); have n1_ := Aside0.mk (below_step (by repeat (first | (with_reducible first | exact HB.out | apply below_alloc | apply pw_below_drewN | apply below_drew1) | exact HB.out)) hb); clear HO_6; clear HB; have HO_6 := n0_; have HB := n1_; clear n0_ n1_; (try clear hb); (try clear hb2); (try clear hk); (try clear hi)) | (go_at_call 12; (with_reducible refine (lex_Name.calls k2 (⟨#[110, 97, 110]⟩ : ByteArray) true _ A35.out).mono ?_); rintro e w41 ⟨rfl, hb⟩; have n0_ := Aside0.mk (Kd.R_below (by (with_reducible repeat (first | apply Kd.R_alloc | apply Kd.R_drewN | apply Kd.R_drew)); exact HO_6.out) hb); have n1_ := Aside0.mk (below_step (by repeat (first | (with_reducible first | exact HB.out | apply below_alloc | apply pw_below_drewN | apply below_drew1) | exact HB.out)) hb); clear HO_6; clear HB; have HO_6 := n0_; have HB := n1_; clear n0_ n1_; (try clear hb); (try clear hb2); (try clear hk); (try clear hi)))
                                  go_ret
                                  exact ⟨by first | rfl | (simp [errW_none, errW_some] <;> rfl) | (simp only [← hji5]; first | rfl | (simp [errW_none, errW_some] <;> rfl)) | (simp [*, errW_none, errW_some] <;> rfl) | (simp [errW_none, errW_some] <;> (rw [Bool.eq_iff_iff]; simp; done)), by repeat (first | (with_reducible first | exact HB.out | apply below_alloc | apply pw_below_drewN | apply below_drew1) | exact HB.out)⟩
                                · replace c36 := Bool.eq_false_iff.mpr c36
                                  subst c36
                                  have H1 : ((lex_Upper.f k2 x8_2).bind fun t167 => (some (!t167))) = some r := by rw [if_neg (show ¬ (false = true) by decide)] at H; exact H
                                  clear H
                                  have H := H1
                                  clear H1
                                  replace H := Option.bind_eq_some_iff.mp H
                                  obtain ⟨t167, A420, H⟩ := H
                                  replace H : (some (!t167)) = some r := H
                                  have A42 := Aside0.mk A420
                                  clear A420
                                  obtain rfl := Option.some.inj H
                                  obtain ⟨Ao43, co43, eo43⟩ := Kd.R_slice HO_6.out
                                  subst eo43
                                  have CA24 := fun W (hG : GG ad W) => gristmillsee_Is.calls none 104 t162 W hG A24.out
                                  try simp only [errW_none, errW_some] at CA24
                                  go_wp2_with (first | (go_at_call 16; (with_reducible refine (CA24 _ ?side1).mono ?_); (case side1 => exact GG.below hGG (by repeat (first | (with_reducible first | exact HB.out | apply below_alloc | apply pw_below_drewN | apply below_drew1) | exact HB.out))); rintro e w44 ⟨rfl, hb⟩; have n0_ := Aside0.mk (Kd.R_below (by (with_reducible repeat (first | apply Kd.R_alloc | apply Kd.R_drewN | apply Kd.R_drew)); exact HO_6.out) hb); have n1_ := Aside0.mk (below_step (by repeat (first | (with_reducible first | exact HB.out | apply below_alloc | apply pw_below_drewN | apply below_drew1) | exact HB.out)) hb); clear HO_6; clear HB; have HO_6 := n0_; have HB := n1_; clear n0_ n1_; (try clear hb); (try clear hb2); (try clear hk); (try clear hi)) | (go_at_call 12; (with_reducible refine (lex_Name.calls k2 x8_2 t164 _ A27.out).mono ?_); rintro e w45 ⟨rfl, hb⟩; have n0_ := Aside0.mk (Kd.R_below (by (with_reducible repeat (first | apply Kd.R_alloc | apply Kd.R_drewN | apply Kd.R_drew)); exact HO_6.out) hb); have n1_ := Aside0.mk (below_step (by repeat (first | (with_reducible first | exact HB.out | apply below_alloc | apply pw_below_drewN | apply below_drew1) | exact HB.out)) hb); clear HO_6; clear HB; have HO_6 := n0_; have HB := n1_; clear n0_ n1_; (try clear hb); (try clear hb2); (try clear hk); (try clear hi)) | (go_at_call 12; (with_reducible refine (lex_Name.calls k2 (⟨#[102, 110]⟩ : ByteArray) false _ A29.out).mono ?_); rintro e w46 ⟨rfl, hb⟩; have n0_ := Aside0.mk (Kd.R_below (by (with_reducible repeat (first | apply Kd.R_alloc | apply Kd.R_drewN | apply Kd.R_drew)); exact HO_6.out) hb); have n1_ := Aside0.mk (below_step (by repeat (first | (with_reducible first | exact HB.out | apply below_alloc | apply pw_below_drewN | apply below_drew1) | exact HB.out)) hb); clear HO_6; clear HB; have HO_6 := n0_; have HB := n1_; clear n0_ n1_; (try clear hb); (try clear hb2); (try clear hk); (try clear hi)) | (go_at_call 12; (with_reducible refine (lex_Name.calls k2 (⟨#[110, 97, 110]⟩ : ByteArray) false _ A35.out).mono ?_); rintro e w47 ⟨rfl, hb⟩; have n0_ := Aside0.mk (Kd.R_below (by (with_reducible repeat (first | apply Kd.R_alloc | apply Kd.R_drewN | apply Kd.R_drew)); exact HO_6.out) hb); have n1_ := Aside0.mk (below_step (by repeat (first | (with_reducible first | exact HB.out | apply below_alloc | apply pw_below_drewN | apply below_drew1) | exact HB.out)) hb); clear HO_6; clear HB; have HO_6 := n0_; have HB := n1_; clear n0_ n1_; (try clear hb); (try clear hb2); (try clear hk); (try clear hi)) | (go_at_call 14; (with_reducible refine (lex_Upper.calls k2 x8_2 t167 _ A42.out).mono ?_); rintro e w' ⟨rfl, ⟨nd, rfl⟩⟩))
                                  go_ret
                                  exact ⟨by first | rfl | (simp [errW_none, errW_some] <;> rfl) | (simp only [← hji5]; first | rfl | (simp [errW_none, errW_some] <;> rfl)) | (simp [*, errW_none, errW_some] <;> rfl) | (simp [errW_none, errW_some] <;> (rw [Bool.eq_iff_iff]; simp; done)), by repeat (first | (with_reducible first | exact HB.out | apply below_alloc | apply pw_below_drewN | apply below_drew1) | exact HB.out)⟩
                            · rw [if_neg c28] at H
                              have c28b0 : (t164 == (decide ((wrap64 (t153 - 3)) ≤ 0))) = false := by simpa using c28
                              (try (have c28b1 : decide (t164 = (decide ((wrap64 (t153 - 3)) ≤ 0))) = false := by simpa using c28))
                              (try (have c28b2 : (t164 == (decide ((wrap64 (t153 - 3)) ≤ 0))) = false := by simpa using c28))
                              (try (have c28b3 : ¬ (t164 = (decide ((wrap64 (t153 - 3)) ≤ 0))) := by simpa using c28))
                              clear c28
                              obtain rfl := Option.some.inj H
                              obtain ⟨Ao48, co48, eo48⟩ := Kd.R_slice HO_6.out
                              subst eo48
                              have CA24 := fun W (hG : GG ad W) => gristmillsee_Is.calls none 104 t162 W hG A24.out
                              try simp only [errW_none, errW_some] at CA24
                              go_wp2_with (first | (go_at_call 16; (with_reducible refine (CA24 _ ?side1).mono ?_); (case side1 => exact GG.below hGG (by repeat (first | (with_reducible first | exact HB.out | apply below_alloc | apply pw_below_drewN | apply below_drew1) | exact HB.out))); rintro e w49 ⟨rfl, hb⟩; have n0_ := Aside0.mk (Kd.R_below (by (with_reducible repeat (first | apply Kd.R_alloc | apply Kd.R_drewN | apply Kd.R_drew)); exact HO_6.out) hb); have n1_ := Aside0.mk (below_step (by repeat (first | (with_reducible first | exact HB.out | apply below_alloc | apply pw_below_drewN | apply below_drew1) | exact HB.out)) hb); clear HO_6; clear HB; have HO_6 := n0_; have HB := n1_; clear n0_ n1_; (try clear hb); (try clear hb2); (try clear hk); (try clear hi)) | (go_at_call 12; (with_reducible refine (lex_Name.calls k2 x8_2 t164 _ A27.out).mono ?_); rintro e w50 ⟨rfl, hb⟩; have n0_ := Aside0.mk (Kd.R_below (by (with_reducible repeat (first | apply Kd.R_alloc | apply Kd.R_drewN | apply Kd.R_drew)); exact HO_6.out) hb); have n1_ := Aside0.mk (below_step (by repeat (first | (with_reducible first | exact HB.out | apply below_alloc | apply pw_below_drewN | apply below_drew1) | exact HB.out)) hb); clear HO_6; clear HB; have HO_6 := n0_; have HB := n1_; clear n0_ n1_; (try clear hb); (try clear hb2); (try clear hk); (try clear hi)))
                              go_ret
                              exact ⟨by first | rfl | (simp [errW_none, errW_some] <;> rfl) | (simp only [← hji5]; first | rfl | (simp [errW_none, errW_some] <;> rfl)) | (simp [*, errW_none, errW_some] <;> rfl) | (simp [errW_none, errW_some] <;> (rw [Bool.eq_iff_iff]; simp; done)), by repeat (first | (with_reducible first | exact HB.out | apply below_alloc | apply pw_below_drewN | apply below_drew1) | exact HB.out)⟩
                          · rw [if_neg c26] at H
                            have c26b0 : (true == (decide ((wrap64 (t153 - 3)) ≤ 0))) = false := by simpa using c26
                            (try (have c26b1 : decide (true = (decide ((wrap64 (t153 - 3)) ≤ 0))) = false := by simpa using c26))
                            (try (have c26b2 : (true == (decide ((wrap64 (t153 - 3)) ≤ 0))) = false := by simpa using c26))
                            (try (have c26b3 : ¬ (true = (decide ((wrap64 (t153 - 3)) ≤ 0))) := by simpa using c26))
                            clear c26
                            obtain rfl := Option.some.inj H
                            obtain ⟨Ao51, co51, eo51⟩ := Kd.R_slice HO_6.out
                            subst eo51
                            have CA24 := fun W (hG : GG ad W) => gristmillsee_Is.calls none 104 t162 W hG A24.out
                            try simp only [errW_none, errW_some] at CA24
                            go_wp2_with (first | (go_at_call 16; (with_reducible refine (CA24 _ ?side1).mono ?_); (case side1 => exact GG.below hGG (by repeat (first | (with_reducible first | exact HB.out | apply below_alloc | apply pw_below_drewN | apply below_drew1) | exact HB.out))); rintro e w52 ⟨rfl, hb⟩; have n0_ := Aside0.mk (Kd.R_below (by (with_reducible repeat (first | apply Kd.R_alloc | apply Kd.R_drewN | apply Kd.R_drew)); exact HO_6.out) hb); have n1_ := Aside0.mk (below_step (by repeat (first | (with_reducible first | exact HB.out | apply below_alloc | apply pw_below_drewN | apply below_drew1) | exact HB.out)) hb); clear HO_6; clear HB; have HO_6 := n0_; have HB := n1_; clear n0_ n1_; (try clear hb); (try clear hb2); (try clear hk); (try clear hi)))
                            go_ret
                            exact ⟨by first | rfl | (simp [errW_none, errW_some] <;> rfl) | (simp only [← hji5]; first | rfl | (simp [errW_none, errW_some] <;> rfl)) | (simp [*, errW_none, errW_some] <;> rfl) | (simp [errW_none, errW_some] <;> (rw [Bool.eq_iff_iff]; simp; done)), by repeat (first | (with_reducible first | exact HB.out | apply below_alloc | apply pw_below_drewN | apply below_drew1) | exact HB.out)⟩
                        · have H1 : (if (false == (decide ((wrap64 (t153 - 3)) ≤ 0))) = true then ((lex_Name.f k2 x8_2).bind fun t168 => (if (t168 == (decide ((wrap64 (t153 - 3)) ≤ 0))) = true then ((lex_Name.f k2 (⟨#[102, 110]⟩ : ByteArray)).bind fun t169 => (if t169 = true then (some false) else ((lex_Name.f k2 (⟨#[110, 97, 110]⟩ : ByteArray)).bind fun t170 => (if t170 = true then (some false) else ((lex_Upper.f k2 x8_2).bind fun t171 => (some (!t171))))))) else (some false))) else (some false)) = some r := by rw [if_neg (show ¬ (some q163).isNone = true by simp)] at H; exact H
                          clear H
                          have H := H1
                          clear H1
                          try simp only [errW_none, errW_some]
                          by_cases c53 : (false == (decide ((wrap64 (t153 - 3)) ≤ 0))) = true
                          · rw [if_pos c53] at H
                            have c53b0 : (false == (decide ((wrap64 (t153 - 3)) ≤ 0))) = true := c53
                            (try (have c53b1 : decide (false = (decide ((wrap64 (t153 - 3)) ≤ 0))) = true := by simpa using c53))
                            (try (have c53b2 : (false == (decide ((wrap64 (t153 - 3)) ≤ 0))) = true := by simpa using c53))
                            clear c53
                            replace H := Option.bind_eq_some_iff.mp H
                            obtain ⟨t168, A540, H⟩ := H
                            replace H : (if (t168 == (decide ((wrap64 (t153 - 3)) ≤ 0))) = true then ((lex_Name.f k2 (⟨#[102, 110]⟩ : ByteArray)).bind fun t169 => (if t169 = true then (some false) else ((lex_Name.f k2 (⟨#[110, 97, 110]⟩ : ByteArray)).bind fun t170 => (if t170 = true then (some false) else ((lex_Upper.f k2 x8_2).bind fun t171 => (some (!t171))))))) else (some false)) = some r := H
                            have A54 := Aside0.mk A540
                            clear A540
                            by_cases c55 : (t168 == (decide ((wrap64 (t153 - 3)) ≤ 0))) = true
                            · rw [if_pos c55] at H
                              have c55b0 : (t168 == (decide ((wrap64 (t153 - 3)) ≤ 0))) = true := c55
                              (try (have c55b1 : decide (t168 = (decide ((wrap64 (t153 - 3)) ≤ 0))) = true := by simpa using c55))
                              (try (have c55b2 : (t168 == (decide ((wrap64 (t153 - 3)) ≤ 0))) = true := by simpa using c55))
                              clear c55
                              replace H := Option.bind_eq_some_iff.mp H
                              obtain ⟨t169, A560, H⟩ := H
                              replace H : (if t169 = true then (some false) else ((lex_Name.f k2 (⟨#[110, 97, 110]⟩ : ByteArray)).bind fun t170 => (if t170 = true then (some false) else ((lex_Upper.f k2 x8_2).bind fun t171 => (some (!t171)))))) = some r := H
                              have A56 := Aside0.mk A560
                              clear A560
                              by_cases c57 : t169 = true
                              · subst c57
                                have H1 : (some false) = some r := by rw [if_pos rfl] at H; exact H
                                clear H
                                have H := H1
                                clear H1
                                obtain rfl := Option.some.inj H
                                obtain ⟨Ao58, co58, eo58⟩ := Kd.R_slice HO_6.out
                                subst eo58
                                have CA24 := fun W (hG : GG ad W) => gristmillsee_Is.calls (some q163) 104 t162 W hG A24.out
                                try simp only [errW_none, errW_some] at CA24
                                go_wp2_with (first | (go_at_call 16; (with_reducible refine (CA24 _ ?side1).mono ?_); (case side1 => exact GG.below hGG (by repeat (first | (with_reducible first | exact HB.out | apply below_alloc | apply pw_below_drewN | apply below_drew1) | exact HB.out))); rintro e w59 ⟨rfl, hb⟩; have n0_ := Aside0.mk (Kd.R_below (by (with_reducible repeat (first | apply Kd.R_alloc | apply Kd.R_drewN | apply Kd.R_drew)); exact HO_6.out) hb); have n1_ := Aside0.mk (below_step (by repeat (first | (with_reducible first | exact HB.out | apply below_alloc | apply pw_below_drewN | apply below_drew1) | exact HB.out)) hb); clear HO_6; clear HB; have HO_6 := n0_; have HB := n1_; clear n0_ n1_; (try clear hb); (try clear hb2); (try clear hk); (try clear hi)) | (go_at_call 12; (with_reducible refine (lex_Name.calls k2 x8_2 t168 _ A54.out).mono ?_); rintro e w60 ⟨rfl, hb⟩; have n0_ := Aside0.mk (Kd.R_below (by (with_reducible repeat (first | apply Kd.R_alloc | apply Kd.R_drewN | apply Kd.R_drew)); exact HO_6.out) hb); have n1_ := Aside0.mk (below_step (by repeat (first | (with_reducible first | exact HB.out | apply below_alloc | apply pw_below_drewN | apply below_drew1) | exact HB.out)) hb); clear HO_6; clear HB; have HO_6 := n0_; have HB := n1_; clear n0_ n1_; (try clear hb); (try clear hb2); (try clear hk); (try clear hi)) | (go_at_call 12; (with_reducible refine (lex_Name.calls k2 (⟨#[102, 110]⟩ : ByteArray) true _ A56.out).mono ?_); rintro e w61 ⟨rfl, hb⟩; have n0_ := Aside0.mk (Kd.R_below (by (with_reducible repeat (first | apply Kd.R_alloc | apply Kd.R_drewN | apply Kd.R_drew)); exact HO_6.out) hb); have n1_ := Aside0.mk (below_step (by repeat (first | (with_reducible first | exact HB.out | apply below_alloc | apply pw_below_drewN | apply below_drew1) | exact HB.out)) hb); clear HO_6; clear HB; have HO_6 := n0_; have HB := n1_; clear n0_ n1_; (try clear hb); (try clear hb2); (try clear hk); (try clear hi)))
                                go_ret
                                exact ⟨by first | rfl | (simp [errW_none, errW_some] <;> rfl) | (simp only [← hji5]; first | rfl | (simp [errW_none, errW_some] <;> rfl)) | (simp [*, errW_none, errW_some] <;> rfl) | (simp [errW_none, errW_some] <;> (rw [Bool.eq_iff_iff]; simp; done)), by repeat (first | (with_reducible first | exact HB.out | apply below_alloc | apply pw_below_drewN | apply below_drew1) | exact HB.out)⟩
                              · replace c57 := Bool.eq_false_iff.mpr c57
                                subst c57
                                have H1 : ((lex_Name.f k2 (⟨#[110, 97, 110]⟩ : ByteArray)).bind fun t170 => (if t170 = true then (some false) else ((lex_Upper.f k2 x8_2).bind fun t171 => (some (!t171))))) = some r := by rw [if_neg (show ¬ (false = true) by decide)] at H; exact H
                                clear H
                                have H := H1
                                clear H1
                                replace H := Option.bind_eq_some_iff.mp H
                                obtain ⟨t170, A620, H⟩ := H
                                replace H : (if t170 = true then (some false) else ((lex_Upper.f k2 x8_2).bind fun t171 => (some (!t171)))) = some r := H
                                have A62 := Aside0.mk A620
                                clear A620
                                by_cases c63 : t170 = true
                                · subst c63
                                  have H1 : (some false) = some r := by rw [if_pos rfl] at H; exact H
                                  clear H
                                  have H := H1
                                  clear H1
                                  obtain rfl := Option.some.inj H
                                  obtain ⟨Ao64, co64, eo64⟩ := Kd.R_slice HO_6.out
                                  subst eo64
                                  have CA24 := fun W (hG : GG ad W) => gristmillsee_Is.calls (some q163) 104 t162 W hG A24.out
                                  try simp only [errW_none, errW_some] at CA24
                                  go_wp2_with (first | (go_at_call 16; (with_reducible refine (CA24 _ ?side1).mono ?_); (case side1 => exact GG.below hGG (by repeat (first | (with_reducible first | exact HB.out | apply below_alloc | apply pw_below_drewN | apply below_drew1) | exact HB.out))); rintro e w65 ⟨rfl, hb⟩; have n0_ := Aside0.mk (Kd.R_below (by (with_reducible repeat (first | apply Kd.R_alloc | apply Kd.R_drewN | apply Kd.R_drew)); exact HO_6.out) hb); have n1_ := Aside0.mk (below_step (by repeat (first | (with_reducible first | exact HB.out | apply below_alloc | apply pw_below_drewN | apply below_drew1) | exact HB.out)) hb); clear HO_6; clear HB; have HO_6 := n0_; have HB := n1_; clear n0_ n1_; (try clear hb); (try clear hb2); (try clear hk); (try clear hi)) | (go_at_call 12; (with_reducible refine (lex_Name.calls k2 x8_2 t168 _ A54.out).mono ?_); rintro e w66 ⟨rfl, hb⟩; have n0_ := Aside0.mk (Kd.R_below (by (with_reducible repeat (first | apply Kd.R_alloc | apply Kd.R_drewN | apply Kd.R_drew)); exact HO_6.out) hb); have n1_ := Aside0.mk (below_step (by repeat (first | (with_reducible first | exact HB.out | apply below_alloc | apply pw_below_drewN | apply below_drew1) | exact HB.out)) hb); clear HO_6; clear HB; have HO_6 := n0_; have HB := n1_; clear n0_ n1_; (try clear hb); (try clear hb2); (try clear hk); (try clear hi)) | (go_at_call 12; (with_reducible refine (lex_Name.calls k2 (⟨#[102, 110]⟩ : ByteArray) false _ A56.out).mono ?_); rintro e w67 ⟨rfl, hb⟩; have n0_ := Aside0.mk (Kd.R_below (by (with_reducible repeat (first | apply Kd.R_alloc | apply Kd.R_drewN | apply Kd.R_drew)); exact HO_6.out) hb); have n1_ := Aside0.mk (below_step (by repeat (first | (with_reducible first | exact HB.out | apply below_alloc | apply pw_below_drewN | apply below_drew1) | exact HB.out)) hb); clear HO_6; clear HB; have HO_6 := n0_; have HB := n1_; clear n0_ n1_; (try clear hb); (try clear hb2); (try clear hk); (try clear hi)) | (go_at_call 12; (with_reducible refine (lex_Name.calls k2 (⟨#[110, 97, 110]⟩ : ByteArray) true _ A62.out).mono ?_); rintro e w68 ⟨rfl, hb⟩; have n0_ := Aside0.mk (Kd.R_below (by (with_reducible repeat (first | apply Kd.R_alloc | apply Kd.R_drewN | apply Kd.R_drew)); exact HO_6.out) hb); have n1_ := Aside0.mk (below_step (by repeat (first | (with_reducible first | exact HB.out | apply below_alloc | apply pw_below_drewN | apply below_drew1) | exact HB.out)) hb); clear HO_6; clear HB; have HO_6 := n0_; have HB := n1_; clear n0_ n1_; (try clear hb); (try clear hb2); (try clear hk); (try clear hi)))
                                  go_ret
                                  exact ⟨by first | rfl | (simp [errW_none, errW_some] <;> rfl) | (simp only [← hji5]; first | rfl | (simp [errW_none, errW_some] <;> rfl)) | (simp [*, errW_none, errW_some] <;> rfl) | (simp [errW_none, errW_some] <;> (rw [Bool.eq_iff_iff]; simp; done)), by repeat (first | (with_reducible first | exact HB.out | apply below_alloc | apply pw_below_drewN | apply below_drew1) | exact HB.out)⟩
                                · replace c63 := Bool.eq_false_iff.mpr c63
                                  subst c63
                                  have H1 : ((lex_Upper.f k2 x8_2).bind fun t171 => (some (!t171))) = some r := by rw [if_neg (show ¬ (false = true) by decide)] at H; exact H
                                  clear H
                                  have H := H1
                                  clear H1
                                  replace H := Option.bind_eq_some_iff.mp H
                                  obtain ⟨t171, A690, H⟩ := H
                                  replace H : (some (!t171)) = some r := H
                                  have A69 := Aside0.mk A690
                                  clear A690
                                  obtain rfl := Option.some.inj H
                                  obtain ⟨Ao70, co70, eo70⟩ := Kd.R_slice HO_6.out
                                  subst eo70
                                  have CA24 := fun W (hG : GG ad W) => gristmillsee_Is.calls (some q163) 104 t162 W hG A24.out
                                  try simp only [errW_none, errW_some] at CA24
                                  go_wp2_with (first | (go_at_call 16; (with_reducible refine (CA24 _ ?side1).mono ?_); (case side1 => exact GG.below hGG (by repeat (first | (with_reducible first | exact HB.out | apply below_alloc | apply pw_below_drewN | apply below_drew1) | exact HB.out))); rintro e w71 ⟨rfl, hb⟩; have n0_ := Aside0.mk (Kd.R_below (by (with_reducible repeat (first | apply Kd.R_alloc | apply Kd.R_drewN | apply Kd.R_drew)); exact HO_6.out) hb); have n1_ := Aside0.mk (below_step (by repeat (first | (with_reducible first | exact HB.out | apply below_alloc | apply pw_below_drewN | apply below_drew1) | exact HB.out)) hb); clear HO_6; clear HB; have HO_6 := n0_; have HB := n1_; clear n0_ n1_; (try clear hb); (try clear hb2); (try clear hk); (try clear hi)) | (go_at_call 12; (with_reducible refine (lex_Name.calls k2 x8_2 t168 _ A54.out).mono ?_); rintro e w72 ⟨rfl, hb⟩; have n0_ := Aside0.mk (Kd.R_below (by (with_reducible repeat (first | apply Kd.R_alloc | apply Kd.R_drewN | apply Kd.R_drew)); exact HO_6.out) hb); have n1_ := Aside0.mk (below_step (by repeat (first | (with_reducible first | exact HB.out | apply below_alloc | apply pw_below_drewN | apply below_drew1) | exact HB.out)) hb); clear HO_6; clear HB; have HO_6 := n0_; have HB := n1_; clear n0_ n1_; (try clear hb); (try clear hb2); (try clear hk); (try clear hi)) | (go_at_call 12; (with_reducible refine (lex_Name.calls k2 (⟨#[102, 110]⟩ : ByteArray) false _ A56.out).mono ?_); rintro e w73 ⟨rfl, hb⟩; have n0_ := Aside0.mk (Kd.R_below (by (with_reducible repeat (first | apply Kd.R_alloc | apply Kd.R_drewN | apply Kd.R_drew)); exact HO_6.out) hb); have n1_ := Aside0.mk (below_step (by repeat (first | (with_reducible first | exact HB.out | apply below_alloc | apply pw_below_drewN | apply below_drew1) | exact HB.out)) hb); clear HO_6; clear HB; have HO_6 := n0_; have HB := n1_; clear n0_ n1_; (try clear hb); (try clear hb2); (try clear hk); (try clear hi)) | (go_at_call 12; (with_reducible refine (lex_Name.calls k2 (⟨#[110, 97, 110]⟩ : ByteArray) false _ A62.out).mono ?_); rintro e w74 ⟨rfl, hb⟩; have n0_ := Aside0.mk (Kd.R_below (by (with_reducible repeat (first | apply Kd.R_alloc | apply Kd.R_drewN | apply Kd.R_drew)); exact HO_6.out) hb); have n1_ := Aside0.mk (below_step (by repeat (first | (with_reducible first | exact HB.out | apply below_alloc | apply pw_below_drewN | apply below_drew1) | exact HB.out)) hb); clear HO_6; clear HB; have HO_6 := n0_; have HB := n1_; clear n0_ n1_; (try clear hb); (try clear hb2); (try clear hk); (try clear hi)) | (go_at_call 14; (with_reducible refine (lex_Upper.calls k2 x8_2 t171 _ A69.out).mono ?_); rintro e w' ⟨rfl, ⟨nd, rfl⟩⟩))
                                  go_ret
                                  exact ⟨by first | rfl | (simp [errW_none, errW_some] <;> rfl) | (simp only [← hji5]; first | rfl | (simp [errW_none, errW_some] <;> rfl)) | (simp [*, errW_none, errW_some] <;> rfl) | (simp [errW_none, errW_some] <;> (rw [Bool.eq_iff_iff]; simp; done)), by repeat (first | (with_reducible first | exact HB.out | apply below_alloc | apply pw_below_drewN | apply below_drew1) | exact HB.out)⟩
                            · rw [if_neg c55] at H
                              have c55b0 : (t168 == (decide ((wrap64 (t153 - 3)) ≤ 0))) = false := by simpa using c55
                              (try (have c55b1 : decide (t168 = (decide ((wrap64 (t153 - 3)) ≤ 0))) = false := by simpa using c55))
                              (try (have c55b2 : (t168 == (decide ((wrap64 (t153 - 3)) ≤ 0))) = false := by simpa using c55))
                              (try (have c55b3 : ¬ (t168 = (decide ((wrap64 (t153 - 3)) ≤ 0))) := by simpa using c55))
                              clear c55
                              obtain rfl := Option.some.inj H
                              obtain ⟨Ao75, co75, eo75⟩ := Kd.R_slice HO_6.out
                              subst eo75
                              have CA24 := fun W (hG : GG ad W) => gristmillsee_Is.calls (some q163) 104 t162 W hG A24.out
                              try simp only [errW_none, errW_some] at CA24
                              go_wp2_with (first | (go_at_call 16; (with_reducible refine (CA24 _ ?side1).mono ?_); (case side1 => exact GG.below hGG (by repeat (first | (with_reducible first | exact HB.out | apply below_alloc | apply pw_below_drewN | apply below_drew1) | exact HB.out))); rintro e w76 ⟨rfl, hb⟩; have n0_ := Aside0.mk (Kd.R_below (by (with_reducible repeat (first | apply Kd.R_alloc | apply Kd.R_drewN | apply Kd.R_drew)); exact HO_6.out) hb); have n1_ := Aside0.mk (below_step (by repeat (first | (with_reducible first | exact HB.out | apply below_alloc | apply pw_below_drewN | apply below_drew1) | exact HB.out)) hb); clear HO_6; clear HB; have HO_6 := n0_; have HB := n1_; clear n0_ n1_; (try clear hb); (try clear hb2); (try clear hk); (try clear hi)) | (go_at_call 12; (with_reducible refine (lex_Name.calls k2 x8_2 t168 _ A54.out).mono ?_); rintro e w77 ⟨rfl, hb⟩; have n0_ := Aside0.mk (Kd.R_below (by (with_reducible repeat (first | apply Kd.R_alloc | apply Kd.R_drewN | apply Kd.R_drew)); exact HO_6.out) hb); have n1_ := Aside0.mk (below_step (by repeat (first | (with_reducible first | exact HB.out | apply below_alloc | apply pw_below_drewN | apply below_drew1) | exact HB.out)) hb); clear HO_6; clear HB; have HO_6 := n0_; have HB := n1_; clear n0_ n1_; (try clear hb); (try clear hb2); (try clear hk); (try clear hi)))
                              go_ret
                              exact ⟨by first | rfl | (simp [errW_none, errW_some] <;> rfl) | (simp only [← hji5]; first | rfl | (simp [errW_none, errW_some] <;> rfl)) | (simp [*, errW_none, errW_some] <;> rfl) | (simp [errW_none, errW_some] <;> (rw [Bool.eq_iff_iff]; simp; done)), by repeat (first | (with_reducible first | exact HB.out | apply below_alloc | apply pw_below_drewN | apply below_drew1) | exact HB.out)⟩
                          · rw [if_neg c53] at H
                            have c53b0 : (false == (decide ((wrap64 (t153 - 3)) ≤ 0))) = false := by simpa using c53
                            (try (have c53b1 : decide (false = (decide ((wrap64 (t153 - 3)) ≤ 0))) = false := by simpa using c53))
                            (try (have c53b2 : (false == (decide ((wrap64 (t153 - 3)) ≤ 0))) = false := by simpa using c53))
                            (try (have c53b3 : ¬ (false = (decide ((wrap64 (t153 - 3)) ≤ 0))) := by simpa using c53))
                            clear c53
                            obtain rfl := Option.some.inj H
                            obtain ⟨Ao78, co78, eo78⟩ := Kd.R_slice HO_6.out
                            subst eo78
                            have CA24 := fun W (hG : GG ad W) => gristmillsee_Is.calls (some q163) 104 t162 W hG A24.out
                            try simp only [errW_none, errW_some] at CA24
                            go_wp2_with (first | (go_at_call 16; (with_reducible refine (CA24 _ ?side1).mono ?_); (case side1 => exact GG.below hGG (by repeat (first | (with_reducible first | exact HB.out | apply below_alloc | apply pw_below_drewN | apply below_drew1) | exact HB.out))); rintro e w79 ⟨rfl, hb⟩; have n0_ := Aside0.mk (Kd.R_below (by (with_reducible repeat (first | apply Kd.R_alloc | apply Kd.R_drewN | apply Kd.R_drew)); exact HO_6.out) hb); have n1_ := Aside0.mk (below_step (by repeat (first | (with_reducible first | exact HB.out | apply below_alloc | apply pw_below_drewN | apply below_drew1) | exact HB.out)) hb); clear HO_6; clear HB; have HO_6 := n0_; have HB := n1_; clear n0_ n1_; (try clear hb); (try clear hb2); (try clear hk); (try clear hi)))
                            go_ret
                            exact ⟨by first | rfl | (simp [errW_none, errW_some] <;> rfl) | (simp only [← hji5]; first | rfl | (simp [errW_none, errW_some] <;> rfl)) | (simp [*, errW_none, errW_some] <;> rfl) | (simp [errW_none, errW_some] <;> (rw [Bool.eq_iff_iff]; simp; done)), by repeat (first | (with_reducible first | exact HB.out | apply below_alloc | apply pw_below_drewN | apply below_drew1) | exact HB.out)⟩
                      · rw [if_neg c25] at H
                        have c25b0 : (t162 == (decide ((wrap64 (t153 - 3)) > 0))) = false := by simpa using c25
                        (try (have c25b1 : decide (t162 = (decide ((wrap64 (t153 - 3)) > 0))) = false := by simpa using c25))
                        (try (have c25b2 : (t162 == (decide ((wrap64 (t153 - 3)) > 0))) = false := by simpa using c25))
                        (try (have c25b3 : ¬ (t162 = (decide ((wrap64 (t153 - 3)) > 0))) := by simpa using c25))
                        clear c25
                        obtain rfl := Option.some.inj H
                        obtain ⟨Ao80, co80, eo80⟩ := Kd.R_slice HO_6.out
                        subst eo80
                        have CA24 := fun W (hG : GG ad W) => gristmillsee_Is.calls t159 104 t162 W hG A24.out
                        try simp only [errW_none, errW_some] at CA24
                        go_wp2_with (first | (go_at_call 16; (with_reducible refine (CA24 _ ?side1).mono ?_); (case side1 => exact GG.below hGG (by repeat (first | (with_reducible first | exact HB.out | apply below_alloc | apply pw_below_drewN | apply below_drew1) | exact HB.out))); rintro e w81 ⟨rfl, hb⟩; have n0_ := Aside0.mk (Kd.R_below (by (with_reducible repeat (first | apply Kd.R_alloc | apply Kd.R_drewN | apply Kd.R_drew)); exact HO_6.out) hb); have n1_ := Aside0.mk (below_step (by repeat (first | (with_reducible first | exact HB.out | apply below_alloc | apply pw_below_drewN | apply below_drew1) | exact HB.out)) hb); clear HO_6; clear HB; have HO_6 := n0_; have HB := n1_; clear n0_ n1_; (try clear hb); (try clear hb2); (try clear hk); (try clear hi)))
                        go_ret
                        exact ⟨by first | rfl | (simp [errW_none, errW_some] <;> rfl) | (simp only [← hji5]; first | rfl | (simp [errW_none, errW_some] <;> rfl)) | (simp [*, errW_none, errW_some] <;> rfl) | (simp [errW_none, errW_some] <;> (rw [Bool.eq_iff_iff]; simp; done)), by repeat (first | (with_reducible first | exact HB.out | apply below_alloc | apply pw_below_drewN | apply below_drew1) | exact HB.out)⟩
                    · rw [if_neg c23] at H
                      have c23b0 : ((t158.length : Int) == 0) = false := beq_eq_false_iff_ne.mpr c23
                      have c23b1 : ((t158.length : Int) != 0) = true := bne_iff_ne.mpr c23
                      have c23b2 : ¬ (t158 = []) := fun h_ => c23 (by rw [h_]; rfl)
                      obtain rfl := Option.some.inj H
                      obtain ⟨Ao82, co82, eo82⟩ := Kd.R_slice HO_6.out
                      subst eo82
                      go_wp2
                      go_ret
                      exact ⟨by first | rfl | (simp [errW_none, errW_some] <;> rfl) | (simp only [← hji5]; first | rfl | (simp [errW_none, errW_some] <;> rfl)) | (simp [*, errW_none, errW_some] <;> rfl) | (simp [errW_none, errW_some] <;> (rw [Bool.eq_iff_iff]; simp; done)), by repeat (first | (with_reducible first | exact HB.out | apply below_alloc | apply pw_below_drewN | apply below_drew1) | exact HB.out)⟩
      · rw [if_neg c7] at H
        exact absurd H (by simp)
    · rw [if_neg c6] at H
      exact absurd H (by simp)
  · replace c3 := Bool.eq_false_iff.mpr c3
    subst c3
    have H1 : (some false) = some r := by rw [if_neg (show ¬ (false = true) by decide)] at H; exact H
    clear H
    have H := H1
    clear H1
    obtain rfl := Option.some.inj H
    go_enter Tryd.func6, Tryd.ntmps6
    go_wp2_with (first | ((with_reducible refine gate_callee (f := 8) rfl ?_); refine goesL_ (some 10) rfl rfl Tryd.func8 (by kernel_rfl) rfl #[] rfl (by (try simp only [List.map_toArray, List.map_cons, List.map_nil]); first | done | rfl | (simp only [List.length_drop, List.length_take]; rfl)) ?_; (with_reducible refine (gristmilllaw3_first.calls (ad := ad) k  false _ ?side1 A2.out).mono ?_); (case side1 => exact GG.below hGG (by repeat (first | (with_reducible first | exact HB.out | apply below_alloc | apply pw_below_drewN | apply below_drew1) | exact HB.out))); rintro e w83 ⟨rfl, hb⟩; refine ⟨_, rfl, ?_⟩; have n0_ := Aside0.mk (below_step (by repeat (first | (with_reducible first | exact HB.out | apply below_alloc | apply pw_below_drewN | apply below_drew1) | exact HB.out)) hb); clear HB; have HB := n0_; clear n0_; (try clear hb); (try clear hb2); (try clear hk); (try clear hi)))
    go_ret
    exact ⟨by first | rfl | (simp [errW_none, errW_some] <;> rfl) | (simp [*, errW_none, errW_some] <;> rfl) | (simp [errW_none, errW_some] <;> (rw [Bool.eq_iff_iff]; simp; done)), by repeat (first | (with_reducible first | exact HB.out | apply below_alloc | apply pw_below_drewN | apply below_drew1) | exact HB.out)⟩

/-- THE ONE PURE STATEMENT of gristmilllaw3_LexMany: yours. -/
def gristmilllaw3_LexMany.Pure : Prop := ∀ (a0 : Int), (Lit.int .i64 a0).wf = true → ∃ k, gristmilllaw3_LexMany.f k a0 = some true
theorem gristmilllaw3_LexMany.walk (P : gristmilllaw3_LexMany.Pure) (a0 : Int) (w : World) (w0 : (Lit.int .i64 a0).wf = true) (hGG : GG ad w) :
    Calls Tryd.prog 6 #[.int .i64 a0] w fun e w' => e = .returned (.bool true) ∧ Below w.heap.size w w' := by
  obtain ⟨k, h⟩ := P a0 w0
  refine (gristmilllaw3_LexMany.calls k a0 true w hGG h).mono ?_
  rintro e w' ⟨rfl, hd⟩
  exact ⟨rfl, hd⟩

end Go.Proofs.YtiacndjjppcaoaaDoor.PLexN
