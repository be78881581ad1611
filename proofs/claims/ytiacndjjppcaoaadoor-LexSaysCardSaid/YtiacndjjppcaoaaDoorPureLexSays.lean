/- Any text's words, and which words are names: the program's are the reference's: the pure law of LexSays, for every two texts (the statement's own guard: at most 500 and 60 bytes). -/
import Derived.Test.YtiacndjjppcaoaaDoorPureLexApart
import Derived.Test.YtiacndjjppcaoaaDoorPLexx7
import Derived.Test.YtiacndjjppcaoaaDoorLexNm
namespace Go.Proofs.YtiacndjjppcaoaaDoor.Pure
open Go.RowKit Go.Proofs.YtiacndjjppcaoaaDoor.PLex Go.Proofs.YtiacndjjppcaoaaDoor.LexSpec Go.Proofs.YtiacndjjppcaoaaDoorW.PrintWords Go.Proofs.YtiacndjjppcaoaaDoorW.PrintLast
set_option linter.unusedVariables false
set_option linter.unusedSimpArgs false

def cv8 (x : Wd) : S38 := ⟨⟨x.1.toArray⟩, (x.2 : Int)⟩

theorem rwords_ev (s : ByteArray) (hs : s.size ≤ 65536) (n : Nat) : ∀ i : Nat, i + n = s.size →
    (∀ acc : List S38, acc.length ≤ i → Ev (fun k => gristmillref1_Words.l0 k s acc (i : Int)) (acc ++ (lx i .gap (s.data.toList.drop i)).map cv8, true)) ∧
    (∀ acc : List S38, acc.length ≤ i → Ev (fun k => gristmillref1_Words.l1 k s acc (i : Int)) (acc ++ (lx i .note (s.data.toList.drop i)).map cv8, true)) ∧
    (∀ (acc : List S38) (p : Nat) (x : Int), acc.length ≤ p → p < i → x ≠ 40 → x ≠ 41 → Ev (fun k => gristmillref1_Words.l2 k s acc (p : Int) x (i : Int)) (acc ++ (lx i (.word p ((s.data.toList.take i).drop p)) (s.data.toList.drop i)).map cv8, true)) := by
  induction n with
  | zero =>
    intro i hi
    have hge : ¬ ((i : Int) < (s.size : Int)) := by omega
    have hd : s.data.toList.drop i = [] := List.drop_eq_nil_of_le (by have : s.data.toList.length = s.size := data_length s; omega)
    have h0 : ∀ acc : List S38, acc.length ≤ i → Ev (fun k => gristmillref1_Words.l0 k s acc (i : Int)) (acc ++ (lx i .gap (s.data.toList.drop i)).map cv8, true) := by
      intro acc ha
      rw [hd]
      refine Ev.step (f := fun _ => some (acc, true)) (fun k => ?_) (by simpa [lx, fin] using Ev.now _)
      simp only [gristmillref1_Words.l0]
      rw [if_neg hge]
    refine ⟨h0, fun acc ha => ?_, fun acc p x ha hp hx hx' => ?_⟩
    · have := h0 acc ha
      rw [hd] at this ⊢
      refine Ev.step (f := fun k => gristmillref1_Words.l0 k s acc (i : Int)) (fun k => ?_) (by simpa [lx, fin] using this)
      simp only [gristmillref1_Words.l1]
      rw [if_neg hge]
    · have := h0 (acc ++ [cv8 ((s.data.toList.take i).drop p, p)]) (by simp; omega)
      rw [hd] at this ⊢
      refine Ev.step (f := fun k => gristmillref1_Words.l0 k s (acc ++ [cv8 ((s.data.toList.take i).drop p, p)]) (i : Int)) (fun k => ?_) (by simpa [lx, fin] using this)
      simp only [gristmillref1_Words.l2]
      rw [if_neg hx, if_neg hx', if_neg hge, if_pos (by omega), if_pos (by omega), if_pos (by omega), if_pos (by omega), ext_ba]
      rfl
  | succ n ih =>
    intro i hi
    have hlt : i < s.size := by omega
    have hltI : (i : Int) < (s.size : Int) := by omega
    have h0I : (0 : Int) ≤ (i : Int) := by omega
    have hb := bt_get s i hlt
    have hd := drop_get s i hlt
    have hw := wrap_in i (by omega)
    generalize hc : s[i] = c at hb hd
    obtain ⟨ih0, ih1, ih2⟩ := ih (i + 1) (by omega)
    have h0 : ∀ acc : List S38, acc.length ≤ i → Ev (fun k => gristmillref1_Words.l0 k s acc (i : Int)) (acc ++ (lx i .gap (s.data.toList.drop i)).map cv8, true) := by
      intro acc ha
      rw [hd]
      by_cases hsp : sp c = true
      · rw [lx_gap_sp hsp]
        refine Ev.step (fun k => ?_) (ih0 acc (by omega))
        simp only [gristmillref1_Words.l0]
        rw [if_pos hltI, if_pos h0I, hb, space_eq, Option.bind_some, if_pos hsp, hw]
      · by_cases hsemi : c = 59
        · subst hsemi
          rw [lx_gap_semi]
          refine Ev.step (f := fun k => gristmillref1_Words.l1 k s acc (i : Int)) (fun k => ?_) (Ev.step (fun k => ?_) (ih1 acc (by omega)))
          · simp only [gristmillref1_Words.l0]
            rw [if_pos hltI, if_pos h0I, hb, space_eq, Option.bind_some, if_neg hsp, if_pos ((c59 _).2 rfl)]
          · simp only [gristmillref1_Words.l1]
            rw [if_pos hltI, if_pos h0I, hb, if_neg (by rw [c10]; decide), hw]
        · have hl0 : ∀ k, gristmillref1_Words.l0 (k + 1) s acc (i : Int) = gristmillref1_Words.l2 k s acc (i : Int) (c.toNat : Int) ((i + 1 : Nat) : Int) := by
            intro k
            simp only [gristmillref1_Words.l0]
            rw [if_pos hltI, if_pos h0I, hb, space_eq, Option.bind_some, if_neg hsp, if_neg (by rw [c59]; exact hsemi), hw]
          by_cases hr : rnd c = true
          · rw [lx_gap_rnd (by simpa using hsp) hsemi hr]
            have := ih0 (acc ++ [cv8 ([c], i)]) (by simp; omega)
            refine Ev.step hl0 (Ev.step (f := fun k => gristmillref1_Words.l0 k s (acc ++ [cv8 ([c], i)]) ((i + 1 : Nat) : Int)) (fun k => ?_) (by simpa using this))
            simp only [gristmillref1_Words.l2]
            have e : (⟨s.extract ((i : Int)).toNat (((i + 1 : Nat) : Int)).toNat, (i : Int)⟩ : S38) = cv8 ([c], i) := by rw [ext_ba, take_one s i hlt, hc]; rfl
            by_cases h40 : c = 40
            · rw [if_pos ((c40 _).2 h40), if_pos (by omega), if_pos (by omega), if_pos (by omega), if_pos (by omega), e]
            · have h41 : c = 41 := by simpa [rnd, h40] using hr
              rw [if_neg (by rw [c40]; exact h40), if_pos ((c41 _).2 h41), if_pos (by omega), if_pos (by omega), if_pos (by omega), if_pos (by omega), e]
          · have hbk : brk c = false := by simp [brk, hsp, hr, hsemi]
            rw [lx_gap_word hbk]
            have h40 : c ≠ 40 := by rintro rfl; exact hr (by decide)
            have h41 : c ≠ 41 := by rintro rfl; exact hr (by decide)
            have := ih2 acc i (c.toNat : Int) ha (by omega) (by rw [Ne, c40]; exact h40) (by rw [Ne, c41]; exact h41)
            rw [take_one s i hlt, hc] at this
            exact Ev.step hl0 this
    refine ⟨h0, fun acc ha => ?_, fun acc p x ha hp hx hx' => ?_⟩
    · by_cases hnl : c = 10
      · subst hnl
        have := h0 acc ha
        rw [hd, lx_gap_sp (by decide)] at this
        rw [hd, lx_note_nl]
        refine Ev.step (fun k => ?_) this
        simp only [gristmillref1_Words.l1]
        rw [if_pos hltI, if_pos h0I, hb, if_pos ((c10 _).2 rfl)]
      · rw [hd, lx_note_on hnl]
        refine Ev.step (fun k => ?_) (ih1 acc (by omega))
        simp only [gristmillref1_Words.l1]
        rw [if_pos hltI, if_pos h0I, hb, if_neg (by rw [c10]; exact hnl), hw]
    · by_cases hbk : brk c = true
      · have := h0 (acc ++ [cv8 ((s.data.toList.take i).drop p, p)]) (by simp; omega)
        rw [hd] at this ⊢
        rw [lx_word_brk hbk]
        refine Ev.step (f := fun k => gristmillref1_Words.l0 k s (acc ++ [cv8 ((s.data.toList.take i).drop p, p)]) (i : Int)) (fun k => ?_) (by simpa using this)
        simp only [gristmillref1_Words.l2]
        rw [if_neg hx, if_neg hx', if_pos hltI, if_pos h0I, hb, space_eq, Option.bind_some]
        have e : (⟨s.extract ((p : Int)).toNat ((i : Int)).toNat, (p : Int)⟩ : S38) = cv8 ((s.data.toList.take i).drop p, p) := by rw [ext_ba]; rfl
        by_cases hsp : sp c = true
        · rw [if_pos hsp, if_pos (by omega), if_pos (by omega), if_pos (by omega), if_pos (by omega), e]
        · rw [if_neg hsp]
          by_cases h59 : c = 59
          · rw [if_pos ((c59 _).2 h59), if_pos (by omega), if_pos (by omega), if_pos (by omega), if_pos (by omega), e]
          · rw [if_neg (by rw [c59]; exact h59)]
            by_cases h40 : c = 40
            · rw [if_pos ((c40 _).2 h40), if_pos (by omega), if_pos (by omega), if_pos (by omega), if_pos (by omega), e]
            · have h41 : c = 41 := by simpa [brk, hsp, h59, rnd, h40] using hbk
              rw [if_neg (by rw [c40]; exact h40), if_pos ((c41 _).2 h41), if_pos (by omega), if_pos (by omega), if_pos (by omega), if_pos (by omega), e]
      · have hbk' : brk c = false := by simpa using hbk
        obtain ⟨hsp, hr, hsemi⟩ := brk_false hbk'
        have h40 : c ≠ 40 := by rintro rfl; exact absurd hr (by decide)
        have h41 : c ≠ 41 := by rintro rfl; exact absurd hr (by decide)
        have := ih2 acc p x ha (by omega) hx hx'
        rw [take_snoc s p i (by omega) hlt, hc] at this
        rw [hd, lx_word_on hbk']
        refine Ev.step (fun k => ?_) this
        simp only [gristmillref1_Words.l2]
        rw [if_neg hx, if_neg hx', if_pos hltI, if_pos h0I, hb, space_eq, Option.bind_some, if_neg (by simp [hsp]), if_neg (by rw [c59]; exact hsemi), if_neg (by rw [c40]; exact h40), if_neg (by rw [c41]; exact h41), hw]

theorem RWords_ev (s : ByteArray) (hs : s.size ≤ 65536) : Ev (fun k => gristmillref1_Words.f k s) ((lx 0 .gap s.data.toList).map cv8, true) := by
  have := (rwords_ev s hs s.size 0 (by omega)).1 [] (by simp)
  refine Ev.congr (fun k => ?_) (by simpa using this)
  unfold gristmillref1_Words.f
  rw [if_neg (by omega)]

theorem says_ev (x1 : ByteArray) (h1 : x1.size ≤ 140737488351232) (W : List Wd) (hW : W.length ≤ 70000) (d : Nat) : ∀ j : Nat, j + d = W.length →
    Ev (fun k => gristmilllaw3_LexSays.l0 k x1 true (W.map cv) (W.map cv8) (j : Int)) true := by
  induction d with
  | zero =>
    intro j hj
    have a := Name_ev x1 h1
    have b := RName_ev x1 h1
    have c := Upper_ev x1 h1
    have e := RUpper_ev x1 h1
    refine Ev.step (f := fun k => (lex_Name.f k x1).bind fun t253 => ((gristmillref1_Name.f k x1).bind fun t254 => (if (t253 == t254) = true then ((lex_Upper.f k x1).bind fun t255 => ((gristmillref1_Upper.f k x1).bind fun t256 => (some (t255 == t256)))) else (some false)))) (fun k => ?_) ?_
    · simp only [gristmilllaw3_LexSays.l0]
      rw [if_neg (by simp; omega), if_pos (by trivial)]
    · refine Ev.bind a (Ev.bind b ?_)
      simp only [BEq.rfl, if_true]
      refine Ev.bind c (Ev.bind e ?_)
      simp only [BEq.rfl]
      exact Ev.now _
  | succ d ih =>
    intro j hj
    have hlt : j < W.length := by omega
    have e1 : rd_T32 (W.map cv) (j : Int) = cv W[j] := by simp [rd_T32, hlt]
    have e2 : rd_T38 (W.map cv8) (j : Int) = cv8 W[j] := by simp [rd_T38, hlt]
    refine Ev.step (fun k => ?_) (ih (j + 1) (by omega))
    simp only [gristmilllaw3_LexSays.l0]
    rw [if_pos (by simp; omega), if_pos (by omega), if_pos (by simp; omega), e1, e2, if_pos (by rfl), if_pos (by rfl), wrap_in j (by omega)]

theorem LexSays : gristmilllaw3_LexSays.Pure := by
  intro a0 a1 _ h1'
  apply Ev.rounds
  unfold gristmilllaw3_LexSays.f
  refine Ev.bind first_ev ?_
  simp only [if_true]
  by_cases h0 : (a0.size : Int) > 500
  · simp only [if_pos h0]
    refine Ev.step (f := fun _ => some true) (fun k => ?_) (Ev.now true)
    simp only [gristmilllaw3_LexSays.j0]
    rw [if_pos (by trivial)]
  · simp only [if_neg h0]
    by_cases h1 : (a1.size : Int) > 60
    · refine Ev.step (f := fun _ => some true) (fun k => ?_) (Ev.now true)
      simp only [gristmilllaw3_LexSays.j0]
      rw [if_pos (by simpa using h1)]
    · obtain ⟨K1, e1⟩ := Words_ev a0 (by omega)
      obtain ⟨K2, e2⟩ := RWords_ev a0 (by omega)
      obtain ⟨K3, e3⟩ := says_ev a1 h1' (lx 0 .gap a0.data.toList) (Nat.le_trans (lx_length _ 0).1 (by rw [data_length]; omega)) _ 0 (by rw [Nat.zero_add])
      refine ⟨K1 + K2 + K3 + 2, fun k hk => ?_⟩
      obtain ⟨k, rfl⟩ : ∃ m, k = m + 2 := ⟨k - 2, by omega⟩
      replace e1 : lex_Words.f (k + 1) a0 = some _ := e1 (k + 1) (by omega)
      replace e2 : gristmillref1_Words.f (k + 1) a0 = some _ := e2 (k + 1) (by omega)
      simp only [gristmilllaw3_LexSays.j0]
      rw [if_neg (by simp; omega), e1, Option.bind_some, e2, Option.bind_some, if_pos (by rfl)]
      simp only [gristmilllaw3_LexSays.j1]
      rw [if_neg (by simp)]
      exact e3 k (by omega)
end Go.Proofs.YtiacndjjppcaoaaDoor.Pure
