/- Words put together with whatever spaces and notes between are read as they are, each where it stands: the pure law of LexApart, for every list of whole numbers (the statement's own guard: at most 20). -/
import Derived.Test.YtiacndjjppcaoaaDoorLexSpec
import Derived.Test.YtiacndjjppcaoaaDoorPLexx2
import Derived.Laws.Strings
namespace Go.Proofs.YtiacndjjppcaoaaDoor.Pure
open Go.RowKit Go.Proofs.YtiacndjjppcaoaaDoor.PLex Go.Proofs.YtiacndjjppcaoaaDoor.LexSpec Go.Proofs.YtiacndjjppcaoaaDoorW.PrintWords Go.Proofs.YtiacndjjppcaoaaDoorW.PrintLast
set_option linter.unusedVariables false
set_option linter.unusedSimpArgs false

theorem first_ev : Ev (fun k => gristmilllaw3_first.f k) true := by
  have h := Words_ev (⟨#[40, 97, 32, 98, 41]⟩ : ByteArray) (by decide)
  rw [show (lx 0 .gap (⟨#[40, 97, 32, 98, 41]⟩ : ByteArray).data.toList) = [([40], 0), ([97], 1), ([98], 3), ([41], 4)] from rfl] at h
  unfold gristmilllaw3_first.f
  refine Ev.bind h (Ev.congr (fun k => ?_) (Ev.now true))
  rw [if_pos (by rfl), if_pos (by rfl), if_pos (by decide), if_pos (by rw [ByteArray.toList_eq]; rfl), if_pos (by decide)]
  rfl

theorem number_ok (a b : Int) (hb : 0 < b) (hb2 : b ≤ 1099511627776) : ∃ r, gristmillworld_Number.f a b = some r ∧ 0 ≤ r ∧ r < b := by
  have h1 := Int.lt_tmod_of_pos a hb
  have h2 := Int.tmod_lt_of_pos a hb
  unfold gristmillworld_Number.f
  rw [if_neg (by omega)]
  by_cases h : Int.tmod a b < 0
  · rw [if_pos h]
    refine ⟨_, rfl, ?_, ?_⟩ <;> (unfold wrap64; omega)
  · rw [if_neg h]
    exact ⟨_, rfl, by omega, h2⟩

def WS : List ByteArray := ([(⟨#[40]⟩ : ByteArray), (⟨#[41]⟩ : ByteArray), (⟨#[97]⟩ : ByteArray), (⟨#[45, 53]⟩ : ByteArray), (⟨#[120, 95, 49]⟩ : ByteArray), (⟨#[102, 43]⟩ : ByteArray), (⟨#[67, 111, 110]⟩ : ByteArray)] : List ByteArray)
def GS : List ByteArray := ([(⟨#[32]⟩ : ByteArray), (⟨#[10]⟩ : ByteArray), (⟨#[9, 32, 13]⟩ : ByteArray), (⟨#[32, 59, 32, 110, 111, 116, 101, 32, 40, 32, 41, 10]⟩ : ByteArray), (⟨#[59, 10]⟩ : ByteArray)] : List ByteArray)

theorem pair_read (a b : Nat) (ha : a < 7) (hb : b < 5) : ∃ w g, WS[a]? = some w ∧ GS[b]? = some g ∧ w.size + g.size ≤ 15 ∧
    ∀ pos rest, lx pos .gap (w.data.toList ++ (g.data.toList ++ rest)) = (w.data.toList, pos) :: lx (pos + w.size + g.size) .gap rest := by
  obtain rfl | rfl | rfl | rfl | rfl | rfl | rfl : a = 0 ∨ a = 1 ∨ a = 2 ∨ a = 3 ∨ a = 4 ∨ a = 5 ∨ a = 6 := by omega
  all_goals
    obtain rfl | rfl | rfl | rfl | rfl : b = 0 ∨ b = 1 ∨ b = 2 ∨ b = 3 ∨ b = 4 := by omega
    all_goals exact ⟨_, _, rfl, rfl, by decide, fun _ _ => rfl⟩

/-- What has been put together so far. -/
structure Sofar (x6 : ByteArray) (x7 : List Int) (x8 : List ByteArray) (j : Nat) (W : List Wd) : Prop where
  at_ : x7 = W.map fun x => (x.2 : Int)
  want : x8 = W.map fun x => (⟨x.1.toArray⟩ : ByteArray)
  len : W.length = j
  size : x6.size ≤ 15 * j
  read : ∀ rest, lx 0 .gap (x6.data.toList ++ rest) = W ++ lx x6.size .gap rest

theorem cmp_ev (b : Bool) (W : List Wd) (d : Nat) : ∀ j, j + d = W.length → W.length ≤ 100 →
    Ev (fun k => gristmilllaw3_LexApart.l1 k b (W.map fun x => (x.2 : Int)) (W.map fun x => (⟨x.1.toArray⟩ : ByteArray)) (W.map cv) (j : Int)) b := by
  induction d with
  | zero =>
    intro j hj hW
    refine Ev.step (f := fun _ => some b) (fun k => ?_) (Ev.now b)
    simp only [gristmilllaw3_LexApart.l1]
    rw [if_neg (by simp; omega)]
  | succ d ih =>
    intro j hj hW
    have hlt : j < W.length := by omega
    refine Ev.step (fun k => ?_) (ih (j + 1) (by omega) hW)
    simp only [gristmilllaw3_LexApart.l1]
    have e1 : rd_T32 (W.map cv) (j : Int) = cv W[j] := by simp [rd_T32, hlt]
    have e2 : rdOf ByteArray.empty (W.map fun x => (⟨x.1.toArray⟩ : ByteArray)) (j : Int) = ⟨W[j].1.toArray⟩ := by simp [rdOf, hlt]
    have e3 : rd (W.map fun x => (x.2 : Int)) (j : Int) = (W[j].2 : Int) := by simp [rd, hlt]
    rw [if_pos (by simp; omega), if_pos (by omega), if_pos (by simp; omega), e1, e2, e3, if_pos (by rfl), if_pos (by simp; omega), if_pos (by rfl), wrap_in j (by omega)]

theorem build_ev (l0 : List Int) (hl : l0.length ≤ 20) (d : Nat) : ∀ (j : Nat) (x6 : ByteArray) (x7 : List Int) (x8 : List ByteArray) (W : List Wd), j + d = l0.length → Sofar x6 x7 x8 j W →
    Ev (fun k => gristmilllaw3_LexApart.l0 k l0 true WS GS x6 x7 x8 (j : Int)) true := by
  induction d with
  | zero =>
    intro j x6 x7 x8 W hj hS
    have hw := Words_ev x6 (by have := hS.size; omega)
    have hr := hS.read []
    rw [List.append_nil] at hr
    rw [hr, show lx x6.size .gap [] = [] from rfl, List.append_nil] at hw
    have hc := cmp_ev true W W.length 0 (by omega) (by have := hS.len; omega)
    rw [← hS.at_, ← hS.want] at hc
    refine Ev.step (f := fun k => (lex_Words.f k x6).bind fun bt146 => (if bt146.2.isNone = true then (gristmilllaw3_LexApart.j1 k true x7 x8 bt146.1 ((bt146.1.length : Int) != (x8.length : Int))) else (gristmilllaw3_LexApart.j1 k true x7 x8 bt146.1 true))) (fun k => ?_) ?_
    · simp only [gristmilllaw3_LexApart.l0]
      rw [if_neg (by omega)]
    · refine Ev.bind hw ?_
      simp only [Option.isNone_none, if_true]
      refine Ev.step (fun k => ?_) hc
      simp only [gristmilllaw3_LexApart.j1]
      rw [hS.want]
      simp
  | succ d ih =>
    intro j x6 x7 x8 W hj hS
    have hlt : j < l0.length := by omega
    obtain ⟨r1, h1, h1a, h1b⟩ := number_ok (rd l0 (j : Int)) 7 (by omega) (by omega)
    obtain ⟨r2, h2, h2a, h2b⟩ := number_ok (wrap64 (Int.tdiv (rd l0 (j : Int)) 7)) 5 (by omega) (by omega)
    obtain ⟨a, rfl⟩ := Int.eq_ofNat_of_zero_le h1a
    obtain ⟨b, rfl⟩ := Int.eq_ofNat_of_zero_le h2a
    obtain ⟨w, g, hw, hg, hsz, hread⟩ := pair_read a b (by omega) (by omega)
    have e1 : rdOf ByteArray.empty WS (a : Int) = w := by simp [rdOf, List.getD_eq_getElem?_getD, hw]
    have e2 : rdOf ByteArray.empty GS (b : Int) = g := by simp [rdOf, List.getD_eq_getElem?_getD, hg]
    have hS' : Sofar ((x6 ++ w) ++ g) (x7 ++ [(x6.size : Int)]) (x8 ++ [w]) (j + 1) (W ++ [(w.data.toList, x6.size)]) := by
      refine ⟨?_, ?_, ?_, ?_, ?_⟩
      · rw [hS.at_]; simp
      · rw [hS.want]; simp
      · simp [hS.len]
      · have := hS.size
        simp only [ByteArray.size_append]
        omega
      · intro rest
        have := hS.read (w.data.toList ++ (g.data.toList ++ rest))
        simp only [ByteArray.data_append, Array.toList_append, List.append_assoc, ByteArray.size_append] at this ⊢
        rw [this, hread]
        simp
    refine Ev.step (fun k => ?_) (ih (j + 1) _ _ _ _ (by omega) hS')
    have hl7 : x7.length = j := by rw [hS.at_]; simp [hS.len]
    have hl8 : x8.length = j := by rw [hS.want]; simp [hS.len]
    have hz := hS.size
    simp only [gristmilllaw3_LexApart.l0]
    rw [if_pos (by omega), if_pos (by omega)]
    rw [show ((WS.length : Nat) : Int) = 7 from rfl, show ((GS.length : Nat) : Int) = 5 from rfl, h1, Option.bind_some, if_pos (by omega), if_pos (by omega), if_pos (by omega), if_pos (by omega), e1, if_pos (by omega), h2, Option.bind_some, if_pos (by omega), if_pos (by omega), e2, if_pos (by simp only [ByteArray.size_append]; omega), wrap_in j (by omega)]

theorem LexApart : gristmilllaw3_LexApart.Pure := by
  intro l0 _ _ _
  apply Ev.rounds
  unfold gristmilllaw3_LexApart.f
  refine Ev.bind first_ev ?_
  simp only [if_true]
  by_cases h : (l0.length : Int) > 20
  · simp only [if_pos h]
    exact Ev.now true
  · simp only [if_neg h]
    exact build_ev l0 (by omega) l0.length 0 ⟨#[]⟩ [] [] [] (by omega) ⟨rfl, rfl, rfl, by decide, fun rest => rfl⟩

end Go.Proofs.YtiacndjjppcaoaaDoor.Pure
