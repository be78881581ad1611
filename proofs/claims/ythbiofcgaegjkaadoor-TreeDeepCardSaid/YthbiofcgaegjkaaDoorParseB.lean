/- The walk of tree.Parse: what the call comes to wherever the plain function has an answer. No other condition. -/
import Derived.Test.YthbiofcgaegjkaaDoorParseC
namespace Go.Proofs.YthbiofcgaegjkaaDoor.Parse
open Go.RowKit Go.Proofs.YthbiofcgaegjkaaDoorW.PrintWords Go.Proofs.YthbiofcgaegjkaaDoorW.PrintLast Go.Proofs.YthbiofcgaegjkaaDoorW.PrintMore Go.Proofs.YthbiofcgaegjkaaDoor.PTreeA Go.Proofs.YthbiofcgaegjkaaDoor.PTreeL Go.Proofs.YthbiofcgaegjkaaDoor.ExtE Go.Proofs.YthbiofcgaegjkaaDoor.Inv
set_option linter.unusedVariables false
set_option linter.unusedSimpArgs false
variable {ad : Int → Addr}
def Post (ad : Int → Addr) (w : World) (r1 : List S39) (r2 : Option Int) (e : Ending) (w' : World) : Prop :=
  ∃ v0 : Value, ∃ adf : Int → Addr, e = .returned (.tuple #[v0, errW adf r2]) ∧ Kd.R k39 39 w' w.heap.size (fun _ => True) v0 r1 ∧ AtOk ad adf w' r2 ∧ Below w.heap.size w w'
set_option maxHeartbeats 8000000 in
set_option maxRecDepth 100000 in
theorem parse_err (k : Nat) (a0 : ByteArray) (c : Int) (ws : List S46) (w : World) (hGG : GG ad w) (hq : lex_Words.f k a0 = some (ws, some c)) (hc : c % 1000 < 500) :
    Calls Tryd.prog 7 #[.string a0] w (Post ad w [] (some c)) := by
  have C := lex_Words.calls (ad := ad) k a0 ws (some c) w hGG hq
  have he : errW ad (some c) = .iface 74 (.pointer (some (ad c))) := by rw [errW_some, ety, if_pos hc]
  rw [he] at C
  go_enter Tryd.func7, Tryd.ntmps7
  go_wp2_with (go_at_call 15; refine C.mono ?_; rintro e w1 ⟨v0, rfl, hr, hb⟩)
  go_ret2
  exact ⟨.slice none 0 0, ad, congrArg Ending.returned (congrArg Value.tuple (by rw [he]; rfl)), Kd.R_nil _ _ _ _ _, .old rfl (fun c' e => by injection e with e; subst e; exact hc), hb⟩
theorem St.start {w w1 : World} {vW : Value} {ws : List S46} (hr : Kd.R k46 46 w1 w.heap.size (fun _ => True) vW ws) (hb : Below w.heap.size w w1) : St w (w1.alloc (.cells #[.string ⟨#[]⟩, .slice none 0 0, .int .i64 0] 39)) vW ws w1.heap.size 1 Parse.start [zQ] where
  inv := {
    len := rfl
    sp := ⟨fun _ _ => trivial, [.string ⟨#[]⟩, .slice none 0 0, .int .i64 0], World.ownsRow_lit (base := w.heap.size) (e := 39) (size := 3) w1 #[.string ⟨#[]⟩, .slice none 0 0, .int .i64 0] 1 hb.size (by decide) rfl, ⟨rfl, fun j p hj => by
      match j, hj with
      | 0, hj =>
        obtain rfl := Option.some.inj hj
        exact ⟨rfl, rfl⟩⟩⟩
    sh := fun j q x hq hx => by
      match j, hq, hx with
      | 0, hq, hx =>
        obtain rfl := Option.some.inj hq
        obtain rfl := Option.some.inj hx
        exact ⟨rfl, rfl, Kd.R_nil _ _ _ _ _⟩ }
  wr := Kd.R_below hr (below_alloc (Below.refl _ _) _)
  hb := hb.alloc hb.size _
set_option maxHeartbeats 8000000 in
set_option maxRecDepth 100000 in
theorem parse_ok (k : Nat) (a0 : ByteArray) (ws : List S46) (w : World) (hGG : GG ad w) (hq : lex_Words.f k a0 = some (ws, none)) (hl : ws.length ≤ 65536) :
    Calls Tryd.prog 7 #[.string a0] w (Post ad w (run ws start).1 (run ws start).2) := by
  have C := lex_Words.calls (ad := ad) k a0 ws none w hGG hq
  rw [errW_none] at C
  go_enter Tryd.func7, Tryd.ntmps7
  go_wp2_with (go_at_call 15; refine C.mono ?_; rintro e w1 ⟨v0, rfl, hr, hb⟩; obtain ⟨A0, c0, hv0, hC0, hc0⟩ := Kd.R_reads hr; subst hv0)
  have hS0 := Aside0.mk (St.start hr hb)
  have hl9 : ws.length ≤ 65536 := hl
  clear hb hr hC0 hc0 C hl
  go_loopg [6, 22] (ws.length + 1) (fun kq v6 v22 w' => ∃ (i : Nat) (m : Nat) (g cap : Nat) (opn : List S39) (qs : List Q), v6 = .slice (some ⟨g, 0, none⟩) (m + 1) cap ∧ v22 = .int .i64 (i : Int) ∧ i + kq = ws.length + 1 ∧ 1 ≤ kq ∧ m ≤ 200 ∧ Aside0 (opn.length = m + 1) ∧ Aside0 (St w w' (.slice A0 ws.length c0) ws g cap opn qs) ∧ Aside0 (run (ws.drop i) opn = run ws start) ∧ Aside0 (∀ x ∈ opn, x.f1.length ≤ i))
  case atStart => exact ⟨0, 0, _, 1, start, [zQ], rfl, rfl, by omega, by omega, by omega, ⟨rfl⟩, hS0, ⟨rfl⟩, ⟨fun x hx => by simp [start] at hx; subst hx; simp⟩⟩
  case round =>
    obtain ⟨i, m, g, cap, opn, qs, rfl, rfl, hi, hk, hm, hol, hS, hrun, hlen⟩ := hrel
    by_cases hlt : i < ws.length
    · obtain ⟨_, hC2⟩ := (Kd.R_reads' hS.out.wr).2
      obtain ⟨a1, rfl, hv0, hv1⟩ := at_T46 hC2 (i : Int) (by omega) (by omega)
      have p0 : 0 ≤ (i : Int) := by omega
      have q0 : (i : Int) < (ws.length : Int) := by omega
      have q1 : decide ((i : Int) < (ws.length : Int)) = true := decide_eq_true q0
      have hx : rd_T46 ws (i : Int) = ws[i] := by simp [rd_T46, hlt]
      have hwi : wrap64 ((i : Int) + 1) = ((i + 1 : Nat) : Int) := by unfold wrap64; omega
      simp only [Int.toNat_natCast] at hv0 hv1
      rw [hx] at hv0 hv1
      have HRUN := hrun.out
      rw [List.drop_eq_getElem_cons hlt] at HRUN
      generalize hxx : ws[i] = x at *
      have HRUN := Aside0.mk HRUN
      clear hrun hC2 hxx hx
      have hB := hS.out.hb
      have hB1 : Below w.heap.size w (wr.alloc (.cells #[.string x.f0, .int .i64 x.f1] 46)) := hB.alloc hB.size _
      have hG1 := hGG.below hB1
      have hg0 := hG1.deep
      have hg1 := hG1.clos
      have HB1 := Aside0.mk hB1
      clear hB hB1 hG1
      have hW1 := hS.out.below (W1 := wr.alloc (.cells #[.string x.f0, .int .i64 x.f1] 46)) (below_alloc (Below.refl _ _) _)
      have hS1 := Aside0.mk hW1
      have hbk := Aside0.mk (blk_new wr (.cells #[.string x.f0, .int .i64 x.f1] 46 (0, 0)))
      clear hW1
      obtain ⟨y, hy⟩ : ∃ y, opn[m]? = some y := ⟨_, List.getElem?_eq_getElem (by have := hol.out; omega)⟩
      obtain ⟨q, hq⟩ : ∃ q, qs[m]? = some q := ⟨_, List.getElem?_eq_getElem (by have := hol.out; have := hS.out.inv.len; omega)⟩
      have hy := Aside0.mk hy
      have hq := Aside0.mk hq
      by_cases hop : x.f0.toList = [40]
      · by_cases hd : m = 200
        · subst hd
          have HE := Aside0.mk (show run ws start = ([], some (1000 * x.f1 + 605)) by rw [← HRUN.out]; simp only [run, stepW]; rw [if_pos hop, if_pos (by have := hol.out; omega)])
          clear HRUN
          go_wp2
          go_region
          all_goals
            go_wp2
            go_ret2
            rw [HE.out]
            exact ⟨.slice none 0 0, fun _ => ⟨wr.heap.size + 1, 0, none⟩, congrArg Ending.returned (congrArg Value.tuple (by rw [errW_at605]; rfl)), Kd.R_nil _ _ _ _ _, .new ⟨wr.heap.size + 1, 0, none⟩ x.f1 105 rfl (by decide) (by simp) (by simp) rfl, by repeat (first | (with_reducible first | exact HB1.out | apply below_alloc | apply pw_below_drewN | apply below_drew1) | exact HB1.out)⟩
        · have c200 : ((m : Int) == 200) = false := by simp; omega
          have HD := Aside0.mk hd
          have HR2 := Aside0.mk (show run (ws.drop (i + 1)) (opn ++ [⟨⟨#[]⟩, [], x.f1⟩]) = run ws start by rw [← HRUN.out]; simp only [run, stepW]; rw [if_pos hop, if_neg (by have := hol.out; omega)])
          have HS1 := Aside0.mk (show Kd.R kQ 39 (wr.alloc (.cells #[.string x.f0, .int .i64 x.f1] 46)) w.heap.size (fun _ => True) (.slice (some ⟨g, 0, none⟩) (m + 1) cap) qs by have := hS1.out.inv.sp; rwa [hol.out] at this)
          have HQ := Aside0.mk (show (qs.length + 1) * 48 ≤ 140737488355328 by have := hol.out; have := hS.out.inv.len; omega)
          clear hd HRUN
          go_wp2_with (((with_reducible refine gate_builtin (b := .append) (xs := #[.tmp 63, .tmp 67]) rfl ?_); at_builtin; refine Kd.R_append kQ (w0 := w) w.heap.size rfl (.tmp 63) (.tmp 67) 23 39 (.agg #[(.string ⟨#[]⟩), (.slice none 0 0), (.int .i64 0)]) 48 rfl Tryd.underlying23 info39 rfl (by decide) (by decide) (.slice (some ⟨g, 0, none⟩) (m + 1) cap) qs ⟨⟨#[]⟩, .slice none 0 0, x.f1⟩ [.string ⟨#[]⟩, .slice none 0 0, .int .i64 x.f1] (fun _ => True) (fun _ => False) rfl (congrArg (fun n => Value.slice (some ⟨n, 0, none⟩) 1 1) (Array.size_push _).symm) ?aP (fun _ hk => hk.elim) (fun _ _ => trivial) ?aO ?aB ?aS ?aL ?_; (case aP => exact ⟨rfl, rfl⟩); (case aO => exact HS1.out); (case aB => exact HB1.out); (case aS => exact HB1.out.size); (case aL => exact HQ.out); intro v2 w2 ho hb2 hg2 hat2; obtain ⟨g1, cap1, hv2, hst⟩ := St.push hS1.out x.f1 hg2 hat2 ho hb2; have hST := Aside0.mk hst; rw [List.length_append, List.length_singleton, hol.out] at hv2; subst hv2; clear ho hb2 hg2 hat2 hst))
          go_roundg (gk - 1)
          case measure => omega
          case rel => exact ⟨i + 1, m + 1, g1, cap1, _, _, rfl, by go_num, by omega, by omega, by have := HD.out; omega, ⟨by rw [List.length_append, hol.out]; rfl⟩, hST, HR2, ⟨fun z hz => by
            rcases List.mem_append.1 hz with hz | hz
            · exact Nat.le_succ_of_le (hlen.out z hz)
            · rw [List.mem_singleton] at hz
              subst hz
              exact Nat.zero_le _⟩⟩
      · have HOP := Aside0.mk hop
        have hopb : (x.f0.toList == [40]) = false := by simpa using hop
        by_cases hcl : x.f0.toList = [41]
        · by_cases h0 : m = 0
          · subst h0
            have HE := Aside0.mk (show run ws start = ([], some (1000 * x.f1 + 607)) by rw [← HRUN.out]; simp only [run, stepW]; rw [if_neg HOP.out, if_pos hcl, if_pos (by have := hol.out; omega)])
            clear HRUN hop
            go_wp2
            go_region
            all_goals
              go_wp2
              go_ret2
              rw [HE.out]
              exact ⟨.slice none 0 0, fun _ => ⟨wr.heap.size + 1, 0, none⟩, congrArg Ending.returned (congrArg Value.tuple (by rw [errW_at607]; rfl)), Kd.R_nil _ _ _ _ _, .new ⟨wr.heap.size + 1, 0, none⟩ x.f1 107 rfl (by decide) (by simp) (by simp) rfl, by repeat (first | (with_reducible first | exact HB1.out | apply below_alloc | apply pw_below_drewN | apply below_drew1) | exact HB1.out)⟩
          · obtain ⟨t, rfl⟩ : ∃ t, m = t + 1 := ⟨m - 1, by omega⟩
            have cb0 : ((t : Int) + 1 == 0) = false := by simp; omega
            have hwt : wrap64 (t : Int) = (t : Int) := by unfold wrap64; omega
            have ht0 : (0 : Int) ≤ (t : Int) := by omega
            have htn : ((t : Int) + 1).toNat = t + 1 := by omega
            have hp1 : (0 : Int) ≤ (t : Int) + 1 := by omega
            have hl1 : (t : Int) < (t : Int) + 1 + 1 := by omega
            have hl2 : (t : Int) + 1 < (t : Int) + 1 + 1 := by omega
            have HOC := Aside0.mk (And.intro hop hcl)
            have hclb : (x.f0.toList == [41]) = true := by simpa using hcl
            clear h0
            obtain ⟨yt, hyt⟩ : ∃ y, opn[t]? = some y := ⟨_, List.getElem?_eq_getElem (by have := hol.out; omega)⟩
            obtain ⟨qt, hqt0⟩ : ∃ q, qs[t]? = some q := ⟨_, List.getElem?_eq_getElem (by have := hol.out; have := hS.out.inv.len; omega)⟩
            have hqt := Aside0.mk (show (qs.take (t + 1))[t]? = some qt by rw [List.getElem?_take, if_pos (by omega)]; exact hqt0)
            have hyt1 := Aside0.mk hyt
            have hyt := Aside0.mk (show (opn.take (t + 1))[t]? = some yt by rw [List.getElem?_take, if_pos (by omega)]; exact hyt)
            obtain ⟨A1, c1, hqvt, _, _⟩ := Kd.R_reads (hS.out.inv.sh t qt yt hqt0 hyt1.out).2.2
            obtain ⟨A2, c2, hqv, _, _⟩ := Kd.R_reads (hS.out.inv.sh (t + 1) q y hq.out hy.out).2.2
            have hqvt := Aside0.mk hqvt
            have hqv := Aside0.mk hqv
            have LY := Aside0.mk (show yt.f1.length < 65536 by have := hlen.out yt (List.mem_of_getElem? hyt1.out); omega)
            have HRR := Aside0.mk (show run (ws.drop (i + 1)) ((opn.take (t + 1)).set t { yt with f1 := yt.f1 ++ [y] }) = run ws start by
              rw [← HRUN.out]
              simp only [run, stepW]
              rw [if_neg HOC.out.1, if_pos HOC.out.2, if_neg (by have := hol.out; omega), hol.out, Nat.add_sub_cancel, hy.out]
              simp only [addTo]
              rw [show (opn.take (t + 1)).length - 1 = t by rw [List.length_take, hol.out]; omega, hyt.out])
            have hcap : (t : Int) + 1 ≤ (cap : Int) := by
              have h1 := (Kd.R_reads' hS.out.inv.sp).2.1
              have h2 := hol.out
              omega
            have hyl : (yt.f1.length : Int) < (yt.f1.length : Int) + 1 := by omega
            clear hop hcl HRUN
            go_wp2
            go_region
            · go_wp2
              have hSW := hS1.out.below (W1 := (((wr.alloc (.cells #[.string x.f0, .int .i64 x.f1] 46)).alloc (.cells #[.bool false] 4)).drew).drew) (below_drew1 (below_drew1 (below_alloc (Below.refl _ _) _)))
              obtain ⟨hz0, hz1, hz2, _⟩ := hSW.inv.cells hq.out hy.out
              rw [hqv.out] at hz1
              obtain ⟨hcut, hT⟩ := hSW.cut hol.out (show t < t + 1 by omega) hq.out hy.out hqt0
              have hD := hcut.det hqt.out hyt.out
              rw [hqv.out, hqvt.out] at hT
              rw [hqvt.out] at hD
              have hzt := (hD.spcell hqt.out).1
              rw [hqvt.out] at hzt
              have F0 := Aside0.mk (show _ ∧ _ ∧ _ ∧ _ from And.intro hzt (And.intro hz0 (And.intro hz1 hz2)))
              have D1 := Aside0.mk hD
              have T1 := Aside0.mk hT
              clear hSW hz0 hz1 hz2 hcut hT hD hzt hqt0
              refine start_ (n := 18) (S := fun w' => w'.cell? ⟨g, t * 3 + 1, none⟩ = some (.slice A1 yt.f1.length c1) ∧ w'.cell? ⟨g, (t + 1) * 3, none⟩ = some (.string y.f0) ∧ w'.cell? ⟨g, (t + 1) * 3 + 1, none⟩ = some (.slice A2 y.f1.length c2) ∧ w'.cell? ⟨g, (t + 1) * 3 + 2, none⟩ = some (.int .i64 y.f2)) (ds := [14, 17]) #[false, false, false, false, false, false, false, false, false, false, false, false, false, false, false, false, false, false] (by kernel_rfl) rfl rfl ⟨F0.out.1, F0.out.2.1, F0.out.2.2.1, F0.out.2.2.2⟩ (fun hHeld => ?_)
              generalize (((wr.alloc (.cells #[.string x.f0, .int .i64 x.f1] 46)).alloc (.cells #[.bool false] 4)).drew).drew = W9 at *
              refine pure_ (i := 0) (N := some 108) (v := ?_) (a' := ?_) #[true, false, false, false, false, false, false, false, false, false, false, false, false, false, false, false, false, false] rfl rfl (by kernel_rfl) (fun _ _ _ h => h) (Or.inl ⟨by rfl, ?_⟩) ?_ ?_
              rotate_left
              · intro w'
                go_simp
                with_reducible rfl
              rotate_left
              · simp only [Act.put, List.setIfInBounds_toArray, List.set_cons_zero, List.set_cons_succ, i64_w, i32_w]
                rfl
              refine pure_ (i := 1) (N := some 109) (v := ?_) (a' := ?_) #[true, true, false, false, false, false, false, false, false, false, false, false, false, false, false, false, false, false] rfl rfl (by kernel_rfl) (fun _ _ _ h => h) (Or.inl ⟨by rfl, ?_⟩) ?_ ?_
              rotate_left
              · intro w'
                go_simp
                with_reducible rfl
              rotate_left
              · simp only [Act.put, List.setIfInBounds_toArray, List.set_cons_zero, List.set_cons_succ, i64_w, i32_w]
                rfl
              refine pure_ (i := 2) (N := some 110) (v := ?_) (a' := ?_) #[true, true, true, false, false, false, false, false, false, false, false, false, false, false, false, false, false, false] rfl rfl (by kernel_rfl) (fun _ _ _ h => h) (Or.inl ⟨by rfl, ?_⟩) ?_ ?_
              rotate_left
              · intro w'
                go_simp
                with_reducible rfl
              rotate_left
              · simp only [Act.put, List.setIfInBounds_toArray, List.set_cons_zero, List.set_cons_succ, i64_w, i32_w]
                rfl
              refine pure_ (i := 3) (N := some 111) (v := ?_) (a' := ?_) #[true, true, true, true, false, false, false, false, false, false, false, false, false, false, false, false, false, false] rfl rfl (by kernel_rfl) (fun _ _ _ h => h) (Or.inl ⟨by rfl, ?_⟩) ?_ ?_
              rotate_left
              · intro w'
                go_simp
                with_reducible rfl
              rotate_left
              · simp only [Act.put, List.setIfInBounds_toArray, List.set_cons_zero, List.set_cons_succ, i64_w, i32_w]
                rfl
              refine pure_ (i := 4) (N := some 112) (v := ?_) (a' := ?_) #[true, true, true, true, true, false, false, false, false, false, false, false, false, false, false, false, false, false] rfl rfl (by kernel_rfl) (fun _ _ _ h => h) (Or.inl ⟨by rfl, ?_⟩) ?_ ?_
              rotate_left
              · intro w'
                go_simp
                with_reducible rfl
              rotate_left
              · simp only [Act.put, List.setIfInBounds_toArray, List.set_cons_zero, List.set_cons_succ, i64_w, i32_w]
                rfl
              refine pure_ (i := 5) (N := some 113) (v := ?_) (a' := ?_) #[true, true, true, true, true, true, false, false, false, false, false, false, false, false, false, false, false, false] rfl rfl (by kernel_rfl) (fun _ _ _ h => h) (Or.inl ⟨by rfl, ?_⟩) ?_ ?_
              rotate_left
              · intro w'
                go_simp
                with_reducible rfl
              rotate_left
              · simp only [Act.put, List.setIfInBounds_toArray, List.set_cons_zero, List.set_cons_succ, i64_w, i32_w]
                rfl
              refine pure_ (i := 6) (N := some 114) (v := ?_) (a' := ?_) #[true, true, true, true, true, true, true, false, false, false, false, false, false, false, false, false, false, false] rfl rfl (by kernel_rfl) (fun _ _ _ h => h) (Or.inl ⟨by rfl, ?_⟩) ?_ ?_
              rotate_left
              · intro w'
                go_simp
                with_reducible rfl
              rotate_left
              · simp only [Act.put, List.setIfInBounds_toArray, List.set_cons_zero, List.set_cons_succ, i64_w, i32_w]
                rfl
              refine pure_ (i := 7) (N := some 115) (v := ?_) (a' := ?_) #[true, true, true, true, true, true, true, true, false, false, false, false, false, false, false, false, false, false] rfl rfl (by kernel_rfl) (fun _ _ _ h => h) (Or.inl ⟨by rfl, ?_⟩) ?_ ?_
              rotate_left
              · intro w'
                go_simp
                with_reducible rfl
              rotate_left
              · simp only [Act.put, List.setIfInBounds_toArray, List.set_cons_zero, List.set_cons_succ, i64_w, i32_w]
                rfl
              refine pure_ (i := 9) (N := some 117) (v := ?_) (a' := ?_) #[true, true, true, true, true, true, true, true, false, true, false, false, false, false, false, false, false, false] rfl rfl (by kernel_rfl) (fun _ _ _ h => h) (Or.inl ⟨by rfl, ?_⟩) ?_ ?_
              rotate_left
              · intro w'
                go_simp
                with_reducible rfl
              rotate_left
              · simp only [Act.put, List.setIfInBounds_toArray, List.set_cons_zero, List.set_cons_succ, i64_w, i32_w]
                rfl
              refine pure_ (i := 10) (N := some 118) (v := ?_) (a' := ?_) #[true, true, true, true, true, true, true, true, false, true, true, false, false, false, false, false, false, false] rfl rfl (by kernel_rfl) (fun _ _ _ h => h) (Or.inl ⟨by rfl, ?_⟩) ?_ ?_
              rotate_left
              · intro w'
                go_simp
                with_reducible rfl
              rotate_left
              · simp only [Act.put, List.setIfInBounds_toArray, List.set_cons_zero, List.set_cons_succ, i64_w, i32_w]
                rfl
              refine pure_ (i := 11) (N := some 119) (v := ?_) (a' := ?_) #[true, true, true, true, true, true, true, true, false, true, true, true, false, false, false, false, false, false] rfl rfl (by kernel_rfl) (fun _ _ _ h => h) (Or.inl ⟨by rfl, ?_⟩) ?_ ?_
              rotate_left
              · intro w'
                go_simp
                with_reducible rfl
              rotate_left
              · simp only [Act.put, List.setIfInBounds_toArray, List.set_cons_zero, List.set_cons_succ, i64_w, i32_w]
                rfl
              refine take_ (i := 8) (N := some 116) (v := ?_) (a' := ?_) #[true, true, true, true, true, true, true, true, true, true, true, true, false, false, false, false, false, false] rfl rfl (by kernel_rfl) (fun _ _ _ h => h) (Or.inl ⟨by rfl, ?_⟩) hHeld ?_ ?_
              rotate_left
              · rintro w' ⟨s0, s1, s2, s3⟩
                go_simp
                with_reducible rfl
              rotate_left
              · simp only [Act.put, List.setIfInBounds_toArray, List.set_cons_zero, List.set_cons_succ, i64_w, i32_w]
                rfl
              refine take_ (i := 12) (N := some 120) (v := ?_) (a' := ?_) #[true, true, true, true, true, true, true, true, true, true, true, true, true, false, false, false, false, false] rfl rfl (by kernel_rfl) (fun _ _ _ h => h) (Or.inl ⟨by rfl, ?_⟩) hHeld ?_ ?_
              rotate_left
              · rintro w' ⟨s0, s1, s2, s3⟩
                go_simp
                with_reducible rfl
              rotate_left
              · simp only [Act.put, List.setIfInBounds_toArray, List.set_cons_zero, List.set_cons_succ, i64_w, i32_w]
                rfl
              refine one_ (i := 13) (N := some 121) #[true, true, true, true, true, true, true, true, true, true, true, true, true, true, false, false, false, false] rfl rfl (by kernel_rfl) (by decide) (fun K hK => ?_)
              refine value_ (w1 := ?_) (v := ?_) (by rfl) rfl ?_ ?_
              rotate_left 2
              · go_simp
                constructor
                · rfl
                · rfl
              refine hK.out _ _ ⟨(World.cell?_alloc_lt _ _ _ (World.block_lt_of_cell? _ _ (hHeld.1))).trans (hHeld.1), (World.cell?_alloc_lt _ _ _ (World.block_lt_of_cell? _ _ (hHeld.2.1))).trans (hHeld.2.1), (World.cell?_alloc_lt _ _ _ (World.block_lt_of_cell? _ _ (hHeld.2.2.1))).trans (hHeld.2.2.1), (World.cell?_alloc_lt _ _ _ (World.block_lt_of_cell? _ _ (hHeld.2.2.2))).trans (hHeld.2.2.2)⟩ (fun hHeld => ?_)
              clear hK K
              refine norm_ (a' := ?_) ?_ ?_
              rotate_left
              · show Act.put _ (some 121) _ = _
                simp only [Act.put, List.setIfInBounds_toArray, List.set_cons_zero, List.set_cons_succ, i64_w, i32_w]
                rfl
              refine last_ (i := 14) (N := some 122) #[true, true, true, true, true, true, true, true, true, true, true, true, true, true, true, false, false, false] rfl rfl (by kernel_rfl) (by decide) (fun K hK => ?_)
              refine Kd.R_append_step k39 (w0 := w) w.heap.size (by rfl) (.tmp 116) (.tmp 121) 23 39 (.agg #[(.string ⟨#[]⟩), (.slice none 0 0), (.int .i64 0)]) 48 rfl Tryd.underlying23 info39 rfl (by decide) (by decide) (.slice A1 yt.f1.length c1) yt.f1 y [.string y.f0, .slice A2 y.f1.length c2, .int .i64 y.f2] (okD g (qs.take (t + 1)) t (.slice A1 yt.f1.length c1) t) (fun k => okD g (qs.take (t + 1)) t (.slice A1 yt.f1.length c1) t k ∧ some k ≠ (Value.slice A1 yt.f1.length c1).ownBlock) rfl rfl ?aP (fun _ hk => hk) ?aF ?aO ?aB ?aS ?aL ?_
              case aP => exact k39_mkM _ _ _ y T1.out
              case aF => exact D1.out.det.fresh
              case aO => exact D1.out.det.row
              case aB => exact D1.out.hb
              case aS => exact D1.out.hb.size
              case aL => have := LY.out; omega
              intro v2 W2 ho hb2 hg2 hat2
              have D2 := Aside0.mk (Sd.grown D1.out hg2 hat2 ho hb2)
              obtain ⟨g1, c3, hv2, _⟩ := Kd.R_form ho (by simp)
              rw [List.length_append, List.length_singleton] at hv2
              subst hv2
              clear ho hb2 hg2 hat2
              refine hK.out _ _ ?_
              clear hK K
              refine norm_ (a' := ?_) ?_ ?_
              rotate_left
              · show Act.put _ (some 122) _ = _
                simp only [Act.put, List.setIfInBounds_toArray, List.set_cons_zero, List.set_cons_succ, i64_w, i32_w]
                rfl
              refine pure_ (i := 15) (N := some 123) (v := ?_) (a' := ?_) #[true, true, true, true, true, true, true, true, true, true, true, true, true, true, true, true, false, false] rfl rfl (by kernel_rfl) (fun _ _ _ h => h) (Or.inl ⟨by rfl, ?_⟩) ?_ ?_
              rotate_left
              · intro w'
                go_simp
                with_reducible rfl
              rotate_left
              · simp only [Act.put, List.setIfInBounds_toArray, List.set_cons_zero, List.set_cons_succ, i64_w, i32_w]
                rfl
              refine pure_ (i := 16) (N := some 124) (v := ?_) (a' := ?_) #[true, true, true, true, true, true, true, true, true, true, true, true, true, true, true, true, true, false] rfl rfl (by kernel_rfl) (fun _ _ _ h => h) (Or.inl ⟨by rfl, ?_⟩) ?_ ?_
              rotate_left
              · intro w'
                go_simp
                with_reducible rfl
              rotate_left
              · simp only [Act.put, List.setIfInBounds_toArray, List.set_cons_zero, List.set_cons_succ, i64_w, i32_w]
                rfl
              refine last_ (i := 17) (N := none) #[true, true, true, true, true, true, true, true, true, true, true, true, true, true, true, true, true, true] rfl rfl (by kernel_rfl) (by decide) (fun K hK => ?_)
              obtain ⟨hs0, hs1⟩ := D2.out.spcell hqt.out
              rw [hqvt.out] at hs0
              refine skip_ (w1 := ?_) (by rfl) rfl ?_ ?_
              rotate_left
              · go_simp
                rfl
              have D3 := Aside0.mk (Sd.put D2.out hqt.out)
              refine hK.out _ _ ?_
              clear hK K
              refine done_ (by kernel_rfl) ?_
              have hF := Aside0.mk (D3.out.inv (q := { qt with v := .slice (some ⟨g1, 0, none⟩) (yt.f1.length + 1) c3 }) (by rw [List.getElem?_set_self (List.getElem?_eq_some_iff.1 hqt.out).1]) rfl hyt.out)
              go_wp2
              go_roundg (gk - 1)
              case measure => omega
              case rel => exact ⟨i + 1, t, g, cap, _, _, rfl, by go_num, by omega, by omega, by omega, ⟨by rw [List.length_set, List.length_take, hol.out]; omega⟩, hF, HRR, ⟨fun z hz => by
                rcases List.mem_or_eq_of_mem_set hz with hz | hz
                · exact Nat.le_succ_of_le (hlen.out z (List.mem_of_mem_take hz))
                · subst hz
                  have := hlen.out yt (List.mem_of_getElem? hyt1.out)
                  simp only [List.length_append, List.length_singleton]
                  omega⟩⟩
            · go_wp2
              have hSW := hS1.out.below (W1 := (((wr.alloc (.cells #[.string x.f0, .int .i64 x.f1] 46)).alloc (.cells #[.bool true] 4)).drew).drew) (below_drew1 (below_drew1 (below_alloc (Below.refl _ _) _)))
              obtain ⟨hz0, hz1, hz2, _⟩ := hSW.inv.cells hq.out hy.out
              rw [hqv.out] at hz1
              obtain ⟨hcut, hT⟩ := hSW.cut hol.out (show t < t + 1 by omega) hq.out hy.out hqt0
              have hD := hcut.det hqt.out hyt.out
              rw [hqv.out, hqvt.out] at hT
              rw [hqvt.out] at hD
              have hzt := (hD.spcell hqt.out).1
              rw [hqvt.out] at hzt
              have F0 := Aside0.mk (show _ ∧ _ ∧ _ ∧ _ from And.intro hzt (And.intro hz0 (And.intro hz1 hz2)))
              have D1 := Aside0.mk hD
              have T1 := Aside0.mk hT
              clear hSW hz0 hz1 hz2 hcut hT hD hzt hqt0
              refine start_ (n := 19) (S := fun w' => w'.cell? ⟨g, t * 3 + 1, none⟩ = some (.slice A1 yt.f1.length c1) ∧ w'.cell? ⟨g, (t + 1) * 3, none⟩ = some (.string y.f0) ∧ w'.cell? ⟨g, (t + 1) * 3 + 1, none⟩ = some (.slice A2 y.f1.length c2) ∧ w'.cell? ⟨g, (t + 1) * 3 + 2, none⟩ = some (.int .i64 y.f2)) (ds := [15, 18]) #[false, false, false, false, false, false, false, false, false, false, false, false, false, false, false, false, false, false, false] (by kernel_rfl) rfl rfl ⟨F0.out.1, F0.out.2.1, F0.out.2.2.1, F0.out.2.2.2⟩ (fun hHeld => ?_)
              generalize (((wr.alloc (.cells #[.string x.f0, .int .i64 x.f1] 46)).alloc (.cells #[.bool true] 4)).drew).drew = W9 at *
              refine pure_ (i := 0) (N := some 89) (v := ?_) (a' := ?_) #[true, false, false, false, false, false, false, false, false, false, false, false, false, false, false, false, false, false, false] rfl rfl (by kernel_rfl) (fun _ _ _ h => h) (Or.inl ⟨by rfl, ?_⟩) ?_ ?_
              rotate_left
              · intro w'
                go_simp
                with_reducible rfl
              rotate_left
              · simp only [Act.put, List.setIfInBounds_toArray, List.set_cons_zero, List.set_cons_succ, i64_w, i32_w]
                rfl
              refine pure_ (i := 1) (N := some 90) (v := ?_) (a' := ?_) #[true, true, false, false, false, false, false, false, false, false, false, false, false, false, false, false, false, false, false] rfl rfl (by kernel_rfl) (fun _ _ _ h => h) (Or.inl ⟨by rfl, ?_⟩) ?_ ?_
              rotate_left
              · intro w'
                go_simp
                with_reducible rfl
              rotate_left
              · simp only [Act.put, List.setIfInBounds_toArray, List.set_cons_zero, List.set_cons_succ, i64_w, i32_w]
                rfl
              refine pure_ (i := 2) (N := some 91) (v := ?_) (a' := ?_) #[true, true, true, false, false, false, false, false, false, false, false, false, false, false, false, false, false, false, false] rfl rfl (by kernel_rfl) (fun _ _ _ h => h) (Or.inl ⟨by rfl, ?_⟩) ?_ ?_
              rotate_left
              · intro w'
                go_simp
                with_reducible rfl
              rotate_left
              · simp only [Act.put, List.setIfInBounds_toArray, List.set_cons_zero, List.set_cons_succ, i64_w, i32_w]
                rfl
              refine pure_ (i := 3) (N := some 92) (v := ?_) (a' := ?_) #[true, true, true, true, false, false, false, false, false, false, false, false, false, false, false, false, false, false, false] rfl rfl (by kernel_rfl) (fun _ _ _ h => h) (Or.inl ⟨by rfl, ?_⟩) ?_ ?_
              rotate_left
              · intro w'
                go_simp
                with_reducible rfl
              rotate_left
              · simp only [Act.put, List.setIfInBounds_toArray, List.set_cons_zero, List.set_cons_succ, i64_w, i32_w]
                rfl
              refine pure_ (i := 4) (N := some 93) (v := ?_) (a' := ?_) #[true, true, true, true, true, false, false, false, false, false, false, false, false, false, false, false, false, false, false] rfl rfl (by kernel_rfl) (fun _ _ _ h => h) (Or.inl ⟨by rfl, ?_⟩) ?_ ?_
              rotate_left
              · intro w'
                go_simp
                with_reducible rfl
              rotate_left
              · simp only [Act.put, List.setIfInBounds_toArray, List.set_cons_zero, List.set_cons_succ, i64_w, i32_w]
                rfl
              refine pure_ (i := 5) (N := some 94) (v := ?_) (a' := ?_) #[true, true, true, true, true, true, false, false, false, false, false, false, false, false, false, false, false, false, false] rfl rfl (by kernel_rfl) (fun _ _ _ h => h) (Or.inl ⟨by rfl, ?_⟩) ?_ ?_
              rotate_left
              · intro w'
                go_simp
                with_reducible rfl
              rotate_left
              · simp only [Act.put, List.setIfInBounds_toArray, List.set_cons_zero, List.set_cons_succ, i64_w, i32_w]
                rfl
              refine pure_ (i := 6) (N := some 95) (v := ?_) (a' := ?_) #[true, true, true, true, true, true, true, false, false, false, false, false, false, false, false, false, false, false, false] rfl rfl (by kernel_rfl) (fun _ _ _ h => h) (Or.inl ⟨by rfl, ?_⟩) ?_ ?_
              rotate_left
              · intro w'
                go_simp
                with_reducible rfl
              rotate_left
              · simp only [Act.put, List.setIfInBounds_toArray, List.set_cons_zero, List.set_cons_succ, i64_w, i32_w]
                rfl
              refine pure_ (i := 7) (N := some 96) (v := ?_) (a' := ?_) #[true, true, true, true, true, true, true, true, false, false, false, false, false, false, false, false, false, false, false] rfl rfl (by kernel_rfl) (fun _ _ _ h => h) (Or.inl ⟨by rfl, ?_⟩) ?_ ?_
              rotate_left
              · intro w'
                go_simp
                with_reducible rfl
              rotate_left
              · simp only [Act.put, List.setIfInBounds_toArray, List.set_cons_zero, List.set_cons_succ, i64_w, i32_w]
                rfl
              refine pure_ (i := 9) (N := some 98) (v := ?_) (a' := ?_) #[true, true, true, true, true, true, true, true, false, true, false, false, false, false, false, false, false, false, false] rfl rfl (by kernel_rfl) (fun _ _ _ h => h) (Or.inl ⟨by rfl, ?_⟩) ?_ ?_
              rotate_left
              · intro w'
                go_simp
                with_reducible rfl
              rotate_left
              · simp only [Act.put, List.setIfInBounds_toArray, List.set_cons_zero, List.set_cons_succ, i64_w, i32_w]
                rfl
              refine pure_ (i := 10) (N := some 99) (v := ?_) (a' := ?_) #[true, true, true, true, true, true, true, true, false, true, true, false, false, false, false, false, false, false, false] rfl rfl (by kernel_rfl) (fun _ _ _ h => h) (Or.inl ⟨by rfl, ?_⟩) ?_ ?_
              rotate_left
              · intro w'
                go_simp
                with_reducible rfl
              rotate_left
              · simp only [Act.put, List.setIfInBounds_toArray, List.set_cons_zero, List.set_cons_succ, i64_w, i32_w]
                rfl
              refine pure_ (i := 11) (N := some 100) (v := ?_) (a' := ?_) #[true, true, true, true, true, true, true, true, false, true, true, true, false, false, false, false, false, false, false] rfl rfl (by kernel_rfl) (fun _ _ _ h => h) (Or.inl ⟨by rfl, ?_⟩) ?_ ?_
              rotate_left
              · intro w'
                go_simp
                with_reducible rfl
              rotate_left
              · simp only [Act.put, List.setIfInBounds_toArray, List.set_cons_zero, List.set_cons_succ, i64_w, i32_w]
                rfl
              refine take_ (i := 8) (N := some 97) (v := ?_) (a' := ?_) #[true, true, true, true, true, true, true, true, true, true, true, true, false, false, false, false, false, false, false] rfl rfl (by kernel_rfl) (fun _ _ _ h => h) (Or.inl ⟨by rfl, ?_⟩) hHeld ?_ ?_
              rotate_left
              · rintro w' ⟨s0, s1, s2, s3⟩
                go_simp
                with_reducible rfl
              rotate_left
              · simp only [Act.put, List.setIfInBounds_toArray, List.set_cons_zero, List.set_cons_succ, i64_w, i32_w]
                rfl
              refine pure_ (i := 13) (N := some 102) (v := ?_) (a' := ?_) #[true, true, true, true, true, true, true, true, true, true, true, true, false, true, false, false, false, false, false] rfl rfl (by kernel_rfl) (fun _ _ _ h => h) (Or.inl ⟨by rfl, ?_⟩) ?_ ?_
              rotate_left
              · intro w'
                go_simp
                with_reducible rfl
              rotate_left
              · simp only [Act.put, List.setIfInBounds_toArray, List.set_cons_zero, List.set_cons_succ, i64_w, i32_w]
                rfl
              refine take_ (i := 12) (N := some 101) (v := ?_) (a' := ?_) #[true, true, true, true, true, true, true, true, true, true, true, true, true, true, false, false, false, false, false] rfl rfl (by kernel_rfl) (fun _ _ _ h => h) (Or.inl ⟨by rfl, ?_⟩) hHeld ?_ ?_
              rotate_left
              · rintro w' ⟨s0, s1, s2, s3⟩
                go_simp
                with_reducible rfl
              rotate_left
              · simp only [Act.put, List.setIfInBounds_toArray, List.set_cons_zero, List.set_cons_succ, i64_w, i32_w]
                rfl
              refine one_ (i := 14) (N := some 103) #[true, true, true, true, true, true, true, true, true, true, true, true, true, true, true, false, false, false, false] rfl rfl (by kernel_rfl) (by decide) (fun K hK => ?_)
              refine value_ (w1 := ?_) (v := ?_) (by rfl) rfl ?_ ?_
              rotate_left 2
              · go_simp
                constructor
                · rfl
                · rfl
              refine hK.out _ _ ⟨(World.cell?_alloc_lt _ _ _ (World.block_lt_of_cell? _ _ (hHeld.1))).trans (hHeld.1), (World.cell?_alloc_lt _ _ _ (World.block_lt_of_cell? _ _ (hHeld.2.1))).trans (hHeld.2.1), (World.cell?_alloc_lt _ _ _ (World.block_lt_of_cell? _ _ (hHeld.2.2.1))).trans (hHeld.2.2.1), (World.cell?_alloc_lt _ _ _ (World.block_lt_of_cell? _ _ (hHeld.2.2.2))).trans (hHeld.2.2.2)⟩ (fun hHeld => ?_)
              clear hK K
              refine norm_ (a' := ?_) ?_ ?_
              rotate_left
              · show Act.put _ (some 103) _ = _
                simp only [Act.put, List.setIfInBounds_toArray, List.set_cons_zero, List.set_cons_succ, i64_w, i32_w]
                rfl
              refine last_ (i := 15) (N := some 104) #[true, true, true, true, true, true, true, true, true, true, true, true, true, true, true, true, false, false, false] rfl rfl (by kernel_rfl) (by decide) (fun K hK => ?_)
              refine Kd.R_append_step k39 (w0 := w) w.heap.size (by rfl) (.tmp 97) (.tmp 103) 23 39 (.agg #[(.string ⟨#[]⟩), (.slice none 0 0), (.int .i64 0)]) 48 rfl Tryd.underlying23 info39 rfl (by decide) (by decide) (.slice A1 yt.f1.length c1) yt.f1 z39 [.string ⟨#[]⟩, .slice none 0 0, .int .i64 0] (okD g (qs.take (t + 1)) t (.slice A1 yt.f1.length c1) t) (fun _ => False) rfl rfl ?aP (fun _ hk => hk.elim) ?aF ?aO ?aB ?aS ?aL ?_
              case aP => exact k39_mkM _ _ _ z39 (Kd.R_nil _ _ _ _ _)
              case aF => exact D1.out.det.fresh
              case aO => exact D1.out.det.row
              case aB => exact D1.out.hb
              case aS => exact D1.out.hb.size
              case aL => have := LY.out; omega
              intro v2 W2 ho hb2 hg2 hat2
              have D2 := Aside0.mk (Sd.grown D1.out hg2 hat2 ho hb2)
              have T2 := Aside0.mk (TX.grown T1.out hg2 hat2)
              obtain ⟨g1, c3, hv2, _⟩ := Kd.R_form ho (by simp)
              rw [List.length_append, List.length_singleton] at hv2
              subst hv2
              clear ho hb2 hg2 hat2
              refine hK.out _ _ ?_
              clear hK K
              refine norm_ (a' := ?_) ?_ ?_
              rotate_left
              · show Act.put _ (some 104) _ = _
                simp only [Act.put, List.setIfInBounds_toArray, List.set_cons_zero, List.set_cons_succ, i64_w, i32_w]
                rfl
              refine pure_ (i := 16) (N := some 105) (v := ?_) (a' := ?_) #[true, true, true, true, true, true, true, true, true, true, true, true, true, true, true, true, true, false, false] rfl rfl (by kernel_rfl) (fun _ _ _ h => h) (Or.inl ⟨by rfl, ?_⟩) ?_ ?_
              rotate_left
              · intro w'
                go_simp
                with_reducible rfl
              rotate_left
              · simp only [Act.put, List.setIfInBounds_toArray, List.set_cons_zero, List.set_cons_succ, i64_w, i32_w]
                rfl
              refine pure_ (i := 17) (N := some 106) (v := ?_) (a' := ?_) #[true, true, true, true, true, true, true, true, true, true, true, true, true, true, true, true, true, true, false] rfl rfl (by kernel_rfl) (fun _ _ _ h => h) (Or.inl ⟨by rfl, ?_⟩) ?_ ?_
              rotate_left
              · intro w'
                go_simp
                with_reducible rfl
              rotate_left
              · simp only [Act.put, List.setIfInBounds_toArray, List.set_cons_zero, List.set_cons_succ, i64_w, i32_w]
                rfl
              refine last_ (i := 18) (N := none) #[true, true, true, true, true, true, true, true, true, true, true, true, true, true, true, true, true, true, true] rfl rfl (by kernel_rfl) (by decide) (fun K hK => ?_)
              obtain ⟨hs0, hs1⟩ := D2.out.spcell hqt.out
              rw [hqvt.out] at hs0
              refine skip_ (w1 := ?_) (by rfl) rfl ?_ ?_
              rotate_left
              · go_simp
                rfl
              have D3 := Aside0.mk (Sd.put D2.out hqt.out)
              have T3 := Aside0.mk (TX.put (q := { qt with v := .slice (some ⟨g1, 0, none⟩) (yt.f1.length + 1) c3 }) T2.out (t * 3 + 1) (.slice (some ⟨g1, 0, none⟩) (yt.f1.length + 1) c3))
              refine hK.out _ _ ?_
              clear hK K
              refine done_ (by kernel_rfl) ?_
              obtain ⟨e0, e1, e2, he0, he1, he2, hf0, hf1, hf2⟩ := D3.out.elcell (i := yt.f1.length) (by simp)
              have D4 := Sd.elem' D3.out (by simp) (i := yt.f1.length) (by simp) (x' := y) (okp := fun k => okD g ((qs.take (t + 1)).set t { qt with v := .slice (some ⟨g1, 0, none⟩) (yt.f1.length + 1) c3 }) t (.slice (some ⟨g1, 0, none⟩) (yt.f1.length + 1) c3) t k ∧ some k ≠ (Value.slice (some ⟨g1, 0, none⟩) (yt.f1.length + 1) c3).ownBlock) (k39_mkM _ _ _ y T3.out) (fun k hk => ⟨hk.1, fun e => hk.2 (by rw [e]; rfl)⟩)
              simp only [List.set_append_right _ _ (Nat.le_refl _), Nat.sub_self, List.set_cons_zero] at D4
              have hF := Aside0.mk (D4.inv (q := { qt with v := .slice (some ⟨g1, 0, none⟩) (yt.f1.length + 1) c3 }) (by rw [List.getElem?_set_self (List.getElem?_eq_some_iff.1 hqt.out).1]) rfl hyt.out)
              clear D4
              go_wp2
              go_roundg (gk - 1)
              case measure => omega
              case rel => exact ⟨i + 1, t, g, cap, _, _, rfl, by go_num, by omega, by omega, by omega, ⟨by rw [List.length_set, List.length_take, hol.out]; omega⟩, hF, HRR, ⟨fun z hz => by
                rcases List.mem_or_eq_of_mem_set hz with hz | hz
                · exact Nat.le_succ_of_le (hlen.out z (List.mem_of_mem_take hz))
                · subst hz
                  have := hlen.out yt (List.mem_of_getElem? hyt1.out)
                  simp only [List.length_append, List.length_singleton]
                  omega⟩⟩
        · have hclb : (x.f0.toList == [41]) = false := by simpa using hcl
          have hq0 := hq.out
          have hy0 := hy.out
          have D := hS1.out.det hq0 hy0
          obtain ⟨A1, c1, hqv, hc1, _⟩ := Kd.R_reads D.det.row
          have hcl1 := (D.spcell hq0).1
          rw [hqv] at D hcl1
          have D1 := Aside0.mk (D.below (W1 := (wr.alloc (.cells #[.string x.f0, .int .i64 x.f1] 46)).drew) (below_drew1 (Below.refl _ _)))
          have LY := Aside0.mk (show y.f1.length < 65536 by have := hlen.out y (List.mem_of_getElem? hy0); omega)
          have HRR := Aside0.mk (show run (ws.drop (i + 1)) (opn.set m { y with f1 := y.f1 ++ [⟨x.f0, [], x.f1⟩] }) = run ws start by rw [← HRUN.out]; simp only [run, stepW]; rw [if_neg hop, if_neg hcl]; simp only [addTo]; rw [hol.out, Nat.add_sub_cancel, hy0])
          have F0 := Aside0.mk (show _ ∧ _ ∧ _ from And.intro (show (wr.alloc (.cells #[.string x.f0, .int .i64 x.f1] 46)).drew.cell? ⟨g, m * 3 + 1, none⟩ = some (.slice A1 y.f1.length c1) from hcl1) (And.intro (show (wr.alloc (.cells #[.string x.f0, .int .i64 x.f1] 46)).drew.cell? ⟨wr.heap.size, 0, none⟩ = some (.string x.f0) from (blk_cell hbk.out 0).trans rfl) (show (wr.alloc (.cells #[.string x.f0, .int .i64 x.f1] 46)).drew.cell? ⟨wr.heap.size, 1, none⟩ = some (.int .i64 x.f1) from (blk_cell hbk.out 1).trans rfl)))
          have hqv := Aside0.mk hqv
          have hmlt : (m : Int) < (m : Int) + 1 := by omega
          have hylt : (y.f1.length : Int) < (y.f1.length : Int) + 1 := by omega
          clear hop hcl hq0 hy0 D hcl1 hc1 HRUN
          go_wp2
          refine start_ (n := 18) (S := fun w' => w'.cell? ⟨g, m * 3 + 1, none⟩ = some (.slice A1 y.f1.length c1) ∧ w'.cell? ⟨wr.heap.size, 0, none⟩ = some (.string x.f0) ∧ w'.cell? ⟨wr.heap.size, 1, none⟩ = some (.int .i64 x.f1)) (ds := [12, 14, 17]) #[false, false, false, false, false, false, false, false, false, false, false, false, false, false, false, false, false, false] (by kernel_rfl) rfl rfl ⟨F0.out.1, F0.out.2.1, F0.out.2.2⟩ (fun hHeld => ?_)
          generalize (wr.alloc (.cells #[.string x.f0, .int .i64 x.f1] 46)).drew = W9 at *
          refine pure_ (i := 0) (N := some 29) (v := ?_) (a' := ?_) #[true, false, false, false, false, false, false, false, false, false, false, false, false, false, false, false, false, false] rfl rfl (by kernel_rfl) (fun _ _ _ h => h) (Or.inl ⟨by rfl, ?_⟩) ?_ ?_
          rotate_left
          · intro w'
            go_simp
            with_reducible rfl
          rotate_left
          · simp only [Act.put, List.setIfInBounds_toArray, List.set_cons_zero, List.set_cons_succ, i64_w, i32_w]
            rfl
          refine pure_ (i := 1) (N := some 30) (v := ?_) (a' := ?_) #[true, true, false, false, false, false, false, false, false, false, false, false, false, false, false, false, false, false] rfl rfl (by kernel_rfl) (fun _ _ _ h => h) (Or.inl ⟨by rfl, ?_⟩) ?_ ?_
          rotate_left
          · intro w'
            go_simp
            with_reducible rfl
          rotate_left
          · simp only [Act.put, List.setIfInBounds_toArray, List.set_cons_zero, List.set_cons_succ, i64_w, i32_w]
            rfl
          refine pure_ (i := 2) (N := some 31) (v := ?_) (a' := ?_) #[true, true, true, false, false, false, false, false, false, false, false, false, false, false, false, false, false, false] rfl rfl (by kernel_rfl) (fun _ _ _ h => h) (Or.inl ⟨by rfl, ?_⟩) ?_ ?_
          rotate_left
          · intro w'
            go_simp
            with_reducible rfl
          rotate_left
          · simp only [Act.put, List.setIfInBounds_toArray, List.set_cons_zero, List.set_cons_succ, i64_w, i32_w]
            rfl
          refine pure_ (i := 3) (N := some 32) (v := ?_) (a' := ?_) #[true, true, true, true, false, false, false, false, false, false, false, false, false, false, false, false, false, false] rfl rfl (by kernel_rfl) (fun _ _ _ h => h) (Or.inl ⟨by rfl, ?_⟩) ?_ ?_
          rotate_left
          · intro w'
            go_simp
            with_reducible rfl
          rotate_left
          · simp only [Act.put, List.setIfInBounds_toArray, List.set_cons_zero, List.set_cons_succ, i64_w, i32_w]
            rfl
          refine pure_ (i := 5) (N := some 34) (v := ?_) (a' := ?_) #[true, true, true, true, false, true, false, false, false, false, false, false, false, false, false, false, false, false] rfl rfl (by kernel_rfl) (fun _ _ _ h => h) (Or.inl ⟨by rfl, ?_⟩) ?_ ?_
          rotate_left
          · intro w'
            go_simp
            with_reducible rfl
          rotate_left
          · simp only [Act.put, List.setIfInBounds_toArray, List.set_cons_zero, List.set_cons_succ, i64_w, i32_w]
            rfl
          refine pure_ (i := 7) (N := some 36) (v := ?_) (a' := ?_) #[true, true, true, true, false, true, false, true, false, false, false, false, false, false, false, false, false, false] rfl rfl (by kernel_rfl) (fun _ _ _ h => h) (Or.inl ⟨by rfl, ?_⟩) ?_ ?_
          rotate_left
          · intro w'
            go_simp
            with_reducible rfl
          rotate_left
          · simp only [Act.put, List.setIfInBounds_toArray, List.set_cons_zero, List.set_cons_succ, i64_w, i32_w]
            rfl
          refine take_ (i := 4) (N := some 33) (v := ?_) (a' := ?_) #[true, true, true, true, true, true, false, true, false, false, false, false, false, false, false, false, false, false] rfl rfl (by kernel_rfl) (fun _ _ _ h => h) (Or.inl ⟨by rfl, ?_⟩) hHeld ?_ ?_
          rotate_left
          · rintro w' ⟨s0, s1, s2⟩
            go_simp
            with_reducible rfl
          rotate_left
          · simp only [Act.put, List.setIfInBounds_toArray, List.set_cons_zero, List.set_cons_succ, i64_w, i32_w]
            rfl
          refine pure_ (i := 10) (N := some 39) (v := ?_) (a' := ?_) #[true, true, true, true, true, true, false, true, false, false, true, false, false, false, false, false, false, false] rfl rfl (by kernel_rfl) (fun _ _ _ h => h) (Or.inl ⟨by rfl, ?_⟩) ?_ ?_
          rotate_left
          · intro w'
            go_simp
            with_reducible rfl
          rotate_left
          · simp only [Act.put, List.setIfInBounds_toArray, List.set_cons_zero, List.set_cons_succ, i64_w, i32_w]
            rfl
          refine take_ (i := 6) (N := some 35) (v := ?_) (a' := ?_) #[true, true, true, true, true, true, true, true, false, false, true, false, false, false, false, false, false, false] rfl rfl (by kernel_rfl) (fun _ _ _ h => h) (Or.inl ⟨by rfl, ?_⟩) hHeld ?_ ?_
          rotate_left
          · rintro w' ⟨s0, s1, s2⟩
            go_simp
            with_reducible rfl
          rotate_left
          · simp only [Act.put, List.setIfInBounds_toArray, List.set_cons_zero, List.set_cons_succ, i64_w, i32_w]
            rfl
          refine take_ (i := 8) (N := some 37) (v := ?_) (a' := ?_) #[true, true, true, true, true, true, true, true, true, false, true, false, false, false, false, false, false, false] rfl rfl (by kernel_rfl) (fun _ _ _ h => h) (Or.inl ⟨by rfl, ?_⟩) hHeld ?_ ?_
          rotate_left
          · rintro w' ⟨s0, s1, s2⟩
            go_simp
            with_reducible rfl
          rotate_left
          · simp only [Act.put, List.setIfInBounds_toArray, List.set_cons_zero, List.set_cons_succ, i64_w, i32_w]
            rfl
          refine pure_ (i := 9) (N := some 38) (v := ?_) (a' := ?_) #[true, true, true, true, true, true, true, true, true, true, true, false, false, false, false, false, false, false] rfl rfl (by kernel_rfl) (fun _ _ _ h => h) (Or.inl ⟨by rfl, ?_⟩) ?_ ?_
          rotate_left
          · intro w'
            go_simp
            with_reducible rfl
          rotate_left
          · simp only [Act.put, List.setIfInBounds_toArray, List.set_cons_zero, List.set_cons_succ, i64_w, i32_w]
            rfl
          refine one_ (i := 11) (N := some 40) #[true, true, true, true, true, true, true, true, true, true, true, true, false, false, false, false, false, false] rfl rfl (by kernel_rfl) (by decide) (fun K hK => ?_)
          refine value_ (w1 := ?_) (v := ?_) (by rfl) rfl ?_ ?_
          rotate_left 2
          · go_simp
            constructor
            · rfl
            · rfl
          refine hK.out _ _ ⟨(World.cell?_alloc_lt _ _ _ (World.block_lt_of_cell? _ _ (hHeld.1))).trans (hHeld.1), (World.cell?_alloc_lt _ _ _ (World.block_lt_of_cell? _ _ (hHeld.2.1))).trans (hHeld.2.1), (World.cell?_alloc_lt _ _ _ (World.block_lt_of_cell? _ _ (hHeld.2.2))).trans (hHeld.2.2)⟩ (fun hHeld => ?_)
          clear hK K
          refine norm_ (a' := ?_) ?_ ?_
          rotate_left
          · show Act.put _ (some 40) _ = _
            simp only [Act.put, List.setIfInBounds_toArray, List.set_cons_zero, List.set_cons_succ, i64_w, i32_w]
            rfl
          refine last_ (i := 12) (N := some 41) #[true, true, true, true, true, true, true, true, true, true, true, true, true, false, false, false, false, false] rfl rfl (by kernel_rfl) (by decide) (fun K hK => ?_)
          refine Kd.R_append_step k39 (w0 := w) w.heap.size (by rfl) (.tmp 33) (.tmp 40) 23 39 (.agg #[(.string ⟨#[]⟩), (.slice none 0 0), (.int .i64 0)]) 48 rfl Tryd.underlying23 info39 rfl (by decide) (by decide) (.slice A1 y.f1.length c1) y.f1 z39 [.string ⟨#[]⟩, .slice none 0 0, .int .i64 0] (okD g qs m (.slice A1 y.f1.length c1) m) (fun _ => False) rfl rfl ?aP (fun _ hk => hk.elim) ?aF ?aO ?aB ?aS ?aL ?_
          case aP => exact k39_mkM _ _ _ z39 (Kd.R_nil _ _ _ _ _)
          case aF => exact D1.out.det.fresh
          case aO => exact D1.out.det.row
          case aB => exact D1.out.hb
          case aS => exact D1.out.hb.size
          case aL => have := LY.out; omega
          intro v2 W2 ho hb2 hg2 hat2
          have D2 := Aside0.mk (Sd.grown D1.out hg2 hat2 ho hb2)
          obtain ⟨g1, c2, hv2, _⟩ := Kd.R_form ho (by simp)
          rw [List.length_append, List.length_singleton] at hv2
          subst hv2
          clear ho hb2 hg2 hat2
          refine hK.out _ _ ?_
          clear hK K
          refine norm_ (a' := ?_) ?_ ?_
          rotate_left
          · show Act.put _ (some 41) _ = _
            simp only [Act.put, List.setIfInBounds_toArray, List.set_cons_zero, List.set_cons_succ, i64_w, i32_w]
            rfl
          refine pure_ (i := 13) (N := some 42) (v := ?_) (a' := ?_) #[true, true, true, true, true, true, true, true, true, true, true, true, true, true, false, false, false, false] rfl rfl (by kernel_rfl) (fun _ _ _ h => h) (Or.inl ⟨by rfl, ?_⟩) ?_ ?_
          rotate_left
          · intro w'
            go_simp
            with_reducible rfl
          rotate_left
          · simp only [Act.put, List.setIfInBounds_toArray, List.set_cons_zero, List.set_cons_succ, i64_w, i32_w]
            rfl
          refine pure_ (i := 15) (N := some 43) (v := ?_) (a' := ?_) #[true, true, true, true, true, true, true, true, true, true, true, true, true, true, false, true, false, false] rfl rfl (by kernel_rfl) (fun _ _ _ h => h) (Or.inl ⟨by rfl, ?_⟩) ?_ ?_
          rotate_left
          · intro w'
            go_simp
            with_reducible rfl
          rotate_left
          · simp only [Act.put, List.setIfInBounds_toArray, List.set_cons_zero, List.set_cons_succ, i64_w, i32_w]
            rfl
          refine pure_ (i := 16) (N := some 44) (v := ?_) (a' := ?_) #[true, true, true, true, true, true, true, true, true, true, true, true, true, true, false, true, true, false] rfl rfl (by kernel_rfl) (fun _ _ _ h => h) (Or.inl ⟨by rfl, ?_⟩) ?_ ?_
          rotate_left
          · intro w'
            go_simp
            with_reducible rfl
          rotate_left
          · simp only [Act.put, List.setIfInBounds_toArray, List.set_cons_zero, List.set_cons_succ, i64_w, i32_w]
            rfl
          refine join_ (σ := Unit) 0 #[true, true, true, true, true, true, true, true, true, true, true, true, true, true, true, true, true, true] (fun _ => []) (fun _ w' => Fin w (.slice (some a1) ws.length c0) ws g cap (opn.set m { y with f1 := y.f1 ++ [⟨x.f0, [], x.f1⟩] }) w') ?_ ?_
          rotate_left
          · intro hCont
            refine two_last_ (i := 14) (j := 17) (Ni := none) (Nj := none) #[true, true, true, true, true, true, true, true, true, true, true, true, true, true, true, true, true, false] #[true, true, true, true, true, true, true, true, true, true, true, true, true, true, false, true, true, true] rfl rfl rfl rfl (by kernel_rfl) (by decide) (by decide) (fun K hK => ?_) (fun K hK => ?_)
            · skip
              obtain ⟨e0, e1, e2, he0, he1, he2, hf0, hf1, hf2⟩ := D2.out.elcell (i := y.f1.length) (by simp)
              refine skip_ (w1 := ?_) (by rfl) rfl ?_ ?_
              rotate_left
              · go_simp
                rfl
              have D3 := Aside0.mk (Sd.elem' D2.out (by simp) (i := y.f1.length) (by simp) (x' := ⟨x.f0, [], x.f1⟩) (okp := fun _ => False) (k39_mkM _ _ _ (⟨x.f0, [], x.f1⟩ : S39) (Kd.R_nil _ _ _ _ _)) (fun _ hk => hk.elim))
              refine hK.out _ _ ?_
              clear hK K
              refine last_ (i := 17) (N := none) #[true, true, true, true, true, true, true, true, true, true, true, true, true, true, true, true, true, true] rfl rfl (by kernel_rfl) (by decide) (fun K hK => ?_)
              obtain ⟨hs0, hs1⟩ := D3.out.spcell hq.out
              rw [hqv.out] at hs0
              refine skip_ (w1 := ?_) (by rfl) rfl ?_ ?_
              rotate_left
              · go_simp
                rfl
              have D4 := Aside0.mk (Sd.put D3.out hq.out)
              refine hK.out _ _ ?_
              clear hK K
              exact hCont () _ (by have := D4.out; simp only [List.length_append, List.length_singleton, List.set_append_right _ _ (Nat.le_refl _), Nat.sub_self, List.set_cons_zero] at this; exact Sd.close this hq.out hy.out)
            · skip
              obtain ⟨hs0, hs1⟩ := D2.out.spcell hq.out
              rw [hqv.out] at hs0
              refine skip_ (w1 := ?_) (by rfl) rfl ?_ ?_
              rotate_left
              · go_simp
                rfl
              have D3 := Aside0.mk (Sd.put D2.out hq.out)
              refine hK.out _ _ ?_
              clear hK K
              refine last_ (i := 14) (N := none) #[true, true, true, true, true, true, true, true, true, true, true, true, true, true, true, true, true, true] rfl rfl (by kernel_rfl) (by decide) (fun K hK => ?_)
              obtain ⟨e0, e1, e2, he0, he1, he2, hf0, hf1, hf2⟩ := D3.out.elcell (i := y.f1.length) (by simp)
              refine skip_ (w1 := ?_) (by rfl) rfl ?_ ?_
              rotate_left
              · go_simp
                rfl
              have D4 := Aside0.mk (Sd.elem' D3.out (by simp) (i := y.f1.length) (by simp) (x' := ⟨x.f0, [], x.f1⟩) (okp := fun _ => False) (k39_mkM _ _ _ (⟨x.f0, [], x.f1⟩ : S39) (Kd.R_nil _ _ _ _ _)) (fun _ hk => hk.elim))
              refine hK.out _ _ ?_
              clear hK K
              exact hCont () _ (by have := D4.out; simp only [List.length_append, List.length_singleton, List.set_append_right _ _ (Nat.le_refl _), Nat.sub_self, List.set_cons_zero] at this; exact Sd.close this hq.out hy.out)
          intro s0_ W_ hF_
          refine norm_ (a' := ?_) ?_ ?_
          rotate_left
          · simp only [putAll]
            rfl
          refine done_ (by kernel_rfl) ?_
          obtain ⟨qs2, hF⟩ := hF_
          have hF := Aside0.mk hF
          go_wp2
          go_roundg (gk - 1)
          case measure => omega
          case rel => exact ⟨i + 1, m, g, cap, _, _, rfl, by go_num, by omega, by omega, by omega, ⟨by rw [List.length_set, hol.out]⟩, hF, HRR, ⟨fun z hz => by
            rcases List.mem_or_eq_of_mem_set hz with hz | hz
            · exact Nat.le_succ_of_le (hlen.out z hz)
            · subst hz
              have := hlen.out y (List.mem_of_getElem? hy.out)
              simp only [List.length_append, List.length_singleton]
              omega⟩⟩
    · have q1 : decide ((i : Int) < (ws.length : Int)) = false := decide_eq_false (by omega)
      obtain ⟨y, hy⟩ : ∃ y, opn[m]? = some y := ⟨_, List.getElem?_eq_getElem (by have := hol.out; omega)⟩
      obtain ⟨q, hq⟩ : ∃ q, qs[m]? = some q := ⟨_, List.getElem?_eq_getElem (by have := hol.out; have := hS.out.inv.len; omega)⟩
      have HRUN := hrun.out
      rw [List.drop_eq_nil_of_le (by omega)] at HRUN
      obtain ⟨hc0, hc1, hc2, _⟩ := hS.out.inv.cells hq hy
      have hR := hS.out.inv.sh m q y hq hy
      by_cases h0 : m = 0
      · subst h0
        have HE := Aside0.mk (show run ws start = (y.f1, none) by rw [← HRUN]; simp only [run]; rw [if_neg (by have := hol.out; omega), List.getD_eq_getElem?_getD, hy]; rfl)
        have HR := Aside0.mk hR.2.2
        clear hR HRUN hc0 hc2 hy hq
        have hc1' : wr.cell? ⟨g, 1, none⟩ = some q.v := hc1
        go_wp2
        go_ret2
        rw [HE.out]
        exact ⟨q.v, ad, rfl, Kd.R_mono HR.out (fun _ _ => trivial), .old rfl (fun c' e => by cases e), hS.out.hb⟩
      · have HE := Aside0.mk (show run ws start = ([], some (1000 * y.f2 + 606)) by rw [← HRUN]; simp only [run]; rw [if_pos (by have := hol.out; omega), hol.out, List.getD_eq_getElem?_getD, Nat.add_sub_cancel, hy]; rfl)
        have hg2 := (hGG.below hS.out.hb).opn
        have hl2 : (m : Int) < (m : Int) + 1 := by omega
        have hp2 : 0 < m := by omega
        have HY := Aside0.mk h0
        clear hR HRUN hc0 hc1 hy hq h0
        go_wp2
        go_region
        all_goals
          go_wp2
          go_ret2
          rw [HE.out]
          exact ⟨.slice none 0 0, fun _ => ⟨wr.heap.size, 0, none⟩, congrArg Ending.returned (congrArg Value.tuple (by rw [errW_at606]; rfl)), Kd.R_nil _ _ _ _ _, .new ⟨wr.heap.size, 0, none⟩ y.f2 106 rfl (by decide) (by simp) (by simp) rfl, by repeat (first | (with_reducible first | exact hS.out.hb | apply below_alloc | apply pw_below_drewN | apply below_drew1) | exact hS.out.hb)⟩
/-- What the call comes to. -/
theorem parse_all (k : Nat) (a0 : ByteArray) (r1 : List S39) (r2 : Option Int) (w : World) (hGG : GG ad w) (h : tree_Parse.f k a0 = some (r1, r2)) :
    Calls Tryd.prog 7 #[.string a0] w (Post ad w r1 r2) := by
  unfold tree_Parse.f at h
  obtain ⟨⟨ws, c⟩, hq, h⟩ := Option.bind_eq_some_iff.mp h
  cases c with
  | some c =>
    have h : (if c % 1000 < 500 then some (([] : List S39), some c) else none) = some (r1, r2) := h
    by_cases hc : c % 1000 < 500
    · rw [if_pos hc] at h
      obtain ⟨rfl, rfl⟩ := Prod.mk.inj (Option.some.inj h)
      exact parse_err k a0 c ws w hGG hq hc
    · rw [if_neg hc] at h
      cases h
  | none =>
    have h : (if ws.length ≤ 65536 then some (run ws start) else none) = some (r1, r2) := h
    by_cases hl : ws.length ≤ 65536
    · rw [if_pos hl] at h
      have h := Option.some.inj h
      have := parse_ok (ad := ad) k a0 ws w hGG hq hl
      rwa [h] at this
    · rw [if_neg hl] at h
      cases h
end Go.Proofs.YthbiofcgaegjkaaDoor.Parse
