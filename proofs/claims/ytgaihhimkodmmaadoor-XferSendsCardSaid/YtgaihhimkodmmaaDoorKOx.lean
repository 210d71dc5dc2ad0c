/- Layer 22: XferSends: every Good, Due, Round, Ack and Arrived answers as the document says: true (walks over this dump). -/
import Derived.Test.YtgaihhimkodmmaaDoorKNx
namespace Go.Proofs.YtgaihhimkodmmaaDoor
attribute [local irreducible] Tryd.prog
open Go.Fy
set_option linter.unusedSimpArgs false
set_option linter.unusedVariables false
theorem cutS_bounds (s : Send) : (Sp.cutS s).1.length ≤ 32 ∧ ((Sp.cutS s).2 = 0 → 1 ≤ (Sp.cutS s).1.length) := ⟨(Sp.cut_len _ _ _ _).1, fun h => ((Sp.cut_len _ _ _ _).2 h).1⟩
theorem dueTo_nil (s : Send) : Sp.dueTo s s.acked.length = [] ↔ s.acked.all id = true := by
  unfold Sp.dueTo
  rw [List.map_eq_nil_iff, List.filter_eq_nil_iff, List.all_eq_true]
  constructor
  · intro h b hb
    obtain ⟨j, hj, rfl⟩ := List.mem_iff_getElem.1 hb
    have := h j (List.mem_range.2 hj)
    simpa [List.getD_eq_getElem?_getD, hj] using this
  · intro h j hj
    have hj := List.mem_range.1 hj
    have := h s.acked[j] (List.getElem_mem hj)
    simpa [List.getD_eq_getElem?_getD, hj] using this
theorem arrived_due (s : Send) : (Sp.arrived s).1 = (decide ((Sp.due s).2 = 0) && decide ((Sp.due s).1 = [])) ∧ (Sp.arrived s).2 = (Sp.due s).2 := by
  cases hg : Sp.goodSend s with
  | false => simp [Sp.arrived, Sp.due, hg]
  | true =>
    have hl : (Sp.cutS s).1.length = s.acked.length := by
      simp only [Sp.goodSend, Bool.and_eq_true, decide_eq_true_eq] at hg; exact hg.1.2
    simp only [Sp.arrived, Sp.due, hg, if_false, hl, Bool.true_eq_false, decide_true, Bool.true_and, and_true]
    rw [Bool.eq_iff_iff, decide_eq_true_eq]; exact (dueTo_nil s).symm
theorem notes_ext {l m : List Note} (hl : l.length = m.length) (h : ∀ j, j < l.length → l.getD j Sp.zero = m.getD j Sp.zero) : l = m := by
  apply List.ext_getElem?
  intro j
  rcases Nat.lt_or_ge j l.length with hj | hj
  · have := h j hj
    simp only [List.getD_eq_getElem?_getD, List.getElem?_eq_getElem hj, List.getElem?_eq_getElem (show j < m.length by omega), Option.getD_some] at this
    rw [List.getElem?_eq_getElem hj, List.getElem?_eq_getElem (show j < m.length by omega), this]
  · rw [List.getElem?_eq_none hj, List.getElem?_eq_none (by omega)]
section
variable {ea : Nat → Addr} {cds : List Nat} {gl : Nat → Option AV}
theorem c30 (b : Bool) (s : Send) : APure (V ea cds gl) 30 [sendAV b s] false (sendAV b s) := by
  refine acalls_of_body (N := 16) Tryd.func30 rfl rfl (Nat.le_of_ble_eq_true rfl) fun C hV hN hM hO => ?_
  obtain ⟨_, _, w0, G0, σ0, _, own0⟩ := C; dsimp only at hV hN hM hO; subst hV; subst hN; subst hM
  refine awp_seq ?_
  refine awp_region rfl ?_
  refine sR (opr_box (y := .agg _) (n := 1) rfl rfl rfl) rfl rfl rfl ?_
  refine sR (opr_alloc (n := 2) rfl z45) rfl rfl rfl ?_
  refine awp_seq ?_
  refine awp_region rfl ?_
  first
    | refine sP (opp_fieldP rfl rfl fld73_0 rfl) rfl rfl ?_
    | refine sP (opp_fieldF rfl rfl rfl fld73_0 rfl rfl) rfl rfl ?_
  first
    | refine sP (opp_loadP rfl rfl rfl rfl bi rfl ty3) rfl rfl ?_
    | refine sP (opp_loadF rfl rfl ty3) rfl rfl ?_
  first
    | refine sP (opp_fieldP rfl rfl fld73_1 rfl) rfl rfl ?_
    | refine sP (opp_fieldF rfl rfl rfl fld73_1 rfl rfl) rfl rfl ?_
  first
    | refine sP (opp_loadP rfl rfl rfl rfl bi rfl ty23) rfl rfl ?_
    | refine sP (opp_loadF rfl rfl ty23) rfl rfl ?_
  first
    | refine sP (opp_fieldP rfl rfl fld73_2 rfl) rfl rfl ?_
    | refine sP (opp_fieldF rfl rfl rfl fld73_2 rfl rfl) rfl rfl ?_
  first
    | refine sP (opp_loadP rfl rfl rfl rfl bi rfl ty3) rfl rfl ?_
    | refine sP (opp_loadF rfl rfl ty3) rfl rfl ?_
  first
    | refine sP (opp_fieldP rfl rfl fld73_3 rfl) rfl rfl ?_
    | refine sP (opp_fieldF rfl rfl rfl fld73_3 rfl rfl) rfl rfl ?_
  first
    | refine sP (opp_loadP rfl rfl rfl rfl bi rfl ty9) rfl rfl ?_
    | refine sP (opp_loadF rfl rfl ty9) rfl rfl ?_
  first
    | refine sP (opp_fieldP rfl rfl fld73_4 rfl) rfl rfl ?_
    | refine sP (opp_fieldF rfl rfl rfl fld73_4 rfl rfl) rfl rfl ?_
  first
    | refine sP (opp_loadP rfl rfl rfl rfl bi rfl ty43) rfl rfl ?_
    | refine sP (opp_loadF rfl rfl ty43) rfl rfl ?_
  first
    | refine sP (opp_fieldP rfl rfl fld73_5 rfl) rfl rfl ?_
    | refine sP (opp_fieldF rfl rfl rfl fld73_5 rfl rfl) rfl rfl ?_
  first
    | refine sP (opp_loadP rfl rfl rfl rfl bi rfl ty3) rfl rfl ?_
    | refine sP (opp_loadF rfl rfl ty3) rfl rfl ?_
  first
    | refine sP (opp_build rfl z45 bld45 rfl [.int _ _, .agg _, .int _ _, .str _, .sl _ _ _ _, .int _ _] rfl) rfl rfl ?_
    | refine sP (opp_build rfl z45 bld45 rfl [.int _ _, .agg _, .int _ _, .str _, .osl _ _ _ _ _, .int _ _] rfl) rfl rfl ?_
  refine sR0 (opr_store (v := .agg _) (trn := (.agg _)) rfl rfl rfl rfl bi rfl rfl rfl rfl fr2 ty45 (fun _ _ h => h)) rfl rfl rfl ?_
  refine awp_ret ?_
  repeat (first | refine athen_ret ?_ | refine ain_ret ?_)
  first
    | refine apost_ret (aend1 (r0 := .agg _) (.cell rfl rfl rfl (by exact True.intro) rfl ty45 .nil) (.noN rfl rfl) ⟨Wk.v ?_, rfl, rfl⟩)
    | refine apost_ret (aend1s (r0 := .agg _) (.cell rfl rfl rfl (by exact True.intro) rfl ty45 .nil) shut rfl ⟨Wk.v ?_, rfl, rfl⟩)
  exact .refl
theorem c106 (b : Bool) (s : Send) (h0 : s.image.length ≤ 281474976710656) : APure (V ea cds gl) 106 [sendAV b s] false (.tup [.sl 10 (decide ((Sp.cutS s).1 = [])) (Sp.cutS s).1.length (noAt (Sp.cutS s).1), .int .i64 ((Sp.cutS s).2 : Nat)]) := by
  refine acalls_of_body (N := 16) Tryd.func106 rfl rfl (Nat.le_of_ble_eq_true rfl) fun C hV hN hM hO => ?_
  obtain ⟨_, _, w0, G0, σ0, _, own0⟩ := C; dsimp only at hV hN hM hO; subst hV; subst hN; subst hM
  refine awp_seq ?_
  refine awp_region rfl ?_
  refine sR (opr_box (y := .agg _) (n := 1) rfl rfl rfl) rfl rfl rfl ?_
  first
    | refine sP (opp_as (v := .sl _ _ _ _) rfl rfl) rfl rfl ?_
    | refine sP (opp_as (v := .osl _ _ _ _ _) rfl rfl) rfl rfl ?_
  refine sP (opp_as (v := .int _ _) rfl rfl) rfl rfl ?_
  refine awp_seq ?_
  refine awp_region rfl ?_
  first
    | refine sP (opp_fieldP rfl rfl fld73_0 rfl) rfl rfl ?_
    | refine sP (opp_fieldF rfl rfl rfl fld73_0 rfl rfl) rfl rfl ?_
  first
    | refine sP (opp_loadP rfl rfl rfl rfl bi rfl ty3) rfl rfl ?_
    | refine sP (opp_loadF rfl rfl ty3) rfl rfl ?_
  first
    | refine sP (opp_fieldP rfl rfl fld73_1 rfl) rfl rfl ?_
    | refine sP (opp_fieldF rfl rfl rfl fld73_1 rfl rfl) rfl rfl ?_
  first
    | refine sP (opp_loadP rfl rfl rfl rfl bi rfl ty23) rfl rfl ?_
    | refine sP (opp_loadF rfl rfl ty23) rfl rfl ?_
  first
    | refine sP (opp_fieldP rfl rfl fld73_2 rfl) rfl rfl ?_
    | refine sP (opp_fieldF rfl rfl rfl fld73_2 rfl rfl) rfl rfl ?_
  first
    | refine sP (opp_loadP rfl rfl rfl rfl bi rfl ty3) rfl rfl ?_
    | refine sP (opp_loadF rfl rfl ty3) rfl rfl ?_
  first
    | refine sP (opp_fieldP rfl rfl fld73_3 rfl) rfl rfl ?_
    | refine sP (opp_fieldF rfl rfl rfl fld73_3 rfl rfl) rfl rfl ?_
  first
    | refine sP (opp_loadP rfl rfl rfl rfl bi rfl ty9) rfl rfl ?_
    | refine sP (opp_loadF rfl rfl ty9) rfl rfl ?_
  refine sR (opr_strBytes (n := 12) rfl rfl un9 un36 unu8) rfl rfl rfl ?_
  refine sR (opr_call rfl rfl ent49 rfl (c49 s.part s.xid s.stage false s.image h0) (.cons (aview_noN rfl) (.cons (aview_noN rfl) (.cons (aview_noN rfl) (.cons (aview_osl0 rfl (Nat.le_refl _)) .nil))))) rfl rfl rfl ?_ -- d=13 t=114
  refine sP (opp_extract rfl rfl rfl) rfl rfl ?_
  refine sP (opp_extract rfl rfl rfl) rfl rfl ?_
  first
    | refine sP (opp_as (v := .sl _ _ _ _) rfl rfl) rfl rfl ?_
    | refine sP (opp_as (v := .osl _ _ _ _ _) rfl rfl) rfl rfl ?_
  refine sP (opp_as (v := .int _ _) rfl rfl) rfl rfl ?_
  refine awp_ret ?_
  repeat (first | refine athen_ret ?_ | refine ain_ret ?_)
  first
    | refine apost_ret (aend (l := [.sl _ _ _ _, .int _ _]) (.tmp (.tmp .nil)) (fun h => by cases h) (.cons (.noN rfl rfl) (.cons (.noN rfl rfl) .nil)) ⟨Wk.v ?_, rfl, rfl⟩)
    | refine apost_ret (aends (l := [.sl _ _ _ _, .int _ _]) (.tmp (.tmp .nil)) (fun h => by cases h) (.cons shut (fun h => by cases h) (.cons shut (fun h => by cases h) .nil)) rfl ⟨Wk.v ?_, rfl, rfl⟩)
    | refine apost_ret (aend (l := [.osl _ _ _ _ _, .int _ _]) (.tmp (.tmp .nil)) (fun h => by cases h) (.cons (.noN rfl rfl) (.cons (.noN rfl rfl) .nil)) ⟨Wk.v ?_, rfl, rfl⟩)
    | refine apost_ret (aends (l := [.osl _ _ _ _ _, .int _ _]) (.tmp (.tmp .nil)) (fun h => by cases h) (.cons shut (fun h => by cases h) (.cons shut (fun h => by cases h) .nil)) rfl ⟨Wk.v ?_, rfl, rfl⟩)
  exact .refl
theorem c56 (b : Bool) (s : Send) (h0 : s.image.length ≤ 281474976710656) : APure (V ea cds gl) 56 [sendAV b s] false (.bool (Sp.goodSend s)) := by
  refine acalls_of_body (N := 25) Tryd.func56 rfl rfl (Nat.le_of_ble_eq_true rfl) fun C hV hN hM hO => ?_
  obtain ⟨_, _, w0, G0, σ0, _, own0⟩ := C; dsimp only at hV hN hM hO; subst hV; subst hN; subst hM
  refine awp_seq ?_
  refine awp_region rfl ?_
  refine sR (opr_box (y := .agg _) (n := 1) rfl rfl rfl) rfl rfl rfl ?_
  refine sP (opp_as (v := .bool _) rfl rfl) rfl rfl ?_
  refine awp_seq ?_
  refine awp_region rfl ?_
  first
    | refine sP (opp_loadP rfl rfl rfl rfl bi rfl ty73) rfl rfl ?_
    | refine sP (opp_loadF rfl rfl ty73) rfl rfl ?_
  refine sR (opr_call rfl rfl ent106 rfl (c106 b s h0) (AViews.refl _ rfl)) rfl rfl rfl ?_ -- d=7 t=114
  refine sP (opp_mv (v := .tup _) rfl rfl) rfl rfl ?_
  refine sP (opp_extract rfl rfl rfl) rfl rfl ?_
  refine sP (opp_extract rfl rfl rfl) rfl rfl ?_
  first
    | refine sP (opp_as (v := .sl _ _ _ _) rfl rfl) rfl rfl ?_
    | refine sP (opp_as (v := .osl _ _ _ _ _) rfl rfl) rfl rfl ?_
  refine sP (opp_as (v := .int _ _) rfl rfl) rfl rfl ?_
  refine awp_seq ?_
  refine awp_region rfl ?_
  refine sP (opp_mv (v := .int _ _) rfl rfl) rfl rfl ?_
  refine sP (opp_cmp rfl rfl rfl rfl) rfl rfl ?_
  refine sP (opp_mv (v := .bool _) rfl rfl) rfl rfl ?_
  first
    | refine sG _ rfl rfl rfl rfl (fun hg => (And.intro gi (True.intro))) (fun hg => opp_mv (v := .sl _ _ _ _) rfl rfl) ?_
    | refine sG _ rfl rfl rfl rfl (fun hg => (And.intro gi (True.intro))) (fun hg => opp_mv (v := .osl _ _ _ _ _) rfl rfl) ?_
  first
    | refine sG _ rfl rfl rfl rfl (fun hg => (And.intro gi (True.intro))) (fun hg => opp_lenSl rfl rfl un48) ?_
    | refine sG _ rfl rfl rfl rfl (fun hg => (And.intro gi (True.intro))) (fun hg => opp_lenOsl rfl rfl un48) ?_
  first
    | refine sG _ rfl rfl rfl rfl (fun hg => (And.intro gi (True.intro))) (fun hg => opp_fieldP rfl rfl fld73_4 rfl) ?_
    | refine sG _ rfl rfl rfl rfl (fun hg => (And.intro gi (True.intro))) (fun hg => opp_fieldF rfl rfl rfl fld73_4 rfl rfl) ?_
  first
    | refine sG _ rfl rfl rfl rfl (fun hg => (And.intro gi (True.intro))) (fun hg => opp_loadP rfl rfl rfl rfl bi rfl ty43) ?_
    | refine sG _ rfl rfl rfl rfl (fun hg => (And.intro gi (True.intro))) (fun hg => opp_loadF rfl rfl ty43) ?_
  first
    | refine sG _ rfl rfl rfl rfl (fun hg => (And.intro gi (True.intro))) (fun hg => opp_lenSl rfl rfl un43) ?_
    | refine sG _ rfl rfl rfl rfl (fun hg => (And.intro gi (True.intro))) (fun hg => opp_lenOsl rfl rfl un43) ?_
  refine sG _ rfl rfl rfl rfl (fun hg => (And.intro gi (And.intro gi (True.intro)))) (fun hg => opp_cmp rfl rfl rfl rfl) ?_
  refine sPick rfl rfl rfl rfl (by exact True.intro) rfl rfl (fun hg => gi) (fun hg => gi) ?_
  refine sP (opp_mv (v := .bool _) rfl rfl) rfl rfl ?_
  first
    | refine sG _ rfl rfl rfl rfl (fun hg => (And.intro gi (True.intro))) (fun hg => opp_fieldP rfl rfl fld73_5 rfl) ?_
    | refine sG _ rfl rfl rfl rfl (fun hg => (And.intro gi (True.intro))) (fun hg => opp_fieldF rfl rfl rfl fld73_5 rfl rfl) ?_
  first
    | refine sG _ rfl rfl rfl rfl (fun hg => (And.intro gi (True.intro))) (fun hg => opp_loadP rfl rfl rfl rfl bi rfl ty3) ?_
    | refine sG _ rfl rfl rfl rfl (fun hg => (And.intro gi (True.intro))) (fun hg => opp_loadF rfl rfl ty3) ?_
  refine sG _ rfl rfl rfl rfl (fun hg => (And.intro gi (And.intro gi (True.intro)))) (fun hg => opp_cmp rfl rfl rfl rfl) ?_
  refine sPick rfl rfl rfl rfl (by exact True.intro) rfl rfl (fun hg => gi) (fun hg => gi) ?_
  refine sP (opp_as (v := .bool _) rfl rfl) rfl rfl ?_
  refine awp_ret ?_
  repeat (first | refine athen_ret ?_ | refine ain_ret ?_)
  first
    | refine apost_ret (aend1 (r0 := .bool _) (.tmp .nil) (.noN rfl rfl) ⟨Wk.v ?_, rfl, rfl⟩)
    | refine apost_ret (aend1s (r0 := .bool _) (.tmp .nil) shut rfl ⟨Wk.v ?_, rfl, rfl⟩)
  refine .of (congrArg AV.bool ?_)
  rw [Bool.eq_iff_iff]; simp [Sp.goodSend, cmpI, and_assoc, Int.natCast_inj]
theorem c53 (b : Bool) (s : Send) (h0 : s.image.length ≤ 281474976710656) :
    APure (V ea cds gl) 53 [sendAV b s] false (.tup [.sl 10 (decide ((Sp.due s).1 = [])) (Sp.due s).1.length (noAt (Sp.due s).1), .int .i64 ((Sp.due s).2 : Nat)]) := by
  refine acalls_of_body (N := 36) Tryd.func53 rfl rfl (Nat.le_of_ble_eq_true rfl) fun C hV hN hM hO => ?_
  obtain ⟨_, _, w0, G0, σ0, _, own0⟩ := C; dsimp only at hV hN hM hO; subst hV; subst hN; subst hM
  refine awp_seq ?_
  refine awp_region rfl ?_
  refine sR (opr_box (y := .agg _) (n := 1) rfl rfl rfl) rfl rfl rfl ?_
  first
    | refine sP (opp_as (v := .sl _ _ _ _) rfl rfl) rfl rfl ?_
    | refine sP (opp_as (v := .osl _ _ _ _ _) rfl rfl) rfl rfl ?_
  refine sP (opp_as (v := .int _ _) rfl rfl) rfl rfl ?_
  refine awp_seq ?_
  refine awp_seq ?_
  refine awp_region rfl ?_
  first
    | refine sP (opp_loadP rfl rfl rfl rfl bi rfl ty73) rfl rfl ?_
    | refine sP (opp_loadF rfl rfl ty73) rfl rfl ?_
  refine sR (opr_call rfl rfl ent56 rfl (c56 b s h0) (AViews.refl _ rfl)) rfl rfl rfl ?_ -- d=9 t=4
  refine sP (opp_not rfl rfl) rfl rfl ?_
  refine awp_cond _ rfl (fun hc3 => ?_) (fun hc3 => ?_)
  · (try simp only [cmpI, errD_nil, Bool.not_eq_true', Bool.not_eq_false', decide_eq_true_eq, decide_eq_false_iff_not] at hc3); have ht10 := hc3
    refine awp_seq ?_
    refine awp_region rfl ?_
    first
      | refine sP (opp_as (v := .sl _ _ _ _) rfl rfl) rfl rfl ?_
      | refine sP (opp_as (v := .osl _ _ _ _ _) rfl rfl) rfl rfl ?_
    refine sP (opp_as (v := .int _ _) rfl rfl) rfl rfl ?_
    refine awp_ret ?_
    repeat (first | refine athen_ret ?_ | refine ain_ret ?_)
    first
      | refine apost_ret (aend (l := [.sl _ _ _ _, .int _ _]) (.tmp (.tmp .nil)) (fun h => by cases h) (.cons (.noN rfl rfl) (.cons (.noN rfl rfl) .nil)) ⟨Wk.v ?_, rfl, rfl⟩)
      | refine apost_ret (aends (l := [.sl _ _ _ _, .int _ _]) (.tmp (.tmp .nil)) (fun h => by cases h) (.cons shut (fun h => by cases h) (.cons shut (fun h => by cases h) .nil)) rfl ⟨Wk.v ?_, rfl, rfl⟩)
      | refine apost_ret (aend (l := [.osl _ _ _ _ _, .int _ _]) (.tmp (.tmp .nil)) (fun h => by cases h) (.cons (.noN rfl rfl) (.cons (.noN rfl rfl) .nil)) ⟨Wk.v ?_, rfl, rfl⟩)
      | refine apost_ret (aends (l := [.osl _ _ _ _ _, .int _ _]) (.tmp (.tmp .nil)) (fun h => by cases h) (.cons shut (fun h => by cases h) (.cons shut (fun h => by cases h) .nil)) rfl ⟨Wk.v ?_, rfl, rfl⟩)
    rw [show Sp.due s = ([], 9) by simp [Sp.due, show Sp.goodSend s = false by simpa using ht10]]; show Wk _ (.tup [.sl 10 true 0 _, .int .i64 9]); (repeat' (first | exact Wk.refl | exact Wk.sl0 | apply Wk.tup | apply Wk.agg | apply WkL.cons | exact WkL.nil | refine Wk.sl (fun _ _ => ?_)))
  · (try simp only [cmpI, errD_nil, Bool.not_eq_true', Bool.not_eq_false', decide_eq_true_eq, decide_eq_false_iff_not] at hc3); have ht10 := hc3
    refine awp_skip ?_
    refine awp_seq ?_
    have hgs : (((Sp.cutS s).2 = 0) ∧ (Sp.cutS s).1.length = s.acked.length) ∧ 0 ≤ s.rounds := by simpa [Sp.goodSend] using ht10
    have hcl : (Sp.cutS s).1.length ≤ 32 := (Sp.cut_len _ _ _ _).1
    refine awp_region rfl ?_
    first
      | refine sP (opp_loadP rfl rfl rfl rfl bi rfl ty73) rfl rfl ?_
      | refine sP (opp_loadF rfl rfl ty73) rfl rfl ?_
    refine sR (opr_call rfl rfl ent106 rfl (c106 b s h0) (AViews.refl _ rfl)) rfl rfl rfl ?_ -- d=13 t=114
    refine sP (opp_mv (v := .tup _) rfl rfl) rfl rfl ?_
    refine sP (opp_extract rfl rfl rfl) rfl rfl ?_
    refine sP (opp_extract rfl rfl rfl) rfl rfl ?_
    first
      | refine sP (opp_as (v := .sl _ _ _ _) rfl rfl) rfl rfl ?_
      | refine sP (opp_as (v := .osl _ _ _ _ _) rfl rfl) rfl rfl ?_
    refine sP (opp_as (v := .int _ _) rfl rfl) rfl rfl ?_
    refine awp_seq ?_
    refine awp_region rfl ?_
    first
      | refine sP (opp_as (v := .sl _ _ _ _) rfl rfl) rfl rfl ?_
      | refine sP (opp_as (v := .osl _ _ _ _ _) rfl rfl) rfl rfl ?_
    refine awp_seq ?_
    refine awp_seq ?_
    refine awp_region rfl ?_
    refine sP (opp_as (v := .int _ _) rfl rfl) rfl rfl ?_
    refine awp_block ?_
    refine awp_loopK (ι := Nat × Bool) (fun p => p.1 ≤ (Sp.cutS s).1.length ∧ (p.2 = true ↔ (Sp.dueTo s p.1) = [])) (fun p => [(6, cond p.2 (.sl 1 true 0 (fun _ => .top)) (.osl 1006 10 0 (Sp.dueTo s p.1).length (Sp.dueTo s p.1).length)), (7, .int .i64 p.1), (16, .top), (17, .top), (18, .top), (19, .top), (20, .top), (21, .top), (22, .top), (23, .top), (24, .top), (25, .top), (26, .top), (27, .top), (28, .top), (29, .top), (30, .top), (31, .top), (32, .top), (33, .top), (34, .top)]) (fun p => [(1006, cond p.2 none (some (.arr 10 (Sp.dueTo s p.1).length (noAt (Sp.dueTo s p.1)))))]) [1006] (fun p => (Sp.cutS s).1.length - p.1) ((0, true)) (⟨Nat.zero_le _, by simp [Sp.dueTo]⟩) (by
      refine imp_over [] rfl rfl (by kernel_rfl) ?_ ?_
      · refine And.intro wkv ?_
        refine And.intro wkv ?_
        refine And.intro wkv ?_
        refine And.intro wkv ?_
        refine And.intro wkv ?_
        refine And.intro wkv ?_
        refine And.intro wkv ?_
        refine And.intro wkv ?_
        refine And.intro wkv ?_
        refine And.intro wkv ?_
        refine And.intro wkv ?_
        refine And.intro wkv ?_
        refine And.intro wkv ?_
        refine And.intro wkv ?_
        refine And.intro wkv ?_
        refine And.intro wkv ?_
        refine And.intro wkv ?_
        refine And.intro wkv ?_
        refine And.intro wkv ?_
        refine And.intro wkv ?_
        refine And.intro wkv ?_
        exact True.intro
      · exact True.intro
      ) ?_
    intro p hi1; obtain ⟨i, e⟩ := p; rcases e with _ | _
    · dsimp only [cond] at hi1 ⊢
      refine awp_seq ?_
      refine awp_seq ?_
      refine awp_region rfl ?_
      refine sP (opp_mv (v := .int _ _) rfl rfl) rfl rfl ?_
      first
        | refine sP (opp_mv (v := .sl _ _ _ _) rfl rfl) rfl rfl ?_
        | refine sP (opp_mv (v := .osl _ _ _ _ _) rfl rfl) rfl rfl ?_
      first
        | refine sP (opp_lenSl rfl rfl un48) rfl rfl ?_
        | refine sP (opp_lenOsl rfl rfl un48) rfl rfl ?_
      refine sP (opp_cmp rfl rfl rfl rfl) rfl rfl ?_
      refine awp_cond _ rfl (fun hc9 => ?_) (fun hc9 => ?_)
      · (try simp only [cmpI, errD_nil, Bool.not_eq_true', Bool.not_eq_false', decide_eq_true_eq, decide_eq_false_iff_not] at hc9); have ht19 := hc9
        refine awp_skip ?_
        refine awp_seq ?_
        refine awp_block ?_
        refine awp_seq ?_
        refine awp_region rfl ?_
        first
          | refine sP (opp_fieldP rfl rfl fld73_4 rfl) rfl rfl ?_
          | refine sP (opp_fieldF rfl rfl rfl fld73_4 rfl rfl) rfl rfl ?_
        first
          | refine sP (opp_loadP rfl rfl rfl rfl bi rfl ty43) rfl rfl ?_
          | refine sP (opp_loadF rfl rfl ty43) rfl rfl ?_
        refine sP (opp_mv (v := .int _ _) rfl rfl) rfl rfl ?_
        first
          | refine sP (opp_indexSl rfl rfl rfl el43 (by omega) (by omega)) rfl rfl ?_
          | refine sP (opp_indexOsl0 rfl rfl rfl el43 (by omega) (by omega)) rfl rfl ?_
          | refine sP (opp_indexOsl rfl rfl rfl el43 (by omega) (by omega)) rfl rfl ?_
        first
          | refine sP (opp_loadP rfl rfl rfl rfl bi rfl ty4) rfl rfl ?_
          | refine sP (opp_loadF rfl rfl ty4) rfl rfl ?_
        refine sP (opp_not rfl rfl) rfl rfl ?_
        refine awp_cond _ rfl (fun hc11 => ?_) (fun hc11 => ?_)
        · (try simp only [cmpI, errD_nil, Bool.not_eq_true', Bool.not_eq_false', decide_eq_true_eq, decide_eq_false_iff_not] at hc11); have ht27 := hc11
          have hdl := Sp.dueTo_len s i
          refine awp_region rfl ?_
          first
            | refine sP (opp_mv (v := .sl _ _ _ _) rfl rfl) rfl rfl ?_
            | refine sP (opp_mv (v := .osl _ _ _ _ _) rfl rfl) rfl rfl ?_
          first
            | refine sP (opp_mv (v := .sl _ _ _ _) rfl rfl) rfl rfl ?_
            | refine sP (opp_mv (v := .osl _ _ _ _ _) rfl rfl) rfl rfl ?_
          refine sP (opp_mv (v := .int _ _) rfl rfl) rfl rfl ?_
          first
            | refine sP (opp_indexSl rfl rfl rfl el48 (by omega) (by omega)) rfl rfl ?_
            | refine sP (opp_indexOsl0 rfl rfl rfl el48 (by omega) (by omega)) rfl rfl ?_
            | refine sP (opp_indexOsl rfl rfl rfl el48 (by omega) (by omega)) rfl rfl ?_
          first
            | refine sP (opp_loadP rfl rfl rfl rfl bi rfl ty26) rfl rfl ?_
            | refine sP (opp_loadF rfl rfl ty26) rfl rfl ?_
          refine sR (opr_buildSlice (n := 33) (g := fun j => if j = 0 then .agg _ else .agg [.int .i64 0, .int .i64 0, .agg [.int .i64 0, .int .i64 0, .int .i64 0], .int .i64 0, .int .i64 0, .int .i64 0, .int .u32 0, .str []]) rfl eb48 z26 (by decide) rfl rfl) rfl rfl rfl ?_
          first
            | refine sR (opr_append (d := 34) rfl rfl rfl (by omega) (.osl0 rfl (by omega)) eb48 z26 (by omega) (by omega)) rfl rfl rfl ?_
            | refine sR (opr_append (d := 34) rfl rfl rfl (by omega) .sl eb48 z26 (by omega) (by omega)) rfl rfl rfl ?_
            | refine sR (opr_append (d := 34) rfl rfl rfl (by omega) (.osl rfl (by omega) (fun _ _ => rfl)) eb48 z26 (by omega) (by omega)) rfl rfl rfl ?_
            | refine sR (opr_appendNil (d := 34) rfl rfl (.osl0 rfl (by omega)) eb48 z26 (by omega) (by omega) (by omega)) rfl rfl rfl ?_
            | refine sR (opr_appendNil (d := 34) rfl rfl .sl eb48 z26 (by omega) (by omega) (by omega)) rfl rfl rfl ?_
            | refine sR (opr_appendNil (d := 34) rfl rfl (.osl rfl (by omega) (fun _ _ => rfl)) eb48 z26 (by omega) (by omega) (by omega)) rfl rfl rfl ?_
          first
            | refine sP (opp_as (v := .sl _ _ _ _) rfl rfl) rfl rfl ?_
            | refine sP (opp_as (v := .osl _ _ _ _ _) rfl rfl) rfl rfl ?_
          refine awp_region rfl ?_
          refine sP (opp_mv (v := .int _ _) rfl rfl) rfl rfl ?_
          first
            | refine sP (opp_arith rfl rfl rfl (.inl ⟨rfl, w64 (by omega)⟩)) rfl rfl ?_
            | refine sP (opp_arith rfl rfl rfl (.inl ⟨rfl, rfl⟩)) rfl rfl ?_
          refine sP (opp_as (v := .int _ _) rfl rfl) rfl rfl ?_
          have hs1 : Sp.dueTo s (i + 1) = Sp.dueTo s i ++ [(Sp.cutS s).1.getD i Sp.zero] := by rw [Sp.dueTo_succ, if_pos (by simpa using ht27)]
          refine Exists.intro ((i + 1, false)) (And.intro (And.intro (And.intro (by show i + 1 ≤ (Sp.cutS s).1.length; omega) (by rw [hs1]; simp)) (by omega)) (by
            refine imp_over [(1006, 34)] rfl rfl (by kernel_rfl) ?_ ?_
            · refine And.intro (by exact Or.inr (And.intro rfl (WkV.of (by show AV.osl 34 10 0 _ _ = AV.osl 34 10 0 _ _; rw [hs1]; simp)))) ?_
              refine And.intro wkv ?_
              refine And.intro wkv ?_
              refine And.intro wkv ?_
              refine And.intro wkv ?_
              refine And.intro wkv ?_
              refine And.intro wkv ?_
              refine And.intro wkv ?_
              refine And.intro wkv ?_
              refine And.intro wkv ?_
              refine And.intro wkv ?_
              refine And.intro wkv ?_
              refine And.intro wkv ?_
              refine And.intro wkv ?_
              refine And.intro wkv ?_
              refine And.intro wkv ?_
              refine And.intro wkv ?_
              refine And.intro wkv ?_
              refine And.intro wkv ?_
              refine And.intro wkv ?_
              refine And.intro wkv ?_
              exact True.intro
            · refine And.intro (And.intro rfl (And.intro rfl (Exists.intro _ (And.intro rfl (by show WkC (AV.arr 10 _ _) (AV.arr 10 _ _); rw [hs1, List.length_append]; exact WkC.arr (fun j hj => no_append _ _ j _ rfl _ hj)))))) ?_
              exact True.intro
            ))
        · (try simp only [cmpI, errD_nil, Bool.not_eq_true', Bool.not_eq_false', decide_eq_true_eq, decide_eq_false_iff_not] at hc11); have ht27 := hc11
          refine awp_skip ?_
          refine awp_region rfl ?_
          refine sP (opp_mv (v := .int _ _) rfl rfl) rfl rfl ?_
          first
            | refine sP (opp_arith rfl rfl rfl (.inl ⟨rfl, w64 (by omega)⟩)) rfl rfl ?_
            | refine sP (opp_arith rfl rfl rfl (.inl ⟨rfl, rfl⟩)) rfl rfl ?_
          refine sP (opp_as (v := .int _ _) rfl rfl) rfl rfl ?_
          have hs1 : Sp.dueTo s (i + 1) = Sp.dueTo s i := by rw [Sp.dueTo_succ, if_neg (by simpa using ht27)]
          refine Exists.intro ((i + 1, false)) (And.intro (And.intro (And.intro (by show i + 1 ≤ (Sp.cutS s).1.length; omega) (by rw [hs1]; exact hi1.2)) (by omega)) (by
            refine imp_over [] rfl rfl (by kernel_rfl) ?_ ?_
            · refine And.intro (by rw [hs1]; exact Or.inr (And.intro rfl (WkV.refl _))) ?_
              refine And.intro wkv ?_
              refine And.intro wkv ?_
              refine And.intro wkv ?_
              refine And.intro wkv ?_
              refine And.intro wkv ?_
              refine And.intro wkv ?_
              refine And.intro wkv ?_
              refine And.intro wkv ?_
              refine And.intro wkv ?_
              refine And.intro wkv ?_
              refine And.intro wkv ?_
              refine And.intro wkv ?_
              refine And.intro wkv ?_
              refine And.intro wkv ?_
              refine And.intro wkv ?_
              refine And.intro wkv ?_
              refine And.intro wkv ?_
              refine And.intro wkv ?_
              refine And.intro wkv ?_
              refine And.intro wkv ?_
              exact True.intro
            · refine And.intro (And.intro rfl (And.intro rfl (Exists.intro _ (And.intro rfl (by rw [hs1]; exact WkC.refl _))))) ?_
              exact True.intro
            ))
      · (try simp only [cmpI, errD_nil, Bool.not_eq_true', Bool.not_eq_false', decide_eq_true_eq, decide_eq_false_iff_not] at hc9); have ht19 := hc9
        refine awp_exit ?_
        refine awp_seq ?_
        refine awp_region rfl ?_
        first
          | refine sP (opp_mv (v := .sl _ _ _ _) rfl rfl) rfl rfl ?_
          | refine sP (opp_mv (v := .osl _ _ _ _ _) rfl rfl) rfl rfl ?_
        first
          | refine sP (opp_as (v := .sl _ _ _ _) rfl rfl) rfl rfl ?_
          | refine sP (opp_as (v := .osl _ _ _ _ _) rfl rfl) rfl rfl ?_
        refine sP (opp_as (v := .int _ _) rfl rfl) rfl rfl ?_
        refine awp_ret ?_
        repeat (first | refine athen_ret ?_ | refine ain_ret ?_)
        first
          | refine apost_ret (aend (l := [.sl _ _ _ _, .int _ _]) (.tmp (.tmp .nil)) (fun h => by cases h) (.cons (.noN rfl rfl) (.cons (.noN rfl rfl) .nil)) ⟨Wk.v ?_, rfl, rfl⟩)
          | refine apost_ret (aends (l := [.sl _ _ _ _, .int _ _]) (.tmp (.tmp .nil)) (fun h => by cases h) (.cons shut (fun h => by cases h) (.cons shut (fun h => by cases h) .nil)) rfl ⟨Wk.v ?_, rfl, rfl⟩)
          | refine apost_ret (aend (l := [.osl _ _ _ _ _, .int _ _]) (.tmp (.tmp .nil)) (fun h => by cases h) (.cons (.noN rfl rfl) (.cons (.noN rfl rfl) .nil)) ⟨Wk.v ?_, rfl, rfl⟩)
          | refine apost_ret (aends (l := [.osl _ _ _ _ _, .int _ _]) (.tmp (.tmp .nil)) (fun h => by cases h) (.cons shut (fun h => by cases h) (.cons shut (fun h => by cases h) .nil)) rfl ⟨Wk.v ?_, rfl, rfl⟩)
        have hi2 : i = (Sp.cutS s).1.length := by omega
        subst hi2
        have hne : Sp.dueTo s (Sp.cutS s).1.length ≠ [] := fun h => by have := hi1.2.2 h; cases this
        rw [show Sp.due s = (Sp.dueTo s (Sp.cutS s).1.length, 0) by simp [Sp.due, show Sp.goodSend s = true by simpa using ht10]]
        simp only [decide_eq_false hne]; (repeat' (first | exact Wk.refl | exact Wk.sl0 | apply Wk.tup | apply Wk.agg | apply WkL.cons | exact WkL.nil | refine Wk.sl (fun _ _ => ?_)))
    · dsimp only [cond] at hi1 ⊢
      refine awp_seq ?_
      refine awp_seq ?_
      refine awp_region rfl ?_
      refine sP (opp_mv (v := .int _ _) rfl rfl) rfl rfl ?_
      first
        | refine sP (opp_mv (v := .sl _ _ _ _) rfl rfl) rfl rfl ?_
        | refine sP (opp_mv (v := .osl _ _ _ _ _) rfl rfl) rfl rfl ?_
      first
        | refine sP (opp_lenSl rfl rfl un48) rfl rfl ?_
        | refine sP (opp_lenOsl rfl rfl un48) rfl rfl ?_
      refine sP (opp_cmp rfl rfl rfl rfl) rfl rfl ?_
      refine awp_cond _ rfl (fun hc17 => ?_) (fun hc17 => ?_)
      · (try simp only [cmpI, errD_nil, Bool.not_eq_true', Bool.not_eq_false', decide_eq_true_eq, decide_eq_false_iff_not] at hc17); have ht19 := hc17
        refine awp_skip ?_
        refine awp_seq ?_
        refine awp_block ?_
        refine awp_seq ?_
        refine awp_region rfl ?_
        first
          | refine sP (opp_fieldP rfl rfl fld73_4 rfl) rfl rfl ?_
          | refine sP (opp_fieldF rfl rfl rfl fld73_4 rfl rfl) rfl rfl ?_
        first
          | refine sP (opp_loadP rfl rfl rfl rfl bi rfl ty43) rfl rfl ?_
          | refine sP (opp_loadF rfl rfl ty43) rfl rfl ?_
        refine sP (opp_mv (v := .int _ _) rfl rfl) rfl rfl ?_
        first
          | refine sP (opp_indexSl rfl rfl rfl el43 (by omega) (by omega)) rfl rfl ?_
          | refine sP (opp_indexOsl0 rfl rfl rfl el43 (by omega) (by omega)) rfl rfl ?_
          | refine sP (opp_indexOsl rfl rfl rfl el43 (by omega) (by omega)) rfl rfl ?_
        first
          | refine sP (opp_loadP rfl rfl rfl rfl bi rfl ty4) rfl rfl ?_
          | refine sP (opp_loadF rfl rfl ty4) rfl rfl ?_
        refine sP (opp_not rfl rfl) rfl rfl ?_
        refine awp_cond _ rfl (fun hc19 => ?_) (fun hc19 => ?_)
        · (try simp only [cmpI, errD_nil, Bool.not_eq_true', Bool.not_eq_false', decide_eq_true_eq, decide_eq_false_iff_not] at hc19); have ht27 := hc19
          have hdl := Sp.dueTo_len s i
          refine awp_region rfl ?_
          first
            | refine sP (opp_mv (v := .sl _ _ _ _) rfl rfl) rfl rfl ?_
            | refine sP (opp_mv (v := .osl _ _ _ _ _) rfl rfl) rfl rfl ?_
          first
            | refine sP (opp_mv (v := .sl _ _ _ _) rfl rfl) rfl rfl ?_
            | refine sP (opp_mv (v := .osl _ _ _ _ _) rfl rfl) rfl rfl ?_
          refine sP (opp_mv (v := .int _ _) rfl rfl) rfl rfl ?_
          first
            | refine sP (opp_indexSl rfl rfl rfl el48 (by omega) (by omega)) rfl rfl ?_
            | refine sP (opp_indexOsl0 rfl rfl rfl el48 (by omega) (by omega)) rfl rfl ?_
            | refine sP (opp_indexOsl rfl rfl rfl el48 (by omega) (by omega)) rfl rfl ?_
          first
            | refine sP (opp_loadP rfl rfl rfl rfl bi rfl ty26) rfl rfl ?_
            | refine sP (opp_loadF rfl rfl ty26) rfl rfl ?_
          refine sR (opr_buildSlice (n := 33) (g := fun j => if j = 0 then .agg _ else .agg [.int .i64 0, .int .i64 0, .agg [.int .i64 0, .int .i64 0, .int .i64 0], .int .i64 0, .int .i64 0, .int .i64 0, .int .u32 0, .str []]) rfl eb48 z26 (by decide) rfl rfl) rfl rfl rfl ?_
          first
            | refine sR (opr_append (d := 34) rfl rfl rfl (by omega) (.osl0 rfl (by omega)) eb48 z26 (by omega) (by omega)) rfl rfl rfl ?_
            | refine sR (opr_append (d := 34) rfl rfl rfl (by omega) .sl eb48 z26 (by omega) (by omega)) rfl rfl rfl ?_
            | refine sR (opr_append (d := 34) rfl rfl rfl (by omega) (.osl rfl (by omega) (fun _ _ => rfl)) eb48 z26 (by omega) (by omega)) rfl rfl rfl ?_
            | refine sR (opr_appendNil (d := 34) rfl rfl (.osl0 rfl (by omega)) eb48 z26 (by omega) (by omega) (by omega)) rfl rfl rfl ?_
            | refine sR (opr_appendNil (d := 34) rfl rfl .sl eb48 z26 (by omega) (by omega) (by omega)) rfl rfl rfl ?_
            | refine sR (opr_appendNil (d := 34) rfl rfl (.osl rfl (by omega) (fun _ _ => rfl)) eb48 z26 (by omega) (by omega) (by omega)) rfl rfl rfl ?_
          first
            | refine sP (opp_as (v := .sl _ _ _ _) rfl rfl) rfl rfl ?_
            | refine sP (opp_as (v := .osl _ _ _ _ _) rfl rfl) rfl rfl ?_
          refine awp_region rfl ?_
          refine sP (opp_mv (v := .int _ _) rfl rfl) rfl rfl ?_
          first
            | refine sP (opp_arith rfl rfl rfl (.inl ⟨rfl, w64 (by omega)⟩)) rfl rfl ?_
            | refine sP (opp_arith rfl rfl rfl (.inl ⟨rfl, rfl⟩)) rfl rfl ?_
          refine sP (opp_as (v := .int _ _) rfl rfl) rfl rfl ?_
          have hs1 : Sp.dueTo s (i + 1) = Sp.dueTo s i ++ [(Sp.cutS s).1.getD i Sp.zero] := by rw [Sp.dueTo_succ, if_pos (by simpa using ht27)]
          have hs0 : Sp.dueTo s i = [] := hi1.2.1 rfl
          refine Exists.intro ((i + 1, false)) (And.intro (And.intro (And.intro (by show i + 1 ≤ (Sp.cutS s).1.length; omega) (by rw [hs1]; simp)) (by omega)) (by
            refine imp_over [(1006, 34)] rfl rfl (by kernel_rfl) ?_ ?_
            · refine And.intro (by exact Or.inr (And.intro rfl (WkV.of (by show AV.osl 34 10 0 _ _ = AV.osl 34 10 0 _ _; rw [hs1, hs0]; simp)))) ?_
              refine And.intro wkv ?_
              refine And.intro wkv ?_
              refine And.intro wkv ?_
              refine And.intro wkv ?_
              refine And.intro wkv ?_
              refine And.intro wkv ?_
              refine And.intro wkv ?_
              refine And.intro wkv ?_
              refine And.intro wkv ?_
              refine And.intro wkv ?_
              refine And.intro wkv ?_
              refine And.intro wkv ?_
              refine And.intro wkv ?_
              refine And.intro wkv ?_
              refine And.intro wkv ?_
              refine And.intro wkv ?_
              refine And.intro wkv ?_
              refine And.intro wkv ?_
              refine And.intro wkv ?_
              refine And.intro wkv ?_
              exact True.intro
            · refine And.intro (And.intro rfl (And.intro rfl (Exists.intro _ (And.intro rfl (by show WkC (AV.arr 10 _ _) (AV.arr 10 _ _); rw [hs1, hs0]; exact WkC.arr (fun j hj => by have h0 : j = 0 := (by simpa using hj); subst h0; rfl)))))) ?_
              exact True.intro
            ))
        · (try simp only [cmpI, errD_nil, Bool.not_eq_true', Bool.not_eq_false', decide_eq_true_eq, decide_eq_false_iff_not] at hc19); have ht27 := hc19
          refine awp_skip ?_
          refine awp_region rfl ?_
          refine sP (opp_mv (v := .int _ _) rfl rfl) rfl rfl ?_
          first
            | refine sP (opp_arith rfl rfl rfl (.inl ⟨rfl, w64 (by omega)⟩)) rfl rfl ?_
            | refine sP (opp_arith rfl rfl rfl (.inl ⟨rfl, rfl⟩)) rfl rfl ?_
          refine sP (opp_as (v := .int _ _) rfl rfl) rfl rfl ?_
          have hs1 : Sp.dueTo s (i + 1) = Sp.dueTo s i := by rw [Sp.dueTo_succ, if_neg (by simpa using ht27)]
          refine Exists.intro ((i + 1, true)) (And.intro (And.intro (And.intro (by show i + 1 ≤ (Sp.cutS s).1.length; omega) (by rw [hs1]; exact hi1.2)) (by omega)) (by
            refine imp_over [] rfl rfl (by kernel_rfl) ?_ ?_
            · refine And.intro wkv ?_
              refine And.intro wkv ?_
              refine And.intro wkv ?_
              refine And.intro wkv ?_
              refine And.intro wkv ?_
              refine And.intro wkv ?_
              refine And.intro wkv ?_
              refine And.intro wkv ?_
              refine And.intro wkv ?_
              refine And.intro wkv ?_
              refine And.intro wkv ?_
              refine And.intro wkv ?_
              refine And.intro wkv ?_
              refine And.intro wkv ?_
              refine And.intro wkv ?_
              refine And.intro wkv ?_
              refine And.intro wkv ?_
              refine And.intro wkv ?_
              refine And.intro wkv ?_
              refine And.intro wkv ?_
              refine And.intro wkv ?_
              exact True.intro
            · exact True.intro
            ))
      · (try simp only [cmpI, errD_nil, Bool.not_eq_true', Bool.not_eq_false', decide_eq_true_eq, decide_eq_false_iff_not] at hc17); have ht19 := hc17
        refine awp_exit ?_
        refine awp_seq ?_
        refine awp_region rfl ?_
        first
          | refine sP (opp_mv (v := .sl _ _ _ _) rfl rfl) rfl rfl ?_
          | refine sP (opp_mv (v := .osl _ _ _ _ _) rfl rfl) rfl rfl ?_
        first
          | refine sP (opp_as (v := .sl _ _ _ _) rfl rfl) rfl rfl ?_
          | refine sP (opp_as (v := .osl _ _ _ _ _) rfl rfl) rfl rfl ?_
        refine sP (opp_as (v := .int _ _) rfl rfl) rfl rfl ?_
        refine awp_ret ?_
        repeat (first | refine athen_ret ?_ | refine ain_ret ?_)
        first
          | refine apost_ret (aend (l := [.sl _ _ _ _, .int _ _]) (.tmp (.tmp .nil)) (fun h => by cases h) (.cons (.noN rfl rfl) (.cons (.noN rfl rfl) .nil)) ⟨Wk.v ?_, rfl, rfl⟩)
          | refine apost_ret (aends (l := [.sl _ _ _ _, .int _ _]) (.tmp (.tmp .nil)) (fun h => by cases h) (.cons shut (fun h => by cases h) (.cons shut (fun h => by cases h) .nil)) rfl ⟨Wk.v ?_, rfl, rfl⟩)
          | refine apost_ret (aend (l := [.osl _ _ _ _ _, .int _ _]) (.tmp (.tmp .nil)) (fun h => by cases h) (.cons (.noN rfl rfl) (.cons (.noN rfl rfl) .nil)) ⟨Wk.v ?_, rfl, rfl⟩)
          | refine apost_ret (aends (l := [.osl _ _ _ _ _, .int _ _]) (.tmp (.tmp .nil)) (fun h => by cases h) (.cons shut (fun h => by cases h) (.cons shut (fun h => by cases h) .nil)) rfl ⟨Wk.v ?_, rfl, rfl⟩)
        have hi2 : i = (Sp.cutS s).1.length := by omega
        subst hi2
        have hne : Sp.dueTo s (Sp.cutS s).1.length = [] := hi1.2.1 rfl
        rw [show Sp.due s = (Sp.dueTo s (Sp.cutS s).1.length, 0) by simp [Sp.due, show Sp.goodSend s = true by simpa using ht10], hne]
        show Wk _ (.tup [.sl 10 true 0 _, .int .i64 0]); (repeat' (first | exact Wk.refl | exact Wk.sl0 | apply Wk.tup | apply Wk.agg | apply WkL.cons | exact WkL.nil | refine Wk.sl (fun _ _ => ?_)))
theorem co81 (b : Bool) (s : Send) (h0 : b = true → s.acked.length = 0) (h1 : s.acked.length ≤ 1099511627776) : AOwn (V ea cds gl) 81 [sendAV b s] false (.agg [.int .i64 s.part, xidAV s.xid, .int .i64 s.stage, .str s.image, .osl 6 1 0 s.acked.length s.acked.length, .int .i64 s.rounds]) [(6, some (.arr 1 s.acked.length (blAt s.acked)))] := by
  refine aown_of_body (N := 9) Tryd.func81 rfl rfl (Nat.le_of_ble_eq_true rfl) fun C hV hN hM hO => ?_
  obtain ⟨_, _, w0, G0, σ0, _, own0⟩ := C; dsimp only at hV hN hM hO; subst hV; subst hN; subst hM
  refine awp_seq ?_
  refine awp_region rfl ?_
  refine sR (opr_box (y := .agg _) (n := 1) rfl rfl rfl) rfl rfl rfl ?_
  refine sR (opr_alloc (n := 2) rfl z73) rfl rfl rfl ?_
  refine awp_seq ?_
  refine awp_region rfl ?_
  refine sR (opr_buildSlice (n := 3) (g := fun _ => .bool false) rfl eb43 z4 (by decide) rfl rfl) rfl rfl rfl ?_
  first
    | refine sP (opp_fieldP rfl rfl fld73_4 rfl) rfl rfl ?_
    | refine sP (opp_fieldF rfl rfl rfl fld73_4 rfl rfl) rfl rfl ?_
  first
    | refine sP (opp_loadP rfl rfl rfl rfl bi rfl ty43) rfl rfl ?_
    | refine sP (opp_loadF rfl rfl ty43) rfl rfl ?_
  first
    | refine sR (opr_append (d := 6) rfl rfl rfl (by omega) (.osl0 rfl (by omega)) eb43 z4 (by omega) (by omega)) rfl rfl rfl ?_
    | refine sR (opr_append (d := 6) rfl rfl rfl (by omega) .sl eb43 z4 (by omega) (by omega)) rfl rfl rfl ?_
    | refine sR (opr_append (d := 6) rfl rfl rfl (by omega) (.osl rfl (by omega) (fun _ _ => rfl)) eb43 z4 (by omega) (by omega)) rfl rfl rfl ?_
    | refine sR (opr_appendNil (d := 6) rfl rfl (.osl0 rfl (by omega)) eb43 z4 (by omega) (by omega) (by omega)) rfl rfl rfl ?_
    | refine sR (opr_appendNil (d := 6) rfl rfl .sl eb43 z4 (by omega) (by omega) (by omega)) rfl rfl rfl ?_
    | refine sR (opr_appendNil (d := 6) rfl rfl (.osl rfl (by omega) (fun _ _ => rfl)) eb43 z4 (by omega) (by omega) (by omega)) rfl rfl rfl ?_
  first
    | refine sP (opp_fieldP rfl rfl fld73_4 rfl) rfl rfl ?_
    | refine sP (opp_fieldF rfl rfl rfl fld73_4 rfl rfl) rfl rfl ?_
  first
    | refine sR0 (opr_store (v := .sl _ _ _ _) (trn := (.agg [_, _, _, _, .sl _ _ _ _, _])) rfl rfl rfl rfl bi rfl rfl rfl rfl fr2 ty43 (fun _ _ h => h)) rfl rfl rfl ?_
    | refine sR0 (opr_store (v := .osl _ _ _ _ _) (trn := (.agg [_, _, _, _, .osl _ _ _ _ _, _])) rfl rfl rfl rfl bi rfl rfl rfl rfl fr2 ty43 (fun _ _ h => h)) rfl rfl rfl ?_
  refine awp_seq ?_
  refine awp_region rfl ?_
  first
    | refine sP (opp_loadP rfl rfl rfl rfl bi rfl ty73) rfl rfl ?_
    | refine sP (opp_loadF rfl rfl ty73) rfl rfl ?_
  refine sR0 (opr_store (v := .agg _) (trn := (.agg _)) rfl rfl rfl rfl bi rfl rfl rfl rfl fr2 ty73 (fun _ _ h => h)) rfl rfl rfl ?_
  refine awp_ret ?_
  repeat (first | refine athen_ret ?_ | refine ain_ret ?_)
  refine opost_ret (oend1 (r0 := .agg _) (.cell rfl rfl rfl (by exact True.intro) rfl ty73 .nil) shut rfl ?_ (And.intro (Exists.intro _ (Exists.intro _ (And.intro rfl (And.intro shut (And.intro (fun h => by cases h) (And.intro ?_ rfl)))))) True.intro))
  · simp only [Nat.zero_add]; exact .refl
  · simp only [Nat.zero_add]; exact .arr (fun j hj => by simp)
theorem c54 (b : Bool) (s : Send) (h0 : s.image.length ≤ 281474976710656) :
    APure (V ea cds gl) 54 [sendAV b s] false (.tup [.bool (Sp.arrived s).1, .int .i64 ((Sp.arrived s).2 : Nat)]) := by
  refine acalls_of_body (N := 19) Tryd.func54 rfl rfl (Nat.le_of_ble_eq_true rfl) fun C hV hN hM hO => ?_
  obtain ⟨_, _, w0, G0, σ0, _, own0⟩ := C; dsimp only at hV hN hM hO; subst hV; subst hN; subst hM
  refine awp_seq ?_
  refine awp_region rfl ?_
  refine sR (opr_box (y := .agg _) (n := 1) rfl rfl rfl) rfl rfl rfl ?_
  refine sP (opp_as (v := .bool _) rfl rfl) rfl rfl ?_
  refine sP (opp_as (v := .int _ _) rfl rfl) rfl rfl ?_
  refine awp_seq ?_
  refine awp_region rfl ?_
  first
    | refine sP (opp_loadP rfl rfl rfl rfl bi rfl ty73) rfl rfl ?_
    | refine sP (opp_loadF rfl rfl ty73) rfl rfl ?_
  refine sR (opr_call rfl rfl ent53 rfl (c53 b s h0) (AViews.refl _ rfl)) rfl rfl rfl ?_ -- d=8 t=114
  refine sP (opp_mv (v := .tup _) rfl rfl) rfl rfl ?_
  refine sP (opp_extract rfl rfl rfl) rfl rfl ?_
  refine sP (opp_extract rfl rfl rfl) rfl rfl ?_
  first
    | refine sP (opp_as (v := .sl _ _ _ _) rfl rfl) rfl rfl ?_
    | refine sP (opp_as (v := .osl _ _ _ _ _) rfl rfl) rfl rfl ?_
  refine sP (opp_as (v := .int _ _) rfl rfl) rfl rfl ?_
  refine awp_seq ?_
  refine awp_region rfl ?_
  refine sP (opp_mv (v := .int _ _) rfl rfl) rfl rfl ?_
  refine sP (opp_cmp rfl rfl rfl rfl) rfl rfl ?_
  refine sP (opp_mv (v := .bool _) rfl rfl) rfl rfl ?_
  first
    | refine sG _ rfl rfl rfl rfl (fun hg => (And.intro gi (True.intro))) (fun hg => opp_mv (v := .sl _ _ _ _) rfl rfl) ?_
    | refine sG _ rfl rfl rfl rfl (fun hg => (And.intro gi (True.intro))) (fun hg => opp_mv (v := .osl _ _ _ _ _) rfl rfl) ?_
  first
    | refine sG _ rfl rfl rfl rfl (fun hg => (And.intro gi (True.intro))) (fun hg => opp_lenSl rfl rfl un48) ?_
    | refine sG _ rfl rfl rfl rfl (fun hg => (And.intro gi (True.intro))) (fun hg => opp_lenOsl rfl rfl un48) ?_
  refine sG _ rfl rfl rfl rfl (fun hg => (And.intro gi (And.intro gi (True.intro)))) (fun hg => opp_cmp rfl rfl rfl rfl) ?_
  refine sPick rfl rfl rfl rfl (by exact True.intro) rfl rfl (fun hg => gi) (fun hg => gi) ?_
  refine sP (opp_mv (v := .int _ _) rfl rfl) rfl rfl ?_
  refine sP (opp_as (v := .bool _) rfl rfl) rfl rfl ?_
  refine sP (opp_as (v := .int _ _) rfl rfl) rfl rfl ?_
  refine awp_ret ?_
  repeat (first | refine athen_ret ?_ | refine ain_ret ?_)
  first
    | refine apost_ret (aend (l := [.bool _, .int _ _]) (.tmp (.tmp .nil)) (fun h => by cases h) (.cons (.noN rfl rfl) (.cons (.noN rfl rfl) .nil)) ⟨Wk.v ?_, rfl, rfl⟩)
    | refine apost_ret (aends (l := [.bool _, .int _ _]) (.tmp (.tmp .nil)) (fun h => by cases h) (.cons shut (fun h => by cases h) (.cons shut (fun h => by cases h) .nil)) rfl ⟨Wk.v ?_, rfl, rfl⟩)
  rw [(arrived_due s).1, (arrived_due s).2]; refine .of ?_; simp [cmpI]
theorem c57 (b1 b2 : Bool) (l m : List Note) (h0 : l.length ≤ 4611686018427387904) : APure (V ea cds gl) 57 [.sl 10 b1 l.length (noAt l), .sl 10 b2 m.length (noAt m)] false (.bool (decide (l = m))) := by
  refine acalls_of_body (N := 26) Tryd.func57 rfl rfl (Nat.le_of_ble_eq_true rfl) fun C hV hN hM hO => ?_
  obtain ⟨_, _, w0, G0, σ0, _, own0⟩ := C; dsimp only at hV hN hM hO; subst hV; subst hN; subst hM
  refine awp_seq ?_
  refine awp_region rfl ?_
  refine sP (opp_as (v := .bool _) rfl rfl) rfl rfl ?_
  refine awp_seq ?_
  refine awp_seq ?_
  refine awp_region rfl ?_
  first
    | refine sP (opp_mv (v := .sl _ _ _ _) rfl rfl) rfl rfl ?_
    | refine sP (opp_mv (v := .osl _ _ _ _ _) rfl rfl) rfl rfl ?_
  first
    | refine sP (opp_lenSl rfl rfl un48) rfl rfl ?_
    | refine sP (opp_lenOsl rfl rfl un48) rfl rfl ?_
  first
    | refine sP (opp_mv (v := .sl _ _ _ _) rfl rfl) rfl rfl ?_
    | refine sP (opp_mv (v := .osl _ _ _ _ _) rfl rfl) rfl rfl ?_
  first
    | refine sP (opp_lenSl rfl rfl un48) rfl rfl ?_
    | refine sP (opp_lenOsl rfl rfl un48) rfl rfl ?_
  refine sP (opp_cmp rfl rfl rfl rfl) rfl rfl ?_
  refine awp_cond _ rfl (fun hc3 => ?_) (fun hc3 => ?_)
  · (try simp only [cmpI, errD_nil, Bool.not_eq_true', Bool.not_eq_false', decide_eq_true_eq, decide_eq_false_iff_not] at hc3); have ht10 := hc3
    refine awp_seq ?_
    refine awp_region rfl ?_
    refine sP (opp_as (v := .bool _) rfl rfl) rfl rfl ?_
    refine awp_ret ?_
    repeat (first | refine athen_ret ?_ | refine ain_ret ?_)
    first
      | refine apost_ret (aend1 (r0 := .bool _) (.tmp .nil) (.noN rfl rfl) ⟨Wk.v ?_, rfl, rfl⟩)
      | refine apost_ret (aend1s (r0 := .bool _) (.tmp .nil) shut rfl ⟨Wk.v ?_, rfl, rfl⟩)
    have hq : ¬ l = m := by intro e; subst e; simp [cmpI] at ht10
    exact .of (by simp [hq])
  · (try simp only [cmpI, errD_nil, Bool.not_eq_true', Bool.not_eq_false', decide_eq_true_eq, decide_eq_false_iff_not] at hc3); have ht10 := hc3
    refine awp_skip ?_
    refine awp_seq ?_
    refine awp_seq ?_
    have hql : l.length = m.length := by simpa [cmpI, Int.natCast_inj] using ht10
    refine awp_region rfl ?_
    refine sP (opp_as (v := .int _ _) rfl rfl) rfl rfl ?_
    refine awp_block ?_
    refine awp_loopK (ι := Nat) (fun i => i ≤ l.length ∧ ∀ j, j < i → l.getD j Sp.zero = m.getD j Sp.zero) (fun i => [(4, .top), (5, .int .i64 i), (11, .top), (12, .top), (13, .top), (14, .top), (15, .top), (16, .top), (17, .top), (18, .top), (19, .top), (20, .top), (21, .top), (22, .top), (23, .top), (24, .top), (25, .top)]) (fun i => []) [] (fun i => l.length - i) (0) (⟨Nat.zero_le _, fun j hj => absurd hj (Nat.not_lt_zero _)⟩) (by
      refine imp_over [] rfl rfl (by kernel_rfl) ?_ ?_
      · refine And.intro wkv ?_
        refine And.intro wkv ?_
        refine And.intro wkv ?_
        refine And.intro wkv ?_
        refine And.intro wkv ?_
        refine And.intro wkv ?_
        refine And.intro wkv ?_
        refine And.intro wkv ?_
        refine And.intro wkv ?_
        refine And.intro wkv ?_
        refine And.intro wkv ?_
        refine And.intro wkv ?_
        refine And.intro wkv ?_
        refine And.intro wkv ?_
        refine And.intro wkv ?_
        refine And.intro wkv ?_
        refine And.intro wkv ?_
        exact True.intro
      · exact True.intro
      ) ?_
    intro i hi1
    refine awp_seq ?_
    refine awp_seq ?_
    refine awp_region rfl ?_
    refine sP (opp_mv (v := .int _ _) rfl rfl) rfl rfl ?_
    first
      | refine sP (opp_mv (v := .sl _ _ _ _) rfl rfl) rfl rfl ?_
      | refine sP (opp_mv (v := .osl _ _ _ _ _) rfl rfl) rfl rfl ?_
    first
      | refine sP (opp_lenSl rfl rfl un48) rfl rfl ?_
      | refine sP (opp_lenOsl rfl rfl un48) rfl rfl ?_
    refine sP (opp_cmp rfl rfl rfl rfl) rfl rfl ?_
    refine awp_cond _ rfl (fun hc7 => ?_) (fun hc7 => ?_)
    · (try simp only [cmpI, errD_nil, Bool.not_eq_true', Bool.not_eq_false', decide_eq_true_eq, decide_eq_false_iff_not] at hc7); have ht14 := hc7
      refine awp_skip ?_
      refine awp_seq ?_
      refine awp_block ?_
      refine awp_seq ?_
      refine awp_draw hmix rfl (by kernel_rfl) ?_
      first
        | refine dP (fun _ => false) (opp_mv (v := .sl _ _ _ _) rfl rfl) rfl rfl ?_
        | refine dP (fun _ => false) (opp_mv (v := .osl _ _ _ _ _) rfl rfl) rfl rfl ?_
      refine dP (fun _ => false) (opp_mv (v := .int _ _) rfl rfl) rfl rfl ?_
      first
        | refine dP (fun _ => false) (opp_indexSl rfl rfl rfl el48 (by omega) (by omega)) rfl rfl ?_
        | refine dP (fun _ => false) (opp_indexOsl0 rfl rfl rfl el48 (by omega) (by omega)) rfl rfl ?_
        | refine dP (fun _ => false) (opp_indexOsl rfl rfl rfl el48 (by omega) (by omega)) rfl rfl ?_
      first
        | refine dP (fun n => !([] : List Nat).contains n) (opp_loadP rfl rfl rfl rfl bi rfl ty26) rfl rfl ?_
        | refine dP (fun n => !([] : List Nat).contains n) (opp_loadF rfl rfl ty26) rfl rfl ?_
      first
        | refine dP (fun _ => false) (opp_mv (v := .sl _ _ _ _) rfl rfl) rfl rfl ?_
        | refine dP (fun _ => false) (opp_mv (v := .osl _ _ _ _ _) rfl rfl) rfl rfl ?_
      refine dP (fun _ => false) (opp_mv (v := .int _ _) rfl rfl) rfl rfl ?_
      first
        | refine dP (fun _ => false) (opp_indexSl rfl rfl rfl el48 (by omega) (by omega)) rfl rfl ?_
        | refine dP (fun _ => false) (opp_indexOsl0 rfl rfl rfl el48 (by omega) (by omega)) rfl rfl ?_
        | refine dP (fun _ => false) (opp_indexOsl rfl rfl rfl el48 (by omega) (by omega)) rfl rfl ?_
      first
        | refine dP (fun n => !([] : List Nat).contains n) (opp_loadP rfl rfl rfl rfl bi rfl ty26) rfl rfl ?_
        | refine dP (fun n => !([] : List Nat).contains n) (opp_loadF rfl rfl ty26) rfl rfl ?_
      refine dP (fun _ => false) (opp_eqAgg rfl rfl rfl (eq26 ..) eg26 rfl (.inr ⟨rfl, rfl⟩)) rfl rfl ?_
      refine And.intro (by kernel_rfl) ?_
      refine awp_cond _ rfl (fun hc9 => ?_) (fun hc9 => ?_)
      · (try simp only [cmpI, errD_nil, Bool.not_eq_true', Bool.not_eq_false', decide_eq_true_eq, decide_eq_false_iff_not] at hc9); have ht25 := hc9
        refine awp_seq ?_
        refine awp_region rfl ?_
        refine sP (opp_as (v := .bool _) rfl rfl) rfl rfl ?_
        refine awp_ret ?_
        repeat (first | refine athen_ret ?_ | refine ain_ret ?_)
        first
          | refine apost_ret (aend1 (r0 := .bool _) (.tmp .nil) (.noN rfl rfl) ⟨Wk.v ?_, rfl, rfl⟩)
          | refine apost_ret (aend1s (r0 := .bool _) (.tmp .nil) shut rfl ⟨Wk.v ?_, rfl, rfl⟩)
        have hq : ¬ l = m := by intro e; subst e; simp at ht25
        exact .of (by simp [hq])
      · (try simp only [cmpI, errD_nil, Bool.not_eq_true', Bool.not_eq_false', decide_eq_true_eq, decide_eq_false_iff_not] at hc9); have ht25 := hc9
        refine awp_skip ?_
        have he : l.getD i Sp.zero = m.getD i Sp.zero := by
          rw [show Int.toNat (i : Int) = i from rfl] at ht25
          revert ht25; generalize l.getD i Sp.zero = x; generalize m.getD i Sp.zero = y
          intro h; obtain ⟨a1, a2, ⟨a3, a4, a5⟩, a6, a7, a8, a9, a10⟩ := x; obtain ⟨b1, b2, ⟨b3, b4, b5⟩, b6, b7, b8, b9, b10⟩ := y
          simp at h; obtain ⟨h1, h2, ⟨h3, h4, h5⟩, h6, h7, h8, h9, h10⟩ := h; subst h1; subst h2; subst h3; subst h4; subst h5; subst h6; subst h7; subst h8; subst h9; subst h10; rfl
        refine awp_region rfl ?_
        refine sP (opp_mv (v := .int _ _) rfl rfl) rfl rfl ?_
        first
          | refine sP (opp_arith rfl rfl rfl (.inl ⟨rfl, w64 (by omega)⟩)) rfl rfl ?_
          | refine sP (opp_arith rfl rfl rfl (.inl ⟨rfl, rfl⟩)) rfl rfl ?_
        refine sP (opp_as (v := .int _ _) rfl rfl) rfl rfl ?_
        refine Exists.intro (i + 1) (And.intro (And.intro (⟨by show i + 1 ≤ l.length; omega, fun j hj => by by_cases e : j = i; (subst e; exact he); exact hi1.2 j (by omega)⟩) (by omega)) (by
          refine imp_over [] rfl rfl (by kernel_rfl) ?_ ?_
          · refine And.intro wkv ?_
            refine And.intro wkv ?_
            refine And.intro wkv ?_
            refine And.intro wkv ?_
            refine And.intro wkv ?_
            refine And.intro wkv ?_
            refine And.intro wkv ?_
            refine And.intro wkv ?_
            refine And.intro wkv ?_
            refine And.intro wkv ?_
            refine And.intro wkv ?_
            refine And.intro wkv ?_
            refine And.intro wkv ?_
            refine And.intro wkv ?_
            refine And.intro wkv ?_
            refine And.intro wkv ?_
            refine And.intro wkv ?_
            exact True.intro
          · exact True.intro
          ))
    · (try simp only [cmpI, errD_nil, Bool.not_eq_true', Bool.not_eq_false', decide_eq_true_eq, decide_eq_false_iff_not] at hc7); have ht14 := hc7
      refine awp_exit ?_
      refine awp_seq ?_
      refine awp_region rfl ?_
      refine sP (opp_as (v := .bool _) rfl rfl) rfl rfl ?_
      refine awp_ret ?_
      repeat (first | refine athen_ret ?_ | refine ain_ret ?_)
      first
        | refine apost_ret (aend1 (r0 := .bool _) (.tmp .nil) (.noN rfl rfl) ⟨Wk.v ?_, rfl, rfl⟩)
        | refine apost_ret (aend1s (r0 := .bool _) (.tmp .nil) shut rfl ⟨Wk.v ?_, rfl, rfl⟩)
      have hq : l = m := notes_ext hql (fun j hj => hi1.2 j (by omega))
      exact .of (by simp [hq])
end
end Go.Proofs.YtgaihhimkodmmaaDoor
namespace Go.Proofs.YtgaihhimkodmmaaDoor
attribute [local irreducible] Tryd.prog
open Go.Fy
set_option linter.unusedSimpArgs false
set_option linter.unusedVariables false
theorem check_code (n : Note) : Sp.check n ≤ 7 := by rw [check_ranges]; split; omega; split <;> omega
theorem due_code (s : Send) : (Sp.due s).2 ≤ 9 := by unfold Sp.due; split <;> simp
theorem round_code (s : Send) (t : Int) : (Sp.round s t).2.2.2 ≤ 9 := by have := due_code s; unfold Sp.round; split; exact this; split <;> simp
theorem ack_code (s : Send) (n : Note) : (Sp.ack s n).2.2 ≤ 10 := by
  have := check_code n
  unfold Sp.ack; split; simp; split; simp; omega; split; simp; split <;> simp
theorem due_len (s : Send) : (Sp.due s).1.length ≤ 32 := by
  have h1 := (Sp.cut_len s.part s.xid s.stage s.image).1
  unfold Sp.due; split
  · simp
  · have := Sp.dueTo_len s (Sp.cutS s).1.length
    simp only [Sp.cutS] at *; omega
theorem round_len (s : Send) (t : Int) : (Sp.round s t).2.1.length ≤ 32 ∧ (Sp.round s t).1.acked.length ≤ s.acked.length := by
  have := due_len s
  unfold Sp.round; split; simp [Sp.zeroSend]; split; simp; simpa using this
theorem ack_len (s : Send) (n : Note) : (Sp.ack s n).1.acked.length ≤ s.acked.length := by
  unfold Sp.ack; split; simp [Sp.zeroSend]; split; simp [Sp.zeroSend]; split; simp [Sp.zeroSend]; split <;> simp [Sp.zeroSend]
section
variable {ea : Nat → Addr} {cds : List Nat} {gl : Nat → Option AV}
theorem c31 (b : Bool) (s : Send) (t : Int) (h0 : s.image.length ≤ 281474976710656) (hb : b = true → s.acked.length = 0) (ht : t ≤ 9223372036854775807) :
    APure (V ea cds gl) 31 [sendAV b s, .int .i64 t] false (.tup [sendAV (decide ((Sp.round s t).2.2.2 ≠ 0)) (Sp.round s t).1, .sl 10 (decide ((Sp.round s t).2.1 = [])) (Sp.round s t).2.1.length (noAt (Sp.round s t).2.1), .bool (Sp.round s t).2.2.1, .int .i64 ((Sp.round s t).2.2.2 : Nat)]) := by
  refine acalls_of_body (N := 34) Tryd.func31 rfl rfl (Nat.le_of_ble_eq_true rfl) fun C hV hN hM hO => ?_
  obtain ⟨_, _, w0, G0, σ0, _, own0⟩ := C; dsimp only at hV hN hM hO; subst hV; subst hN; subst hM
  refine awp_seq ?_
  refine awp_region rfl ?_
  refine sR (opr_box (y := .agg _) (n := 2) rfl rfl rfl) rfl rfl rfl ?_
  refine sR (opr_alloc (n := 4) rfl z73) rfl rfl rfl ?_
  first
    | refine sP (opp_as (v := .sl _ _ _ _) rfl rfl) rfl rfl ?_
    | refine sP (opp_as (v := .osl _ _ _ _ _) rfl rfl) rfl rfl ?_
  refine sP (opp_as (v := .bool _) rfl rfl) rfl rfl ?_
  refine sP (opp_as (v := .int _ _) rfl rfl) rfl rfl ?_
  refine awp_seq ?_
  refine awp_region rfl ?_
  first
    | refine sP (opp_loadP rfl rfl rfl rfl bi rfl ty73) rfl rfl ?_
    | refine sP (opp_loadF rfl rfl ty73) rfl rfl ?_
  refine sR (opr_call rfl rfl ent53 rfl (c53 b s h0) (AViews.refl _ rfl)) rfl rfl rfl ?_ -- d=12 t=114
  refine sP (opp_mv (v := .tup _) rfl rfl) rfl rfl ?_
  refine sP (opp_extract rfl rfl rfl) rfl rfl ?_
  refine sP (opp_extract rfl rfl rfl) rfl rfl ?_
  first
    | refine sP (opp_as (v := .sl _ _ _ _) rfl rfl) rfl rfl ?_
    | refine sP (opp_as (v := .osl _ _ _ _ _) rfl rfl) rfl rfl ?_
  refine sP (opp_as (v := .int _ _) rfl rfl) rfl rfl ?_
  refine awp_seq ?_
  refine awp_seq ?_
  refine awp_region rfl ?_
  refine sP (opp_mv (v := .int _ _) rfl rfl) rfl rfl ?_
  refine sP (opp_cmp rfl rfl rfl rfl) rfl rfl ?_
  refine awp_cond _ rfl (fun hc4 => ?_) (fun hc4 => ?_)
  · (try simp only [cmpI, errD_nil, Bool.not_eq_true', Bool.not_eq_false', decide_eq_true_eq, decide_eq_false_iff_not] at hc4); have ht16 := hc4
    refine awp_seq ?_
    refine awp_region rfl ?_
    refine sP (opp_build rfl z73 bld73 rfl [.int .i64 0, .agg [.int .i64 0, .int .i64 0, .int .i64 0], .int .i64 0, .str [], .sl 1 true 0 (fun _ => .top), .int .i64 0] rfl) rfl rfl ?_
    refine sP (opp_mv (v := .int _ _) rfl rfl) rfl rfl ?_
    refine sR0 (opr_store (v := .agg _) (trn := (.agg _)) rfl rfl rfl rfl bi rfl rfl rfl rfl fr2 ty73 (fun _ _ h => h)) rfl rfl rfl ?_
    first
      | refine sP (opp_as (v := .sl _ _ _ _) rfl rfl) rfl rfl ?_
      | refine sP (opp_as (v := .osl _ _ _ _ _) rfl rfl) rfl rfl ?_
    refine sP (opp_as (v := .bool _) rfl rfl) rfl rfl ?_
    refine sP (opp_as (v := .int _ _) rfl rfl) rfl rfl ?_
    refine awp_ret ?_
    repeat (first | refine athen_ret ?_ | refine ain_ret ?_)
    first
      | refine apost_ret (aend (l := [.agg _, .sl _ _ _ _, .bool _, .int _ _]) (.cell rfl rfl rfl (by exact True.intro) rfl ty73 (.tmp (.tmp (.tmp .nil)))) (fun h => by cases h) (.cons (.noN rfl rfl) (.cons (.noN rfl rfl) (.cons (.noN rfl rfl) (.cons (.noN rfl rfl) .nil)))) ⟨Wk.v ?_, rfl, rfl⟩)
      | refine apost_ret (aends (l := [.agg _, .sl _ _ _ _, .bool _, .int _ _]) (.cell rfl rfl rfl (by exact True.intro) rfl ty73 (.tmp (.tmp (.tmp .nil)))) (fun h => by cases h) (.cons shut (fun h => by cases h) (.cons shut (fun h => by cases h) (.cons shut (fun h => by cases h) (.cons shut (fun h => by cases h) .nil)))) rfl ⟨Wk.v ?_, rfl, rfl⟩)
      | refine apost_ret (aend (l := [.agg _, .osl _ _ _ _ _, .bool _, .int _ _]) (.cell rfl rfl rfl (by exact True.intro) rfl ty73 (.tmp (.tmp (.tmp .nil)))) (fun h => by cases h) (.cons (.noN rfl rfl) (.cons (.noN rfl rfl) (.cons (.noN rfl rfl) (.cons (.noN rfl rfl) .nil)))) ⟨Wk.v ?_, rfl, rfl⟩)
      | refine apost_ret (aends (l := [.agg _, .osl _ _ _ _ _, .bool _, .int _ _]) (.cell rfl rfl rfl (by exact True.intro) rfl ty73 (.tmp (.tmp (.tmp .nil)))) (fun h => by cases h) (.cons shut (fun h => by cases h) (.cons shut (fun h => by cases h) (.cons shut (fun h => by cases h) (.cons shut (fun h => by cases h) .nil)))) rfl ⟨Wk.v ?_, rfl, rfl⟩)
    have hd : ¬ (Sp.due s).2 = 0 := by simpa using hc4
    rw [show Sp.round s t = (Sp.zeroSend, [], false, (Sp.due s).2) from if_pos hd]; simp only [hd, ne_eq, not_false_eq_true, decide_true, sendAV, Sp.zeroSend, xidAV, List.length_nil]; (repeat' (first | exact Wk.refl | exact Wk.sl0 | apply Wk.tup | apply Wk.agg | apply WkL.cons | exact WkL.nil | refine Wk.sl (fun _ _ => ?_)))
  · (try simp only [cmpI, errD_nil, Bool.not_eq_true', Bool.not_eq_false', decide_eq_true_eq, decide_eq_false_iff_not] at hc4); have ht16 := hc4
    refine awp_skip ?_
    refine awp_seq ?_
    have hd : (Sp.due s).2 = 0 := by simpa using hc4
    have hgs : Sp.goodSend s = true := (Sp.due_good s).1.1 hd
    have hgl := Sp.goodSend_len hgs
    refine awp_region rfl ?_
    first
      | refine sP (opp_loadP rfl rfl rfl rfl bi rfl ty73) rfl rfl ?_
      | refine sP (opp_loadF rfl rfl ty73) rfl rfl ?_
    refine sR (opr_callO (rl := [(6, 20)]) (r1 := .agg _) (H1 := [(20, some (.arr _ _ _))]) (n1 := [20]) rfl rfl ent81 rfl (co81 b s hb (by omega)) (AViews.refl _ rfl) rfl rfl rfl rfl) rfl rfl rfl ?_
    refine sR0 (opr_store (v := .agg _) (trn := (.agg _)) rfl rfl rfl rfl bi rfl rfl rfl rfl fr2 ty73 (fun _ _ h => h)) rfl rfl rfl ?_
    refine awp_seq ?_
    refine awp_seq ?_
    refine awp_region rfl ?_
    refine sP (opp_mv (v := .int _ _) rfl rfl) rfl rfl ?_
    refine sP (opp_cmp rfl rfl rfl rfl) rfl rfl ?_
    refine awp_cond _ rfl (fun hc8 => ?_) (fun hc8 => ?_)
    · (try simp only [cmpI, errD_nil, Bool.not_eq_true', Bool.not_eq_false', decide_eq_true_eq, decide_eq_false_iff_not] at hc8); have ht22 := hc8
      refine awp_region rfl ?_
      refine sP (opp_as (v := .int _ _) rfl rfl) rfl rfl ?_
      refine awp_seq ?_
      refine awp_seq ?_
      refine awp_region rfl ?_
      first
        | refine sP (opp_fieldP rfl rfl fld73_5 rfl) rfl rfl ?_
        | refine sP (opp_fieldF rfl rfl rfl fld73_5 rfl rfl) rfl rfl ?_
      first
        | refine sP (opp_loadP rfl rfl rfl rfl bi rfl ty3) rfl rfl ?_
        | refine sP (opp_loadF rfl rfl ty3) rfl rfl ?_
      refine sP (opp_mv (v := .int _ _) rfl rfl) rfl rfl ?_
      refine sP (opp_cmp rfl rfl rfl rfl) rfl rfl ?_
      refine awp_cond _ rfl (fun hc11 => ?_) (fun hc11 => ?_)
      · (try simp only [cmpI, errD_nil, Bool.not_eq_true', Bool.not_eq_false', decide_eq_true_eq, decide_eq_false_iff_not] at hc11); have ht26 := hc11
        refine awp_seq ?_
        refine awp_region rfl ?_
        first
          | refine sP (opp_loadP rfl rfl rfl rfl bi rfl ty73) rfl rfl ?_
          | refine sP (opp_loadF rfl rfl ty73) rfl rfl ?_
        refine sR0 (opr_store (v := .agg _) (trn := (.agg _)) rfl rfl rfl rfl bi rfl rfl rfl rfl fr2 ty73 (fun _ _ h => h)) rfl rfl rfl ?_
        first
          | refine sP (opp_as (v := .sl _ _ _ _) rfl rfl) rfl rfl ?_
          | refine sP (opp_as (v := .osl _ _ _ _ _) rfl rfl) rfl rfl ?_
        refine sP (opp_as (v := .bool _) rfl rfl) rfl rfl ?_
        refine sP (opp_as (v := .int _ _) rfl rfl) rfl rfl ?_
        refine awp_ret ?_
        repeat (first | refine athen_ret ?_ | refine ain_ret ?_)
        first
          | refine apost_ret (aend (l := [.agg _, .sl _ _ _ _, .bool _, .int _ _]) (.cell rfl rfl rfl (by exact True.intro) rfl ty73 (.tmp (.tmp (.tmp .nil)))) (fun h => by cases h) (.cons (.noN rfl rfl) (.cons (.noN rfl rfl) (.cons (.noN rfl rfl) (.cons (.noN rfl rfl) .nil)))) ⟨Wk.v ?_, rfl, rfl⟩)
          | refine apost_ret (aends (l := [.agg _, .sl _ _ _ _, .bool _, .int _ _]) (.cell rfl rfl rfl (by exact True.intro) rfl ty73 (.tmp (.tmp (.tmp .nil)))) (fun h => by cases h) (.cons shut (fun h => by cases h) (.cons shut (fun h => by cases h) (.cons shut (fun h => by cases h) (.cons shut (fun h => by cases h) .nil)))) rfl ⟨Wk.v ?_, rfl, rfl⟩)
          | refine apost_ret (aend (l := [.agg _, .osl _ _ _ _ _, .bool _, .int _ _]) (.cell rfl rfl rfl (by exact True.intro) rfl ty73 (.tmp (.tmp (.tmp .nil)))) (fun h => by cases h) (.cons (.noN rfl rfl) (.cons (.noN rfl rfl) (.cons (.noN rfl rfl) (.cons (.noN rfl rfl) .nil)))) ⟨Wk.v ?_, rfl, rfl⟩)
          | refine apost_ret (aends (l := [.agg _, .osl _ _ _ _ _, .bool _, .int _ _]) (.cell rfl rfl rfl (by exact True.intro) rfl ty73 (.tmp (.tmp (.tmp .nil)))) (fun h => by cases h) (.cons shut (fun h => by cases h) (.cons shut (fun h => by cases h) (.cons shut (fun h => by cases h) (.cons shut (fun h => by cases h) .nil)))) rfl ⟨Wk.v ?_, rfl, rfl⟩)
        rw [show Sp.round s t = (s, [], false, 0) by rw [Sp.round, if_neg (by simp [hd]), if_pos (by omega)]]
        simp only [ne_eq, not_true_eq_false, decide_false, sendAV, xidAV, List.length_nil]; (repeat' (first | exact Wk.refl | exact Wk.sl0 | apply Wk.tup | apply Wk.agg | apply WkL.cons | exact WkL.nil | refine Wk.sl (fun _ _ => ?_)))
      · (try simp only [cmpI, errD_nil, Bool.not_eq_true', Bool.not_eq_false', decide_eq_true_eq, decide_eq_false_iff_not] at hc11); have ht26 := hc11
        refine awp_skip ?_
        refine awp_seq ?_
        refine awp_region rfl ?_
        first
          | refine sP (opp_fieldP rfl rfl fld73_5 rfl) rfl rfl ?_
          | refine sP (opp_fieldF rfl rfl rfl fld73_5 rfl rfl) rfl rfl ?_
        first
          | refine sP (opp_loadP rfl rfl rfl rfl bi rfl ty3) rfl rfl ?_
          | refine sP (opp_loadF rfl rfl ty3) rfl rfl ?_
        first
          | refine sP (opp_arith rfl rfl rfl (.inl ⟨rfl, w64 (by omega)⟩)) rfl rfl ?_
          | refine sP (opp_arith rfl rfl rfl (.inl ⟨rfl, rfl⟩)) rfl rfl ?_
        first
          | refine sP (opp_fieldP rfl rfl fld73_5 rfl) rfl rfl ?_
          | refine sP (opp_fieldF rfl rfl rfl fld73_5 rfl rfl) rfl rfl ?_
        refine sR0 (opr_store (v := .int _ _) (trn := (.agg [_, _, _, _, _, .int _ _])) rfl rfl rfl rfl bi rfl rfl rfl rfl fr2 ty3 (fun _ _ h => h)) rfl rfl rfl ?_
        refine awp_seq ?_
        refine awp_region rfl ?_
        first
          | refine sP (opp_loadP rfl rfl rfl rfl bi rfl ty73) rfl rfl ?_
          | refine sP (opp_loadF rfl rfl ty73) rfl rfl ?_
        first
          | refine sP (opp_mv (v := .sl _ _ _ _) rfl rfl) rfl rfl ?_
          | refine sP (opp_mv (v := .osl _ _ _ _ _) rfl rfl) rfl rfl ?_
        refine sR0 (opr_store (v := .agg _) (trn := (.agg _)) rfl rfl rfl rfl bi rfl rfl rfl rfl fr2 ty73 (fun _ _ h => h)) rfl rfl rfl ?_
        first
          | refine sP (opp_as (v := .sl _ _ _ _) rfl rfl) rfl rfl ?_
          | refine sP (opp_as (v := .osl _ _ _ _ _) rfl rfl) rfl rfl ?_
        refine sP (opp_as (v := .bool _) rfl rfl) rfl rfl ?_
        refine sP (opp_as (v := .int _ _) rfl rfl) rfl rfl ?_
        refine awp_ret ?_
        repeat (first | refine athen_ret ?_ | refine ain_ret ?_)
        first
          | refine apost_ret (aend (l := [.agg _, .sl _ _ _ _, .bool _, .int _ _]) (.cell rfl rfl rfl (by exact True.intro) rfl ty73 (.tmp (.tmp (.tmp .nil)))) (fun h => by cases h) (.cons (.noN rfl rfl) (.cons (.noN rfl rfl) (.cons (.noN rfl rfl) (.cons (.noN rfl rfl) .nil)))) ⟨Wk.v ?_, rfl, rfl⟩)
          | refine apost_ret (aends (l := [.agg _, .sl _ _ _ _, .bool _, .int _ _]) (.cell rfl rfl rfl (by exact True.intro) rfl ty73 (.tmp (.tmp (.tmp .nil)))) (fun h => by cases h) (.cons shut (fun h => by cases h) (.cons shut (fun h => by cases h) (.cons shut (fun h => by cases h) (.cons shut (fun h => by cases h) .nil)))) rfl ⟨Wk.v ?_, rfl, rfl⟩)
          | refine apost_ret (aend (l := [.agg _, .osl _ _ _ _ _, .bool _, .int _ _]) (.cell rfl rfl rfl (by exact True.intro) rfl ty73 (.tmp (.tmp (.tmp .nil)))) (fun h => by cases h) (.cons (.noN rfl rfl) (.cons (.noN rfl rfl) (.cons (.noN rfl rfl) (.cons (.noN rfl rfl) .nil)))) ⟨Wk.v ?_, rfl, rfl⟩)
          | refine apost_ret (aends (l := [.agg _, .osl _ _ _ _ _, .bool _, .int _ _]) (.cell rfl rfl rfl (by exact True.intro) rfl ty73 (.tmp (.tmp (.tmp .nil)))) (fun h => by cases h) (.cons shut (fun h => by cases h) (.cons shut (fun h => by cases h) (.cons shut (fun h => by cases h) (.cons shut (fun h => by cases h) .nil)))) rfl ⟨Wk.v ?_, rfl, rfl⟩)
        exfalso; omega
    · (try simp only [cmpI, errD_nil, Bool.not_eq_true', Bool.not_eq_false', decide_eq_true_eq, decide_eq_false_iff_not] at hc8); have ht22 := hc8
      refine awp_skip ?_
      refine awp_seq ?_
      refine awp_seq ?_
      refine awp_region rfl ?_
      first
        | refine sP (opp_fieldP rfl rfl fld73_5 rfl) rfl rfl ?_
        | refine sP (opp_fieldF rfl rfl rfl fld73_5 rfl rfl) rfl rfl ?_
      first
        | refine sP (opp_loadP rfl rfl rfl rfl bi rfl ty3) rfl rfl ?_
        | refine sP (opp_loadF rfl rfl ty3) rfl rfl ?_
      refine sP (opp_mv (v := .int _ _) rfl rfl) rfl rfl ?_
      refine sP (opp_cmp rfl rfl rfl rfl) rfl rfl ?_
      refine awp_cond _ rfl (fun hc16 => ?_) (fun hc16 => ?_)
      · (try simp only [cmpI, errD_nil, Bool.not_eq_true', Bool.not_eq_false', decide_eq_true_eq, decide_eq_false_iff_not] at hc16); have ht26 := hc16
        refine awp_seq ?_
        refine awp_region rfl ?_
        first
          | refine sP (opp_loadP rfl rfl rfl rfl bi rfl ty73) rfl rfl ?_
          | refine sP (opp_loadF rfl rfl ty73) rfl rfl ?_
        refine sR0 (opr_store (v := .agg _) (trn := (.agg _)) rfl rfl rfl rfl bi rfl rfl rfl rfl fr2 ty73 (fun _ _ h => h)) rfl rfl rfl ?_
        first
          | refine sP (opp_as (v := .sl _ _ _ _) rfl rfl) rfl rfl ?_
          | refine sP (opp_as (v := .osl _ _ _ _ _) rfl rfl) rfl rfl ?_
        refine sP (opp_as (v := .bool _) rfl rfl) rfl rfl ?_
        refine sP (opp_as (v := .int _ _) rfl rfl) rfl rfl ?_
        refine awp_ret ?_
        repeat (first | refine athen_ret ?_ | refine ain_ret ?_)
        first
          | refine apost_ret (aend (l := [.agg _, .sl _ _ _ _, .bool _, .int _ _]) (.cell rfl rfl rfl (by exact True.intro) rfl ty73 (.tmp (.tmp (.tmp .nil)))) (fun h => by cases h) (.cons (.noN rfl rfl) (.cons (.noN rfl rfl) (.cons (.noN rfl rfl) (.cons (.noN rfl rfl) .nil)))) ⟨Wk.v ?_, rfl, rfl⟩)
          | refine apost_ret (aends (l := [.agg _, .sl _ _ _ _, .bool _, .int _ _]) (.cell rfl rfl rfl (by exact True.intro) rfl ty73 (.tmp (.tmp (.tmp .nil)))) (fun h => by cases h) (.cons shut (fun h => by cases h) (.cons shut (fun h => by cases h) (.cons shut (fun h => by cases h) (.cons shut (fun h => by cases h) .nil)))) rfl ⟨Wk.v ?_, rfl, rfl⟩)
          | refine apost_ret (aend (l := [.agg _, .osl _ _ _ _ _, .bool _, .int _ _]) (.cell rfl rfl rfl (by exact True.intro) rfl ty73 (.tmp (.tmp (.tmp .nil)))) (fun h => by cases h) (.cons (.noN rfl rfl) (.cons (.noN rfl rfl) (.cons (.noN rfl rfl) (.cons (.noN rfl rfl) .nil)))) ⟨Wk.v ?_, rfl, rfl⟩)
          | refine apost_ret (aends (l := [.agg _, .osl _ _ _ _ _, .bool _, .int _ _]) (.cell rfl rfl rfl (by exact True.intro) rfl ty73 (.tmp (.tmp (.tmp .nil)))) (fun h => by cases h) (.cons shut (fun h => by cases h) (.cons shut (fun h => by cases h) (.cons shut (fun h => by cases h) (.cons shut (fun h => by cases h) .nil)))) rfl ⟨Wk.v ?_, rfl, rfl⟩)
        rw [show Sp.round s t = (s, [], false, 0) by rw [Sp.round, if_neg (by simp [hd]), if_pos (by omega)]]
        simp only [ne_eq, not_true_eq_false, decide_false, sendAV, xidAV, List.length_nil]; (repeat' (first | exact Wk.refl | exact Wk.sl0 | apply Wk.tup | apply Wk.agg | apply WkL.cons | exact WkL.nil | refine Wk.sl (fun _ _ => ?_)))
      · (try simp only [cmpI, errD_nil, Bool.not_eq_true', Bool.not_eq_false', decide_eq_true_eq, decide_eq_false_iff_not] at hc16); have ht26 := hc16
        refine awp_skip ?_
        refine awp_seq ?_
        refine awp_region rfl ?_
        first
          | refine sP (opp_fieldP rfl rfl fld73_5 rfl) rfl rfl ?_
          | refine sP (opp_fieldF rfl rfl rfl fld73_5 rfl rfl) rfl rfl ?_
        first
          | refine sP (opp_loadP rfl rfl rfl rfl bi rfl ty3) rfl rfl ?_
          | refine sP (opp_loadF rfl rfl ty3) rfl rfl ?_
        first
          | refine sP (opp_arith rfl rfl rfl (.inl ⟨rfl, w64 (by omega)⟩)) rfl rfl ?_
          | refine sP (opp_arith rfl rfl rfl (.inl ⟨rfl, rfl⟩)) rfl rfl ?_
        first
          | refine sP (opp_fieldP rfl rfl fld73_5 rfl) rfl rfl ?_
          | refine sP (opp_fieldF rfl rfl rfl fld73_5 rfl rfl) rfl rfl ?_
        refine sR0 (opr_store (v := .int _ _) (trn := (.agg [_, _, _, _, _, .int _ _])) rfl rfl rfl rfl bi rfl rfl rfl rfl fr2 ty3 (fun _ _ h => h)) rfl rfl rfl ?_
        refine awp_seq ?_
        refine awp_region rfl ?_
        first
          | refine sP (opp_loadP rfl rfl rfl rfl bi rfl ty73) rfl rfl ?_
          | refine sP (opp_loadF rfl rfl ty73) rfl rfl ?_
        first
          | refine sP (opp_mv (v := .sl _ _ _ _) rfl rfl) rfl rfl ?_
          | refine sP (opp_mv (v := .osl _ _ _ _ _) rfl rfl) rfl rfl ?_
        refine sR0 (opr_store (v := .agg _) (trn := (.agg _)) rfl rfl rfl rfl bi rfl rfl rfl rfl fr2 ty73 (fun _ _ h => h)) rfl rfl rfl ?_
        first
          | refine sP (opp_as (v := .sl _ _ _ _) rfl rfl) rfl rfl ?_
          | refine sP (opp_as (v := .osl _ _ _ _ _) rfl rfl) rfl rfl ?_
        refine sP (opp_as (v := .bool _) rfl rfl) rfl rfl ?_
        refine sP (opp_as (v := .int _ _) rfl rfl) rfl rfl ?_
        refine awp_ret ?_
        repeat (first | refine athen_ret ?_ | refine ain_ret ?_)
        first
          | refine apost_ret (aend (l := [.agg _, .sl _ _ _ _, .bool _, .int _ _]) (.cell rfl rfl rfl (by exact True.intro) rfl ty73 (.tmp (.tmp (.tmp .nil)))) (fun h => by cases h) (.cons (.noN rfl rfl) (.cons (.noN rfl rfl) (.cons (.noN rfl rfl) (.cons (.noN rfl rfl) .nil)))) ⟨Wk.v ?_, rfl, rfl⟩)
          | refine apost_ret (aends (l := [.agg _, .sl _ _ _ _, .bool _, .int _ _]) (.cell rfl rfl rfl (by exact True.intro) rfl ty73 (.tmp (.tmp (.tmp .nil)))) (fun h => by cases h) (.cons shut (fun h => by cases h) (.cons shut (fun h => by cases h) (.cons shut (fun h => by cases h) (.cons shut (fun h => by cases h) .nil)))) rfl ⟨Wk.v ?_, rfl, rfl⟩)
          | refine apost_ret (aend (l := [.agg _, .osl _ _ _ _ _, .bool _, .int _ _]) (.cell rfl rfl rfl (by exact True.intro) rfl ty73 (.tmp (.tmp (.tmp .nil)))) (fun h => by cases h) (.cons (.noN rfl rfl) (.cons (.noN rfl rfl) (.cons (.noN rfl rfl) (.cons (.noN rfl rfl) .nil)))) ⟨Wk.v ?_, rfl, rfl⟩)
          | refine apost_ret (aends (l := [.agg _, .osl _ _ _ _ _, .bool _, .int _ _]) (.cell rfl rfl rfl (by exact True.intro) rfl ty73 (.tmp (.tmp (.tmp .nil)))) (fun h => by cases h) (.cons shut (fun h => by cases h) (.cons shut (fun h => by cases h) (.cons shut (fun h => by cases h) (.cons shut (fun h => by cases h) .nil)))) rfl ⟨Wk.v ?_, rfl, rfl⟩)
        rw [show Sp.round s t = ({ s with rounds := s.rounds + 1 }, (Sp.due s).1, true, 0) by rw [Sp.round, if_neg (by simp [hd]), if_neg (by omega)]]
        simp only [ne_eq, not_true_eq_false, decide_false, sendAV, xidAV, w64 (show -9223372036854775808 ≤ s.rounds + 1 ∧ s.rounds + 1 ≤ 9223372036854775807 by omega)]; (repeat' (first | exact Wk.refl | exact Wk.sl0 | apply Wk.tup | apply Wk.agg | apply WkL.cons | exact WkL.nil | refine Wk.sl (fun _ _ => ?_)))
theorem c32 (b : Bool) (s : Send) (n : Note) (h0 : s.image.length ≤ 281474976710656) (hb : b = true → s.acked.length = 0) :
    APure (V ea cds gl) 32 [sendAV b s, noteAV n] false (.tup [sendAV (decide ((Sp.ack s n).2.2 ≠ 0)) (Sp.ack s n).1, .bool (Sp.ack s n).2.1, .int .i64 ((Sp.ack s n).2.2 : Nat)]) := by
  refine acalls_of_body (N := 67) Tryd.func32 rfl rfl (Nat.le_of_ble_eq_true rfl) fun C hV hN hM hO => ?_
  obtain ⟨_, _, w0, G0, σ0, _, own0⟩ := C; dsimp only at hV hN hM hO; subst hV; subst hN; subst hM
  refine awp_seq ?_
  refine awp_region rfl ?_
  refine sR (opr_box (y := .agg _) (n := 2) rfl rfl rfl) rfl rfl rfl ?_
  refine sR (opr_box (y := .agg _) (n := 3) rfl rfl rfl) rfl rfl rfl ?_
  refine sR (opr_alloc (n := 4) rfl z73) rfl rfl rfl ?_
  refine sP (opp_as (v := .bool _) rfl rfl) rfl rfl ?_
  refine sP (opp_as (v := .int _ _) rfl rfl) rfl rfl ?_
  refine awp_seq ?_
  refine awp_seq ?_
  refine awp_region rfl ?_
  first
    | refine sP (opp_loadP rfl rfl rfl rfl bi rfl ty73) rfl rfl ?_
    | refine sP (opp_loadF rfl rfl ty73) rfl rfl ?_
  refine sR (opr_call rfl rfl ent56 rfl (c56 b s h0) (AViews.refl _ rfl)) rfl rfl rfl ?_ -- d=10 t=4
  refine sP (opp_not rfl rfl) rfl rfl ?_
  refine awp_cond _ rfl (fun hc3 => ?_) (fun hc3 => ?_)
  · (try simp only [cmpI, errD_nil, Bool.not_eq_true', Bool.not_eq_false', decide_eq_true_eq, decide_eq_false_iff_not] at hc3); have ht11 := hc3
    refine awp_seq ?_
    refine awp_region rfl ?_
    refine sP (opp_build rfl z73 bld73 rfl [.int .i64 0, .agg [.int .i64 0, .int .i64 0, .int .i64 0], .int .i64 0, .str [], .sl 1 true 0 (fun _ => .top), .int .i64 0] rfl) rfl rfl ?_
    refine sR0 (opr_store (v := .agg _) (trn := (.agg _)) rfl rfl rfl rfl bi rfl rfl rfl rfl fr2 ty73 (fun _ _ h => h)) rfl rfl rfl ?_
    refine sP (opp_as (v := .bool _) rfl rfl) rfl rfl ?_
    refine sP (opp_as (v := .int _ _) rfl rfl) rfl rfl ?_
    refine awp_ret ?_
    repeat (first | refine athen_ret ?_ | refine ain_ret ?_)
    first
      | refine apost_ret (aend (l := [.agg _, .bool _, .int _ _]) (.cell rfl rfl rfl (by exact True.intro) rfl ty73 (.tmp (.tmp .nil))) (fun h => by cases h) (.cons (.noN rfl rfl) (.cons (.noN rfl rfl) (.cons (.noN rfl rfl) .nil))) ⟨Wk.v ?_, rfl, rfl⟩)
      | refine apost_ret (aends (l := [.agg _, .bool _, .int _ _]) (.cell rfl rfl rfl (by exact True.intro) rfl ty73 (.tmp (.tmp .nil))) (fun h => by cases h) (.cons shut (fun h => by cases h) (.cons shut (fun h => by cases h) (.cons shut (fun h => by cases h) .nil))) rfl ⟨Wk.v ?_, rfl, rfl⟩)
    rw [show Sp.ack s n = (Sp.zeroSend, false, 9) by simp [Sp.ack, show Sp.goodSend s = false by simpa using hc3]]; show Wk _ (.tup [sendAV true Sp.zeroSend, .bool false, .int .i64 9]); simp only [sendAV, Sp.zeroSend, xidAV, List.length_nil]; (repeat' (first | exact Wk.refl | exact Wk.sl0 | apply Wk.tup | apply Wk.agg | apply WkL.cons | exact WkL.nil | refine Wk.sl (fun _ _ => ?_)))
  · (try simp only [cmpI, errD_nil, Bool.not_eq_true', Bool.not_eq_false', decide_eq_true_eq, decide_eq_false_iff_not] at hc3); have ht11 := hc3
    refine awp_skip ?_
    refine awp_seq ?_
    have hgs : Sp.goodSend s = true := by simpa using hc3
    have hgl := Sp.goodSend_len hgs
    refine awp_region rfl ?_
    first
      | refine sP (opp_loadP rfl rfl rfl rfl bi rfl ty26) rfl rfl ?_
      | refine sP (opp_loadF rfl rfl ty26) rfl rfl ?_
    refine sR (opr_call rfl rfl ent16 rfl (c16 n) (AViews.refl _ rfl)) rfl rfl rfl ?_ -- d=14 t=3
    refine sP (opp_as (v := .int _ _) rfl rfl) rfl rfl ?_
    refine awp_seq ?_
    refine awp_seq ?_
    refine awp_region rfl ?_
    refine sP (opp_mv (v := .int _ _) rfl rfl) rfl rfl ?_
    refine sP (opp_cmp rfl rfl rfl rfl) rfl rfl ?_
    refine awp_cond _ rfl (fun hc7 => ?_) (fun hc7 => ?_)
    · (try simp only [cmpI, errD_nil, Bool.not_eq_true', Bool.not_eq_false', decide_eq_true_eq, decide_eq_false_iff_not] at hc7); have ht16 := hc7
      refine awp_seq ?_
      refine awp_region rfl ?_
      refine sP (opp_build rfl z73 bld73 rfl [.int .i64 0, .agg [.int .i64 0, .int .i64 0, .int .i64 0], .int .i64 0, .str [], .sl 1 true 0 (fun _ => .top), .int .i64 0] rfl) rfl rfl ?_
      refine sP (opp_mv (v := .int _ _) rfl rfl) rfl rfl ?_
      refine sR0 (opr_store (v := .agg _) (trn := (.agg _)) rfl rfl rfl rfl bi rfl rfl rfl rfl fr2 ty73 (fun _ _ h => h)) rfl rfl rfl ?_
      refine sP (opp_as (v := .bool _) rfl rfl) rfl rfl ?_
      refine sP (opp_as (v := .int _ _) rfl rfl) rfl rfl ?_
      refine awp_ret ?_
      repeat (first | refine athen_ret ?_ | refine ain_ret ?_)
      first
        | refine apost_ret (aend (l := [.agg _, .bool _, .int _ _]) (.cell rfl rfl rfl (by exact True.intro) rfl ty73 (.tmp (.tmp .nil))) (fun h => by cases h) (.cons (.noN rfl rfl) (.cons (.noN rfl rfl) (.cons (.noN rfl rfl) .nil))) ⟨Wk.v ?_, rfl, rfl⟩)
        | refine apost_ret (aends (l := [.agg _, .bool _, .int _ _]) (.cell rfl rfl rfl (by exact True.intro) rfl ty73 (.tmp (.tmp .nil))) (fun h => by cases h) (.cons shut (fun h => by cases h) (.cons shut (fun h => by cases h) (.cons shut (fun h => by cases h) .nil))) rfl ⟨Wk.v ?_, rfl, rfl⟩)
      rw [show Sp.ack s n = (Sp.zeroSend, false, Sp.check n) by simp [Sp.ack, hgs, show ¬ Sp.check n = 0 by simpa using hc7]]
      simp only [show ¬ Sp.check n = 0 by simpa using hc7, ne_eq, not_false_eq_true, decide_true, sendAV, Sp.zeroSend, xidAV, List.length_nil]; (repeat' (first | exact Wk.refl | exact Wk.sl0 | apply Wk.tup | apply Wk.agg | apply WkL.cons | exact WkL.nil | refine Wk.sl (fun _ _ => ?_)))
    · (try simp only [cmpI, errD_nil, Bool.not_eq_true', Bool.not_eq_false', decide_eq_true_eq, decide_eq_false_iff_not] at hc7); have ht16 := hc7
      refine awp_skip ?_
      refine awp_seq ?_
      refine awp_seq ?_
      have hck : Sp.check n = 0 := by simpa using hc7
      refine awp_region rfl ?_
      first
        | refine sP (opp_fieldP rfl rfl fld26_0 rfl) rfl rfl ?_
        | refine sP (opp_fieldF rfl rfl rfl fld26_0 rfl rfl) rfl rfl ?_
      first
        | refine sP (opp_loadP rfl rfl rfl rfl bi rfl ty3) rfl rfl ?_
        | refine sP (opp_loadF rfl rfl ty3) rfl rfl ?_
      refine sP (opp_cmp rfl rfl rfl rfl) rfl rfl ?_
      refine awp_cond _ rfl (fun hc10 => ?_) (fun hc10 => ?_)
      · (try simp only [cmpI, errD_nil, Bool.not_eq_true', Bool.not_eq_false', decide_eq_true_eq, decide_eq_false_iff_not] at hc10); have ht21 := hc10
        refine awp_seq ?_
        refine awp_region rfl ?_
        refine sP (opp_build rfl z73 bld73 rfl [.int .i64 0, .agg [.int .i64 0, .int .i64 0, .int .i64 0], .int .i64 0, .str [], .sl 1 true 0 (fun _ => .top), .int .i64 0] rfl) rfl rfl ?_
        refine sR0 (opr_store (v := .agg _) (trn := (.agg _)) rfl rfl rfl rfl bi rfl rfl rfl rfl fr2 ty73 (fun _ _ h => h)) rfl rfl rfl ?_
        refine sP (opp_as (v := .bool _) rfl rfl) rfl rfl ?_
        refine sP (opp_as (v := .int _ _) rfl rfl) rfl rfl ?_
        refine awp_ret ?_
        repeat (first | refine athen_ret ?_ | refine ain_ret ?_)
        first
          | refine apost_ret (aend (l := [.agg _, .bool _, .int _ _]) (.cell rfl rfl rfl (by exact True.intro) rfl ty73 (.tmp (.tmp .nil))) (fun h => by cases h) (.cons (.noN rfl rfl) (.cons (.noN rfl rfl) (.cons (.noN rfl rfl) .nil))) ⟨Wk.v ?_, rfl, rfl⟩)
          | refine apost_ret (aends (l := [.agg _, .bool _, .int _ _]) (.cell rfl rfl rfl (by exact True.intro) rfl ty73 (.tmp (.tmp .nil))) (fun h => by cases h) (.cons shut (fun h => by cases h) (.cons shut (fun h => by cases h) (.cons shut (fun h => by cases h) .nil))) rfl ⟨Wk.v ?_, rfl, rfl⟩)
        rw [show Sp.ack s n = (Sp.zeroSend, false, 7) by simp [Sp.ack, hgs, hck, show ¬ n.kind = 7 by simpa using hc10]]; show Wk _ (.tup [sendAV true Sp.zeroSend, .bool false, .int .i64 7]); simp only [sendAV, Sp.zeroSend, xidAV, List.length_nil]; (repeat' (first | exact Wk.refl | exact Wk.sl0 | apply Wk.tup | apply Wk.agg | apply WkL.cons | exact WkL.nil | refine Wk.sl (fun _ _ => ?_)))
      · (try simp only [cmpI, errD_nil, Bool.not_eq_true', Bool.not_eq_false', decide_eq_true_eq, decide_eq_false_iff_not] at hc10); have ht21 := hc10
        refine awp_skip ?_
        refine awp_seq ?_
        refine awp_seq ?_
        have hk : n.kind = 7 := by simpa using hc10
        have hbn := Sp.check_ack hck hk
        refine awp_region rfl ?_
        first
          | refine sP (opp_fieldP rfl rfl fld26_1 rfl) rfl rfl ?_
          | refine sP (opp_fieldF rfl rfl rfl fld26_1 rfl rfl) rfl rfl ?_
        first
          | refine sP (opp_loadP rfl rfl rfl rfl bi rfl ty3) rfl rfl ?_
          | refine sP (opp_loadF rfl rfl ty3) rfl rfl ?_
        first
          | refine sP (opp_fieldP rfl rfl fld73_0 rfl) rfl rfl ?_
          | refine sP (opp_fieldF rfl rfl rfl fld73_0 rfl rfl) rfl rfl ?_
        first
          | refine sP (opp_loadP rfl rfl rfl rfl bi rfl ty3) rfl rfl ?_
          | refine sP (opp_loadF rfl rfl ty3) rfl rfl ?_
        refine sP (opp_cmp rfl rfl rfl rfl) rfl rfl ?_
        refine sP (opp_mv (v := .bool _) rfl rfl) rfl rfl ?_
        first
          | refine sG _ rfl rfl rfl rfl (fun hg => (And.intro gi (True.intro))) (fun hg => opp_fieldP rfl rfl fld26_2 rfl) ?_
          | refine sG _ rfl rfl rfl rfl (fun hg => (And.intro gi (True.intro))) (fun hg => opp_fieldF rfl rfl rfl fld26_2 rfl rfl) ?_
        first
          | refine sG _ rfl rfl rfl rfl (fun hg => (And.intro gi (True.intro))) (fun hg => opp_loadP rfl rfl rfl rfl bi rfl ty23) ?_
          | refine sG _ rfl rfl rfl rfl (fun hg => (And.intro gi (True.intro))) (fun hg => opp_loadF rfl rfl ty23) ?_
        first
          | refine sG _ rfl rfl rfl rfl (fun hg => (And.intro gi (True.intro))) (fun hg => opp_fieldP rfl rfl fld73_1 rfl) ?_
          | refine sG _ rfl rfl rfl rfl (fun hg => (And.intro gi (True.intro))) (fun hg => opp_fieldF rfl rfl rfl fld73_1 rfl rfl) ?_
        first
          | refine sG _ rfl rfl rfl rfl (fun hg => (And.intro gi (True.intro))) (fun hg => opp_loadP rfl rfl rfl rfl bi rfl ty23) ?_
          | refine sG _ rfl rfl rfl rfl (fun hg => (And.intro gi (True.intro))) (fun hg => opp_loadF rfl rfl ty23) ?_
        refine sG _ rfl rfl rfl rfl (fun hg => (And.intro gi (And.intro gi (True.intro)))) (fun hg => opp_eqAgg rfl rfl rfl (eq23 ..) eg23 rfl (.inr ⟨rfl, rfl⟩)) ?_
        refine sPick rfl rfl rfl rfl (by exact True.intro) rfl rfl (fun hg => gi) (fun hg => gi) ?_
        refine sP (opp_mv (v := .bool _) rfl rfl) rfl rfl ?_
        first
          | refine sG _ rfl rfl rfl rfl (fun hg => (And.intro gi (True.intro))) (fun hg => opp_fieldP rfl rfl fld26_3 rfl) ?_
          | refine sG _ rfl rfl rfl rfl (fun hg => (And.intro gi (True.intro))) (fun hg => opp_fieldF rfl rfl rfl fld26_3 rfl rfl) ?_
        first
          | refine sG _ rfl rfl rfl rfl (fun hg => (And.intro gi (True.intro))) (fun hg => opp_loadP rfl rfl rfl rfl bi rfl ty3) ?_
          | refine sG _ rfl rfl rfl rfl (fun hg => (And.intro gi (True.intro))) (fun hg => opp_loadF rfl rfl ty3) ?_
        first
          | refine sG _ rfl rfl rfl rfl (fun hg => (And.intro gi (True.intro))) (fun hg => opp_fieldP rfl rfl fld73_2 rfl) ?_
          | refine sG _ rfl rfl rfl rfl (fun hg => (And.intro gi (True.intro))) (fun hg => opp_fieldF rfl rfl rfl fld73_2 rfl rfl) ?_
        first
          | refine sG _ rfl rfl rfl rfl (fun hg => (And.intro gi (True.intro))) (fun hg => opp_loadP rfl rfl rfl rfl bi rfl ty3) ?_
          | refine sG _ rfl rfl rfl rfl (fun hg => (And.intro gi (True.intro))) (fun hg => opp_loadF rfl rfl ty3) ?_
        refine sG _ rfl rfl rfl rfl (fun hg => (And.intro gi (And.intro gi (True.intro)))) (fun hg => opp_cmp rfl rfl rfl rfl) ?_
        refine sPick rfl rfl rfl rfl (by exact True.intro) rfl rfl (fun hg => gi) (fun hg => gi) ?_
        refine sP (opp_mv (v := .bool _) rfl rfl) rfl rfl ?_
        first
          | refine sG _ rfl rfl rfl rfl (fun hg => (And.intro gi (True.intro))) (fun hg => opp_fieldP rfl rfl fld26_5 rfl) ?_
          | refine sG _ rfl rfl rfl rfl (fun hg => (And.intro gi (True.intro))) (fun hg => opp_fieldF rfl rfl rfl fld26_5 rfl rfl) ?_
        first
          | refine sG _ rfl rfl rfl rfl (fun hg => (And.intro gi (True.intro))) (fun hg => opp_loadP rfl rfl rfl rfl bi rfl ty3) ?_
          | refine sG _ rfl rfl rfl rfl (fun hg => (And.intro gi (True.intro))) (fun hg => opp_loadF rfl rfl ty3) ?_
        first
          | refine sG _ rfl rfl rfl rfl (fun hg => (And.intro gi (True.intro))) (fun hg => opp_fieldP rfl rfl fld73_4 rfl) ?_
          | refine sG _ rfl rfl rfl rfl (fun hg => (And.intro gi (True.intro))) (fun hg => opp_fieldF rfl rfl rfl fld73_4 rfl rfl) ?_
        first
          | refine sG _ rfl rfl rfl rfl (fun hg => (And.intro gi (True.intro))) (fun hg => opp_loadP rfl rfl rfl rfl bi rfl ty43) ?_
          | refine sG _ rfl rfl rfl rfl (fun hg => (And.intro gi (True.intro))) (fun hg => opp_loadF rfl rfl ty43) ?_
        first
          | refine sG _ rfl rfl rfl rfl (fun hg => (And.intro gi (True.intro))) (fun hg => opp_lenSl rfl rfl un43) ?_
          | refine sG _ rfl rfl rfl rfl (fun hg => (And.intro gi (True.intro))) (fun hg => opp_lenOsl rfl rfl un43) ?_
        refine sG _ rfl rfl rfl rfl (fun hg => (And.intro gi (And.intro gi (True.intro)))) (fun hg => opp_cmp rfl rfl rfl rfl) ?_
        refine sPick rfl rfl rfl rfl (by exact True.intro) rfl rfl (fun hg => gi) (fun hg => gi) ?_
        refine awp_cond _ rfl (fun hc13 => ?_) (fun hc13 => ?_)
        · (try simp only [cmpI, errD_nil, Bool.not_eq_true', Bool.not_eq_false', decide_eq_true_eq, decide_eq_false_iff_not] at hc13); have ht49 := hc13
          refine awp_seq ?_
          refine awp_region rfl ?_
          refine sP (opp_build rfl z73 bld73 rfl [.int .i64 0, .agg [.int .i64 0, .int .i64 0, .int .i64 0], .int .i64 0, .str [], .sl 1 true 0 (fun _ => .top), .int .i64 0] rfl) rfl rfl ?_
          refine sR0 (opr_store (v := .agg _) (trn := (.agg _)) rfl rfl rfl rfl bi rfl rfl rfl rfl fr2 ty73 (fun _ _ h => h)) rfl rfl rfl ?_
          refine sP (opp_as (v := .bool _) rfl rfl) rfl rfl ?_
          refine sP (opp_as (v := .int _ _) rfl rfl) rfl rfl ?_
          refine awp_ret ?_
          repeat (first | refine athen_ret ?_ | refine ain_ret ?_)
          first
            | refine apost_ret (aend (l := [.agg _, .bool _, .int _ _]) (.cell rfl rfl rfl (by exact True.intro) rfl ty73 (.tmp (.tmp .nil))) (fun h => by cases h) (.cons (.noN rfl rfl) (.cons (.noN rfl rfl) (.cons (.noN rfl rfl) .nil))) ⟨Wk.v ?_, rfl, rfl⟩)
            | refine apost_ret (aends (l := [.agg _, .bool _, .int _ _]) (.cell rfl rfl rfl (by exact True.intro) rfl ty73 (.tmp (.tmp .nil))) (fun h => by cases h) (.cons shut (fun h => by cases h) (.cons shut (fun h => by cases h) (.cons shut (fun h => by cases h) .nil))) rfl ⟨Wk.v ?_, rfl, rfl⟩)
          have hq : n.part ≠ s.part ∨ n.xid ≠ s.xid ∨ n.stage ≠ s.stage ∨ n.total ≠ s.acked.length := by
            refine Classical.byContradiction fun hne => ?_
            simp only [not_or, Decidable.not_not, ne_eq] at hne
            obtain ⟨h1, h2, h3, h4⟩ := hne
            simp [h1, h2, h3, h4] at hc13
          rw [show Sp.ack s n = (Sp.zeroSend, false, 10) by simp only [Sp.ack, hgs, hck, hk]; simp [if_pos hq]]; show Wk _ (.tup [sendAV true Sp.zeroSend, .bool false, .int .i64 10]); simp only [sendAV, Sp.zeroSend, xidAV, List.length_nil]; (repeat' (first | exact Wk.refl | exact Wk.sl0 | apply Wk.tup | apply Wk.agg | apply WkL.cons | exact WkL.nil | refine Wk.sl (fun _ _ => ?_)))
        · (try simp only [cmpI, errD_nil, Bool.not_eq_true', Bool.not_eq_false', decide_eq_true_eq, decide_eq_false_iff_not] at hc13); have ht49 := hc13
          refine awp_skip ?_
          refine awp_seq ?_
          have hq : n.part = s.part ∧ n.xid = s.xid ∧ n.stage = s.stage ∧ n.total = s.acked.length := by
            rw [Xid.eq_iff]; simpa [and_assoc] using hc13
          refine awp_region rfl ?_
          first
            | refine sP (opp_loadP rfl rfl rfl rfl bi rfl ty73) rfl rfl ?_
            | refine sP (opp_loadF rfl rfl ty73) rfl rfl ?_
          refine sR (opr_callO (rl := [(6, 52)]) (r1 := .agg _) (H1 := [(52, some (.arr _ _ _))]) (n1 := [52]) rfl rfl ent81 rfl (co81 b s hb (by omega)) (AViews.refl _ rfl) rfl rfl rfl rfl) rfl rfl rfl ?_
          refine sR0 (opr_store (v := .agg _) (trn := (.agg _)) rfl rfl rfl rfl bi rfl rfl rfl rfl fr2 ty73 (fun _ _ h => h)) rfl rfl rfl ?_
          refine awp_seq ?_
          refine awp_region rfl ?_
          first
            | refine sP (opp_fieldP rfl rfl fld73_4 rfl) rfl rfl ?_
            | refine sP (opp_fieldF rfl rfl rfl fld73_4 rfl rfl) rfl rfl ?_
          first
            | refine sP (opp_loadP rfl rfl rfl rfl bi rfl ty43) rfl rfl ?_
            | refine sP (opp_loadF rfl rfl ty43) rfl rfl ?_
          first
            | refine sP (opp_fieldP rfl rfl fld26_4 rfl) rfl rfl ?_
            | refine sP (opp_fieldF rfl rfl rfl fld26_4 rfl rfl) rfl rfl ?_
          first
            | refine sP (opp_loadP rfl rfl rfl rfl bi rfl ty3) rfl rfl ?_
            | refine sP (opp_loadF rfl rfl ty3) rfl rfl ?_
          first
            | refine sP (opp_indexSl rfl rfl rfl el43 (by omega) (by omega)) rfl rfl ?_
            | refine sP (opp_indexOsl0 rfl rfl rfl el43 (by omega) (by omega)) rfl rfl ?_
            | refine sP (opp_indexOsl rfl rfl rfl el43 (by omega) (by omega)) rfl rfl ?_
          first
            | refine sP (opp_loadP rfl rfl rfl rfl bi rfl ty4) rfl rfl ?_
            | refine sP (opp_loadF rfl rfl ty4) rfl rfl ?_
          refine sP (opp_not rfl rfl) rfl rfl ?_
          refine sP (opp_as (v := .bool _) rfl rfl) rfl rfl ?_
          refine awp_seq ?_
          refine awp_region rfl ?_
          first
            | refine sP (opp_fieldP rfl rfl fld73_4 rfl) rfl rfl ?_
            | refine sP (opp_fieldF rfl rfl rfl fld73_4 rfl rfl) rfl rfl ?_
          first
            | refine sP (opp_loadP rfl rfl rfl rfl bi rfl ty43) rfl rfl ?_
            | refine sP (opp_loadF rfl rfl ty43) rfl rfl ?_
          first
            | refine sP (opp_fieldP rfl rfl fld26_4 rfl) rfl rfl ?_
            | refine sP (opp_fieldF rfl rfl rfl fld26_4 rfl rfl) rfl rfl ?_
          first
            | refine sP (opp_loadP rfl rfl rfl rfl bi rfl ty3) rfl rfl ?_
            | refine sP (opp_loadF rfl rfl ty3) rfl rfl ?_
          first
            | refine sP (opp_indexSl rfl rfl rfl el43 (by omega) (by omega)) rfl rfl ?_
            | refine sP (opp_indexOsl0 rfl rfl rfl el43 (by omega) (by omega)) rfl rfl ?_
            | refine sP (opp_indexOsl rfl rfl rfl el43 (by omega) (by omega)) rfl rfl ?_
          refine sR0 (opr_storeA (v := .bool _) rfl rfl rfl (by omega) rfl rfl rfl rfl rfl ty4) rfl rfl rfl ?_
          refine awp_seq ?_
          refine awp_region rfl ?_
          first
            | refine sP (opp_loadP rfl rfl rfl rfl bi rfl ty73) rfl rfl ?_
            | refine sP (opp_loadF rfl rfl ty73) rfl rfl ?_
          refine sP (opp_mv (v := .bool _) rfl rfl) rfl rfl ?_
          refine sR0 (opr_store (v := .agg _) (trn := (.agg _)) rfl rfl rfl rfl bi rfl rfl rfl rfl fr2 ty73 (fun _ _ h => h)) rfl rfl rfl ?_
          refine sP (opp_as (v := .bool _) rfl rfl) rfl rfl ?_
          refine sP (opp_as (v := .int _ _) rfl rfl) rfl rfl ?_
          refine awp_ret ?_
          repeat (first | refine athen_ret ?_ | refine ain_ret ?_)
          first
            | refine apost_ret (aend (l := [.agg _, .bool _, .int _ _]) (.cell rfl rfl rfl (by exact True.intro) rfl ty73 (.tmp (.tmp .nil))) (fun h => by cases h) (.cons (.noN rfl rfl) (.cons (.noN rfl rfl) (.cons (.noN rfl rfl) .nil))) ⟨Wk.v ?_, rfl, rfl⟩)
            | refine apost_ret (aends (l := [.agg _, .bool _, .int _ _]) (.cell rfl rfl rfl (by exact True.intro) rfl ty73 (.tmp (.tmp .nil))) (fun h => by cases h) (.cons shut (fun h => by cases h) (.cons shut (fun h => by cases h) (.cons shut (fun h => by cases h) .nil))) rfl ⟨Wk.v ?_, rfl, rfl⟩)
          rw [show Sp.ack s n = ({ s with acked := s.acked.set n.index.toNat true }, !s.acked.getD n.index.toNat false, 0) by simp only [Sp.ack, hgs, hck, hk, hq]; simp]
          show Wk _ (.tup [sendAV false _, .bool _, .int .i64 0]); simp only [sendAV, xidAV, List.length_set]; (repeat' (first | exact Wk.refl | exact Wk.sl0 | apply Wk.tup | apply Wk.agg | apply WkL.cons | exact WkL.nil | refine Wk.sl (fun _ _ => ?_)))
          rename_i j hj; simp only [blAt, List.getD_eq_getElem?_getD, List.getElem?_set]
          by_cases hj2 : j = n.index.toNat
          · subst hj2; simp [hj]
          · simp [hj2, Ne.symm hj2]
set_option maxRecDepth 100000 in
theorem c12 (b b2 : Bool) (s : Send) (r : Recv) (n : Note) (t : Int) (h0 : s.image.length ≤ 281474976710656) (hl : s.acked.length ≤ 281474976710656) (hb : b = true → s.acked.length = 0) (ht : t ≤ 9223372036854775807) (hS : Sents cds gl) :
    APure (V ea cds gl) 12 [.agg [sendAV b s, recvAV b2 r, noteAV n, .int .i64 t]] false (.bool true) := by
  have hS0 := hS
  have e1 := due_code s
  have e2 := round_code s t
  have e3 := ack_code s n
  have e4 := (arrived_due s).2
  have l1 := due_len s
  have l2 := round_len s t
  have l3 := ack_len s n
  refine acalls_of_body (N := 150) Tryd.func12 rfl rfl (Nat.le_of_ble_eq_true rfl) fun C hV hN hM hO => ?_
  obtain ⟨_, _, w0, G0, σ0, _, own0⟩ := C; dsimp only at hV hN hM hO; subst hV; subst hN; subst hM
  refine awp_seq ?_
  refine awp_region rfl ?_
  refine sR (opr_box (y := .agg _) (n := 1) rfl rfl rfl) rfl rfl rfl ?_
  refine sP (opp_as (v := .bool _) rfl rfl) rfl rfl ?_
  refine awp_seq ?_
  refine awp_seq ?_
  refine awp_region rfl ?_
  refine sR (opr_call rfl rfl ent19 rfl (c19 hS.hG3 hS.hG4 hS.hG5 hS.hG2 hS.hG7 hS.hG8 hS.hG6) (AViews.refl _ rfl)) rfl rfl rfl ?_ -- d=18 t=4
  refine sP (opp_not rfl rfl) rfl rfl ?_
  refine awp_cond _ rfl (fun hc3 => ?_) (fun hc3 => ?_)
  · (try simp only [cmpI, errD_nil, Bool.not_eq_true', Bool.not_eq_false', decide_eq_true_eq, decide_eq_false_iff_not] at hc3); have ht19 := hc3
    cases ht19
  · (try simp only [cmpI, errD_nil, Bool.not_eq_true', Bool.not_eq_false', decide_eq_true_eq, decide_eq_false_iff_not] at hc3); have ht19 := hc3
    refine awp_skip ?_
    refine awp_seq ?_
    refine awp_region rfl ?_
    first
      | refine sP (opp_fieldP rfl rfl fld78_0 rfl) rfl rfl ?_
      | refine sP (opp_fieldF rfl rfl rfl fld78_0 rfl rfl) rfl rfl ?_
    first
      | refine sP (opp_loadP rfl rfl rfl rfl bi rfl ty73) rfl rfl ?_
      | refine sP (opp_loadF rfl rfl ty73) rfl rfl ?_
    refine sR (opr_call rfl rfl ent53 rfl (c53 b s h0) (AViews.refl _ rfl)) rfl rfl rfl ?_ -- d=23 t=114
    refine sP (opp_mv (v := .tup _) rfl rfl) rfl rfl ?_
    refine sP (opp_extract rfl rfl rfl) rfl rfl ?_
    refine sP (opp_extract rfl rfl rfl) rfl rfl ?_
    first
      | refine sP (opp_as (v := .sl _ _ _ _) rfl rfl) rfl rfl ?_
      | refine sP (opp_as (v := .osl _ _ _ _ _) rfl rfl) rfl rfl ?_
    refine sP (opp_as (v := .int _ _) rfl rfl) rfl rfl ?_
    refine awp_seq ?_
    refine awp_region rfl ?_
    first
      | refine sP (opp_fieldP rfl rfl fld78_0 rfl) rfl rfl ?_
      | refine sP (opp_fieldF rfl rfl rfl fld78_0 rfl rfl) rfl rfl ?_
    first
      | refine sP (opp_loadP rfl rfl rfl rfl bi rfl ty73) rfl rfl ?_
      | refine sP (opp_loadF rfl rfl ty73) rfl rfl ?_
    first
      | refine sP (opp_fieldP rfl rfl fld78_3 rfl) rfl rfl ?_
      | refine sP (opp_fieldF rfl rfl rfl fld78_3 rfl rfl) rfl rfl ?_
    first
      | refine sP (opp_loadP rfl rfl rfl rfl bi rfl ty3) rfl rfl ?_
      | refine sP (opp_loadF rfl rfl ty3) rfl rfl ?_
    refine sR (opr_call rfl rfl ent31 rfl (c31 b s t h0 hb ht) (AViews.refl _ rfl)) rfl rfl rfl ?_ -- d=31 t=82
    refine sP (opp_mv (v := .tup _) rfl rfl) rfl rfl ?_
    refine sP (opp_extract rfl rfl rfl) rfl rfl ?_
    refine sP (opp_extract rfl rfl rfl) rfl rfl ?_
    refine sP (opp_extract rfl rfl rfl) rfl rfl ?_
    refine sP (opp_extract rfl rfl rfl) rfl rfl ?_
    refine sR (opr_alloc (n := 5) rfl z73) rfl rfl rfl ?_
    refine sR0 (opr_store (v := .agg _) (trn := (.agg _)) rfl rfl rfl rfl bi rfl rfl rfl rfl fr2 ty73 (fun _ _ h => h)) rfl rfl rfl ?_
    first
      | refine sP (opp_as (v := .sl _ _ _ _) rfl rfl) rfl rfl ?_
      | refine sP (opp_as (v := .osl _ _ _ _ _) rfl rfl) rfl rfl ?_
    refine sP (opp_as (v := .bool _) rfl rfl) rfl rfl ?_
    refine sP (opp_as (v := .int _ _) rfl rfl) rfl rfl ?_
    refine awp_seq ?_
    refine awp_region rfl ?_
    first
      | refine sP (opp_fieldP rfl rfl fld78_0 rfl) rfl rfl ?_
      | refine sP (opp_fieldF rfl rfl rfl fld78_0 rfl rfl) rfl rfl ?_
    first
      | refine sP (opp_loadP rfl rfl rfl rfl bi rfl ty73) rfl rfl ?_
      | refine sP (opp_loadF rfl rfl ty73) rfl rfl ?_
    first
      | refine sP (opp_fieldP rfl rfl fld78_2 rfl) rfl rfl ?_
      | refine sP (opp_fieldF rfl rfl rfl fld78_2 rfl rfl) rfl rfl ?_
    first
      | refine sP (opp_loadP rfl rfl rfl rfl bi rfl ty26) rfl rfl ?_
      | refine sP (opp_loadF rfl rfl ty26) rfl rfl ?_
    refine sR (opr_call rfl rfl ent32 rfl (c32 b s n h0 hb) (AViews.refl _ rfl)) rfl rfl rfl ?_ -- d=41 t=84
    refine sP (opp_mv (v := .tup _) rfl rfl) rfl rfl ?_
    refine sP (opp_extract rfl rfl rfl) rfl rfl ?_
    refine sP (opp_extract rfl rfl rfl) rfl rfl ?_
    refine sP (opp_extract rfl rfl rfl) rfl rfl ?_
    refine sR (opr_alloc (n := 9) rfl z73) rfl rfl rfl ?_
    refine sR0 (opr_store (v := .agg _) (trn := (.agg _)) rfl rfl rfl rfl bi rfl rfl rfl rfl fr2 ty73 (fun _ _ h => h)) rfl rfl rfl ?_
    refine sP (opp_as (v := .bool _) rfl rfl) rfl rfl ?_
    refine sP (opp_as (v := .int _ _) rfl rfl) rfl rfl ?_
    refine awp_seq ?_
    refine awp_region rfl ?_
    first
      | refine sP (opp_fieldP rfl rfl fld78_0 rfl) rfl rfl ?_
      | refine sP (opp_fieldF rfl rfl rfl fld78_0 rfl rfl) rfl rfl ?_
    first
      | refine sP (opp_loadP rfl rfl rfl rfl bi rfl ty73) rfl rfl ?_
      | refine sP (opp_loadF rfl rfl ty73) rfl rfl ?_
    refine sR (opr_call rfl rfl ent54 rfl (c54 b s h0) (AViews.refl _ rfl)) rfl rfl rfl ?_ -- d=48 t=123
    refine sP (opp_mv (v := .tup _) rfl rfl) rfl rfl ?_
    refine sP (opp_extract rfl rfl rfl) rfl rfl ?_
    refine sP (opp_extract rfl rfl rfl) rfl rfl ?_
    refine sP (opp_as (v := .bool _) rfl rfl) rfl rfl ?_
    refine sP (opp_as (v := .int _ _) rfl rfl) rfl rfl ?_
    refine awp_seq ?_
    refine awp_seq ?_
    refine awp_draw hmix rfl (by kernel_rfl) ?_
    first
      | refine dP (fun _ => false) (opp_fieldP rfl rfl fld78_0 rfl) rfl rfl ?_
      | refine dP (fun _ => false) (opp_fieldF rfl rfl rfl fld78_0 rfl rfl) rfl rfl ?_
    first
      | refine dP (fun n => Nat.beq n 1) (opp_loadP rfl rfl rfl rfl bi rfl ty73) rfl rfl ?_
      | refine dP (fun n => Nat.beq n 1) (opp_loadF rfl rfl ty73) rfl rfl ?_
    refine dR (fun n => !([] : List Nat).contains n) (opr_call rfl rfl ent30 rfl (c30 b s) (AViews.refl _ rfl)) rfl rfl rfl ?_ -- d=53 t=45
    refine dR (fun n => !([] : List Nat).contains n) (opr_call rfl rfl ent55 rfl (c55 b s hS.hG2 hS.hG6) (AViews.refl _ rfl)) rfl rfl rfl ?_ -- d=54 t=4
    first
      | refine dP (fun _ => false) (opp_fieldP rfl rfl fld78_0 rfl) rfl rfl ?_
      | refine dP (fun _ => false) (opp_fieldF rfl rfl rfl fld78_0 rfl rfl) rfl rfl ?_
    first
      | refine dP (fun n => Nat.beq n 1) (opp_loadP rfl rfl rfl rfl bi rfl ty73) rfl rfl ?_
      | refine dP (fun n => Nat.beq n 1) (opp_loadF rfl rfl ty73) rfl rfl ?_
    refine dR (fun n => !([] : List Nat).contains n) (opr_call rfl rfl ent56 rfl (c56 b s h0) (AViews.refl _ rfl)) rfl rfl rfl ?_ -- d=57 t=4
    refine dP (fun _ => false) (opp_boolEq rfl rfl rfl un4 (.inr ⟨rfl, rfl⟩)) rfl rfl ?_
    refine And.intro (by kernel_rfl) ?_
    refine awp_cond _ rfl (fun hc9 => ?_) (fun hc9 => ?_)
    · (try simp only [cmpI, errD_nil, Bool.not_eq_true', Bool.not_eq_false', decide_eq_true_eq, decide_eq_false_iff_not] at hc9); have ht58 := hc9
      exfalso; simp at ht58
    · (try simp only [cmpI, errD_nil, Bool.not_eq_true', Bool.not_eq_false', decide_eq_true_eq, decide_eq_false_iff_not] at hc9); have ht58 := hc9
      refine awp_skip ?_
      refine awp_seq ?_
      refine awp_region rfl ?_
      first
        | refine sP (opp_fieldP rfl rfl fld78_0 rfl) rfl rfl ?_
        | refine sP (opp_fieldF rfl rfl rfl fld78_0 rfl rfl) rfl rfl ?_
      first
        | refine sP (opp_loadP rfl rfl rfl rfl bi rfl ty73) rfl rfl ?_
        | refine sP (opp_loadF rfl rfl ty73) rfl rfl ?_
      refine sR (opr_call rfl rfl ent30 rfl (c30 b s) (AViews.refl _ rfl)) rfl rfl rfl ?_ -- d=62 t=45
      refine sR (opr_call rfl rfl ent21 rfl (c21 b s hS.hG2 hS.hG6 hS.hG3) (AViews.refl _ rfl)) rfl rfl rfl ?_ -- d=63 t=49
      refine sP (opp_mv (v := .tup _) rfl rfl) rfl rfl ?_
      refine sP (opp_extract rfl rfl rfl) rfl rfl ?_
      refine sP (opp_extract rfl rfl rfl) rfl rfl ?_
      first
        | refine sP (opp_as (v := .sl _ _ _ _) rfl rfl) rfl rfl ?_
        | refine sP (opp_as (v := .osl _ _ _ _ _) rfl rfl) rfl rfl ?_
      refine sP (opp_as (v := .err _) rfl rfl) rfl rfl ?_
      refine awp_seq ?_
      refine awp_seq ?_
      refine awp_region rfl ?_
      refine sP (opp_mv (v := .err _) rfl rfl) rfl rfl ?_
      refine sP (opp_mv (v := .int _ _) rfl rfl) rfl rfl ?_
      refine sR (opr_call rfl rfl ent52 rfl (c52 (Sp.due s).2 _ (by omega) hS) (AViews.refl _ rfl)) rfl rfl rfl ?_ -- d=68 t=4
      refine sP (opp_not rfl rfl) rfl rfl ?_
      refine sP (opp_mv (v := .bool _) rfl rfl) rfl rfl ?_
      first
        | refine sG _ rfl rfl rfl rfl (fun hg => (And.intro gi (True.intro))) (fun hg => opp_mv (v := .sl _ _ _ _) rfl rfl) ?_
        | refine sG _ rfl rfl rfl rfl (fun hg => (And.intro gi (True.intro))) (fun hg => opp_mv (v := .osl _ _ _ _ _) rfl rfl) ?_
      first
        | refine sG _ rfl rfl rfl rfl (fun hg => (And.intro gi (True.intro))) (fun hg => opp_mv (v := .sl _ _ _ _) rfl rfl) ?_
        | refine sG _ rfl rfl rfl rfl (fun hg => (And.intro gi (True.intro))) (fun hg => opp_mv (v := .osl _ _ _ _ _) rfl rfl) ?_
      refine sGR _ rfl rfl rfl rfl (fun hg => (And.intro gi (And.intro gi (And.intro gi (True.intro))))) (fun hg => (opr_call rfl rfl ent57 rfl (c57 _ _ (Sp.due s).1 (Sp.due s).1 (by omega)) (AViews.refl _ rfl))) ?_
      refine sG _ rfl rfl rfl rfl (fun hg => (And.intro gi (True.intro))) (fun hg => opp_not rfl rfl) ?_
      refine sPick rfl rfl rfl rfl (by exact True.intro) rfl rfl (fun hg => gi) (fun hg => gi) ?_
      refine awp_cond _ rfl (fun hc12 => ?_) (fun hc12 => ?_)
      · (try simp only [cmpI, errD_nil, Bool.not_eq_true', Bool.not_eq_false', decide_eq_true_eq, decide_eq_false_iff_not] at hc12); have ht75 := hc12
        exfalso; simp at ht75
      · (try simp only [cmpI, errD_nil, Bool.not_eq_true', Bool.not_eq_false', decide_eq_true_eq, decide_eq_false_iff_not] at hc12); have ht75 := hc12
        refine awp_skip ?_
        refine awp_seq ?_
        refine awp_draw hmix rfl (by kernel_rfl) ?_
        first
          | refine dP (fun _ => false) (opp_fieldP rfl rfl fld78_0 rfl) rfl rfl ?_
          | refine dP (fun _ => false) (opp_fieldF rfl rfl rfl fld78_0 rfl rfl) rfl rfl ?_
        first
          | refine dP (fun n => Nat.beq n 1) (opp_loadP rfl rfl rfl rfl bi rfl ty73) rfl rfl ?_
          | refine dP (fun n => Nat.beq n 1) (opp_loadF rfl rfl ty73) rfl rfl ?_
        refine dR (fun n => !([16] : List Nat).contains n) (opr_call rfl rfl ent30 rfl (c30 b s) (AViews.refl _ rfl)) rfl rfl rfl ?_ -- d=79 t=45
        first
          | refine dP (fun _ => false) (opp_fieldP rfl rfl fld78_3 rfl) rfl rfl ?_
          | refine dP (fun _ => false) (opp_fieldF rfl rfl rfl fld78_3 rfl rfl) rfl rfl ?_
        first
          | refine dP (fun n => Nat.beq n 1) (opp_loadP rfl rfl rfl rfl bi rfl ty3) rfl rfl ?_
          | refine dP (fun n => Nat.beq n 1) (opp_loadF rfl rfl ty3) rfl rfl ?_
        refine dR (fun n => !([16] : List Nat).contains n) (opr_call rfl rfl ent24 rfl (c24 b s t hb ht hS.hG2 hS.hG6 hS.hG3) (AViews.refl _ rfl)) rfl rfl rfl ?_ -- d=82 t=64
        refine dP (fun _ => false) (opp_mv (v := .tup _) rfl rfl) rfl rfl ?_
        refine dP (fun _ => false) (opp_extract rfl rfl rfl) rfl rfl ?_
        refine dP (fun _ => false) (opp_extract rfl rfl rfl) rfl rfl ?_
        refine dP (fun _ => false) (opp_extract rfl rfl rfl) rfl rfl ?_
        refine dP (fun _ => false) (opp_extract rfl rfl rfl) rfl rfl ?_
        refine dR (fun _ => false) (opr_alloc (n := 16) rfl z45) rfl rfl rfl ?_
        refine dR0 (fun n => Nat.beq n 16) (opr_store (v := .agg _) (trn := (.agg _)) rfl rfl rfl rfl bi rfl rfl rfl rfl fr2 ty45 (fun _ _ h => h)) rfl rfl rfl ?_
        first
          | refine dP (fun _ => false) (opp_as (v := .sl _ _ _ _) rfl rfl) rfl rfl ?_
          | refine dP (fun _ => false) (opp_as (v := .osl _ _ _ _ _) rfl rfl) rfl rfl ?_
        refine dP (fun _ => false) (opp_as (v := .bool _) rfl rfl) rfl rfl ?_
        refine dP (fun _ => false) (opp_as (v := .err _) rfl rfl) rfl rfl ?_
        refine And.intro (by kernel_rfl) ?_
        refine awp_seq ?_
        refine awp_seq ?_
        refine awp_draw hmix rfl (by kernel_rfl) ?_
        refine dP (fun _ => false) (opp_mv (v := .err _) rfl rfl) rfl rfl ?_
        refine dP (fun _ => false) (opp_mv (v := .int _ _) rfl rfl) rfl rfl ?_
        refine dR (fun n => !([] : List Nat).contains n) (opr_call rfl rfl ent52 rfl (c52 (Sp.round s t).2.2.2 _ (by omega) hS) (AViews.refl _ rfl)) rfl rfl rfl ?_ -- d=89 t=4
        refine dP (fun _ => false) (opp_not rfl rfl) rfl rfl ?_
        refine dP (fun _ => false) (opp_mv (v := .bool _) rfl rfl) rfl rfl ?_
        refine dG _ (fun _ => false) rfl rfl rfl rfl (fun hg => (And.intro gi (True.intro))) (fun hg => opp_mv (v := .bool _) rfl rfl) ?_
        refine dG _ (fun _ => false) rfl rfl rfl rfl (fun hg => (And.intro gi (True.intro))) (fun hg => opp_mv (v := .bool _) rfl rfl) ?_
        refine dG _ (fun _ => false) rfl rfl rfl rfl (fun hg => (And.intro gi (And.intro gi (True.intro)))) (fun hg => opp_boolEq rfl rfl rfl un4 (.inr ⟨rfl, rfl⟩)) ?_
        refine dPick (fun _ => false) rfl rfl rfl rfl (by exact True.intro) rfl rfl (fun hg => gi) (fun hg => gi) ?_
        refine dP (fun _ => false) (opp_mv (v := .bool _) rfl rfl) rfl rfl ?_
        first
          | refine dG _ (fun n => Nat.beq n 16) rfl rfl rfl rfl (fun hg => (And.intro gi (True.intro))) (fun hg => opp_loadP rfl rfl rfl rfl bi rfl ty45) ?_
          | refine dG _ (fun n => Nat.beq n 16) rfl rfl rfl rfl (fun hg => (And.intro gi (True.intro))) (fun hg => opp_loadF rfl rfl ty45) ?_
        refine dGR _ (fun n => !([] : List Nat).contains n) rfl rfl rfl rfl (fun hg => (And.intro gi (And.intro gi (True.intro)))) (fun hg => (opr_call rfl rfl ent37 rfl (c37 _ (Sp.round s t).1) (AViews.refl _ rfl))) ?_
        first
          | refine dG _ (fun n => Nat.beq n 5) rfl rfl rfl rfl (fun hg => (And.intro gi (True.intro))) (fun hg => opp_loadP rfl rfl rfl rfl bi rfl ty73) ?_
          | refine dG _ (fun n => Nat.beq n 5) rfl rfl rfl rfl (fun hg => (And.intro gi (True.intro))) (fun hg => opp_loadF rfl rfl ty73) ?_
        refine dGR _ (fun n => !([] : List Nat).contains n) rfl rfl rfl rfl (fun hg => (And.intro gi (And.intro gi (And.intro gi (True.intro))))) (fun hg => (opr_call rfl rfl ent35 rfl (c35 _ _ (Sp.round s t).1 (Sp.round s t).1 (by omega)) (AViews.refl _ rfl))) ?_
        refine dG _ (fun _ => false) rfl rfl rfl rfl (fun hg => (And.intro gi (True.intro))) (fun hg => opp_not rfl rfl) ?_
        refine dPick (fun _ => false) rfl rfl rfl rfl (by exact True.intro) rfl rfl (fun hg => gi) (fun hg => gi) ?_
        refine dP (fun _ => false) (opp_mv (v := .bool _) rfl rfl) rfl rfl ?_
        first
          | refine dG _ (fun _ => false) rfl rfl rfl rfl (fun hg => (And.intro gi (True.intro))) (fun hg => opp_mv (v := .sl _ _ _ _) rfl rfl) ?_
          | refine dG _ (fun _ => false) rfl rfl rfl rfl (fun hg => (And.intro gi (True.intro))) (fun hg => opp_mv (v := .osl _ _ _ _ _) rfl rfl) ?_
        first
          | refine dG _ (fun _ => false) rfl rfl rfl rfl (fun hg => (And.intro gi (True.intro))) (fun hg => opp_mv (v := .sl _ _ _ _) rfl rfl) ?_
          | refine dG _ (fun _ => false) rfl rfl rfl rfl (fun hg => (And.intro gi (True.intro))) (fun hg => opp_mv (v := .osl _ _ _ _ _) rfl rfl) ?_
        refine dGR _ (fun n => !([] : List Nat).contains n) rfl rfl rfl rfl (fun hg => (And.intro gi (And.intro gi (And.intro gi (True.intro))))) (fun hg => (opr_call rfl rfl ent57 rfl (c57 _ _ (Sp.round s t).2.1 (Sp.round s t).2.1 (by omega)) (AViews.refl _ rfl))) ?_
        refine dG _ (fun _ => false) rfl rfl rfl rfl (fun hg => (And.intro gi (True.intro))) (fun hg => opp_not rfl rfl) ?_
        refine dPick (fun _ => false) rfl rfl rfl rfl (by exact True.intro) rfl rfl (fun hg => gi) (fun hg => gi) ?_
        refine And.intro (by kernel_rfl) ?_
        refine awp_cond _ rfl (fun hc15 => ?_) (fun hc15 => ?_)
        · (try simp only [cmpI, errD_nil, Bool.not_eq_true', Bool.not_eq_false', decide_eq_true_eq, decide_eq_false_iff_not] at hc15); have ht108 := hc15
          exfalso; simp at ht108
        · (try simp only [cmpI, errD_nil, Bool.not_eq_true', Bool.not_eq_false', decide_eq_true_eq, decide_eq_false_iff_not] at hc15); have ht108 := hc15
          refine awp_skip ?_
          refine awp_seq ?_
          refine awp_draw hmix rfl (by kernel_rfl) ?_
          first
            | refine dP (fun _ => false) (opp_fieldP rfl rfl fld78_0 rfl) rfl rfl ?_
            | refine dP (fun _ => false) (opp_fieldF rfl rfl rfl fld78_0 rfl rfl) rfl rfl ?_
          first
            | refine dP (fun n => Nat.beq n 1) (opp_loadP rfl rfl rfl rfl bi rfl ty73) rfl rfl ?_
            | refine dP (fun n => Nat.beq n 1) (opp_loadF rfl rfl ty73) rfl rfl ?_
          refine dR (fun n => !([16] : List Nat).contains n) (opr_call rfl rfl ent30 rfl (c30 b s) (AViews.refl _ rfl)) rfl rfl rfl ?_ -- d=112 t=45
          first
            | refine dP (fun _ => false) (opp_fieldP rfl rfl fld78_2 rfl) rfl rfl ?_
            | refine dP (fun _ => false) (opp_fieldF rfl rfl rfl fld78_2 rfl rfl) rfl rfl ?_
          first
            | refine dP (fun n => Nat.beq n 1) (opp_loadP rfl rfl rfl rfl bi rfl ty26) rfl rfl ?_
            | refine dP (fun n => Nat.beq n 1) (opp_loadF rfl rfl ty26) rfl rfl ?_
          refine dR (fun n => !([16] : List Nat).contains n) (opr_call rfl rfl ent27 rfl (c27 b s n hb hS.hG2 hS.hG6 hS.hG3 hS.hG4 hS.hG8 hS.hG5) (AViews.refl _ rfl)) rfl rfl rfl ?_ -- d=115 t=68
          refine dP (fun _ => false) (opp_mv (v := .tup _) rfl rfl) rfl rfl ?_
          refine dP (fun _ => false) (opp_extract rfl rfl rfl) rfl rfl ?_
          refine dP (fun _ => false) (opp_extract rfl rfl rfl) rfl rfl ?_
          refine dP (fun _ => false) (opp_extract rfl rfl rfl) rfl rfl ?_
          refine dR0 (fun n => Nat.beq n 16) (opr_store (v := .agg _) (trn := (.agg _)) rfl rfl rfl rfl bi rfl rfl rfl rfl fr2 ty45 (fun _ _ h => h)) rfl rfl rfl ?_
          refine dP (fun _ => false) (opp_as (v := .bool _) rfl rfl) rfl rfl ?_
          refine dP (fun _ => false) (opp_as (v := .err _) rfl rfl) rfl rfl ?_
          refine And.intro (by kernel_rfl) ?_
          refine awp_seq ?_
          refine awp_seq ?_
          refine awp_draw hmix rfl (by kernel_rfl) ?_
          refine dP (fun _ => false) (opp_mv (v := .err _) rfl rfl) rfl rfl ?_
          refine dP (fun _ => false) (opp_mv (v := .int _ _) rfl rfl) rfl rfl ?_
          refine dR (fun n => !([] : List Nat).contains n) (opr_call rfl rfl ent52 rfl (c52 (Sp.ack s n).2.2 _ (by omega) hS) (AViews.refl _ rfl)) rfl rfl rfl ?_ -- d=121 t=4
          refine dP (fun _ => false) (opp_not rfl rfl) rfl rfl ?_
          refine dP (fun _ => false) (opp_mv (v := .bool _) rfl rfl) rfl rfl ?_
          refine dG _ (fun _ => false) rfl rfl rfl rfl (fun hg => (And.intro gi (True.intro))) (fun hg => opp_mv (v := .bool _) rfl rfl) ?_
          refine dG _ (fun _ => false) rfl rfl rfl rfl (fun hg => (And.intro gi (True.intro))) (fun hg => opp_mv (v := .bool _) rfl rfl) ?_
          refine dG _ (fun _ => false) rfl rfl rfl rfl (fun hg => (And.intro gi (And.intro gi (True.intro)))) (fun hg => opp_boolEq rfl rfl rfl un4 (.inr ⟨rfl, rfl⟩)) ?_
          refine dPick (fun _ => false) rfl rfl rfl rfl (by exact True.intro) rfl rfl (fun hg => gi) (fun hg => gi) ?_
          refine dP (fun _ => false) (opp_mv (v := .bool _) rfl rfl) rfl rfl ?_
          first
            | refine dG _ (fun n => Nat.beq n 16) rfl rfl rfl rfl (fun hg => (And.intro gi (True.intro))) (fun hg => opp_loadP rfl rfl rfl rfl bi rfl ty45) ?_
            | refine dG _ (fun n => Nat.beq n 16) rfl rfl rfl rfl (fun hg => (And.intro gi (True.intro))) (fun hg => opp_loadF rfl rfl ty45) ?_
          refine dGR _ (fun n => !([] : List Nat).contains n) rfl rfl rfl rfl (fun hg => (And.intro gi (And.intro gi (True.intro)))) (fun hg => (opr_call rfl rfl ent37 rfl (c37 _ (Sp.ack s n).1) (AViews.refl _ rfl))) ?_
          first
            | refine dG _ (fun n => Nat.beq n 9) rfl rfl rfl rfl (fun hg => (And.intro gi (True.intro))) (fun hg => opp_loadP rfl rfl rfl rfl bi rfl ty73) ?_
            | refine dG _ (fun n => Nat.beq n 9) rfl rfl rfl rfl (fun hg => (And.intro gi (True.intro))) (fun hg => opp_loadF rfl rfl ty73) ?_
          refine dGR _ (fun n => !([] : List Nat).contains n) rfl rfl rfl rfl (fun hg => (And.intro gi (And.intro gi (And.intro gi (True.intro))))) (fun hg => (opr_call rfl rfl ent35 rfl (c35 _ _ (Sp.ack s n).1 (Sp.ack s n).1 (by omega)) (AViews.refl _ rfl))) ?_
          refine dG _ (fun _ => false) rfl rfl rfl rfl (fun hg => (And.intro gi (True.intro))) (fun hg => opp_not rfl rfl) ?_
          refine dPick (fun _ => false) rfl rfl rfl rfl (by exact True.intro) rfl rfl (fun hg => gi) (fun hg => gi) ?_
          refine And.intro (by kernel_rfl) ?_
          refine awp_cond _ rfl (fun hc18 => ?_) (fun hc18 => ?_)
          · (try simp only [cmpI, errD_nil, Bool.not_eq_true', Bool.not_eq_false', decide_eq_true_eq, decide_eq_false_iff_not] at hc18); have ht134 := hc18
            exfalso; simp at ht134
          · (try simp only [cmpI, errD_nil, Bool.not_eq_true', Bool.not_eq_false', decide_eq_true_eq, decide_eq_false_iff_not] at hc18); have ht134 := hc18
            refine awp_skip ?_
            refine awp_seq ?_
            refine awp_region rfl ?_
            first
              | refine sP (opp_fieldP rfl rfl fld78_0 rfl) rfl rfl ?_
              | refine sP (opp_fieldF rfl rfl rfl fld78_0 rfl rfl) rfl rfl ?_
            first
              | refine sP (opp_loadP rfl rfl rfl rfl bi rfl ty73) rfl rfl ?_
              | refine sP (opp_loadF rfl rfl ty73) rfl rfl ?_
            refine sR (opr_call rfl rfl ent30 rfl (c30 b s) (AViews.refl _ rfl)) rfl rfl rfl ?_ -- d=138 t=45
            refine sR (opr_call rfl rfl ent28 rfl (c28 b s hS.hG2 hS.hG6 hS.hG3) (AViews.refl _ rfl)) rfl rfl rfl ?_ -- d=139 t=70
            refine sP (opp_mv (v := .tup _) rfl rfl) rfl rfl ?_
            refine sP (opp_extract rfl rfl rfl) rfl rfl ?_
            refine sP (opp_extract rfl rfl rfl) rfl rfl ?_
            refine sP (opp_as (v := .bool _) rfl rfl) rfl rfl ?_
            refine sP (opp_as (v := .err _) rfl rfl) rfl rfl ?_
            refine awp_seq ?_
            refine awp_region rfl ?_
            refine sP (opp_mv (v := .err _) rfl rfl) rfl rfl ?_
            refine sP (opp_mv (v := .int _ _) rfl rfl) rfl rfl ?_
            refine sR (opr_call rfl rfl ent52 rfl (c52 (Sp.arrived s).2 _ (by omega) hS) (AViews.refl _ rfl)) rfl rfl rfl ?_ -- d=144 t=4
            refine sP (opp_mv (v := .bool _) rfl rfl) rfl rfl ?_
            refine sG _ rfl rfl rfl rfl (fun hg => (And.intro gi (True.intro))) (fun hg => opp_mv (v := .bool _) rfl rfl) ?_
            refine sG _ rfl rfl rfl rfl (fun hg => (And.intro gi (True.intro))) (fun hg => opp_mv (v := .bool _) rfl rfl) ?_
            refine sG _ rfl rfl rfl rfl (fun hg => (And.intro gi (And.intro gi (True.intro)))) (fun hg => opp_boolEq rfl rfl rfl un4 (.inl ⟨rfl, rfl⟩)) ?_
            refine sPick rfl rfl rfl rfl (by exact True.intro) rfl rfl (fun hg => gi) (fun hg => gi) ?_
            refine sP (opp_as (v := .bool _) rfl rfl) rfl rfl ?_
            refine awp_ret ?_
            repeat (first | refine athen_ret ?_ | refine ain_ret ?_)
            first
              | refine apost_ret (aend1 (r0 := .bool _) (.tmp .nil) (.noN rfl rfl) ⟨Wk.v ?_, rfl, rfl⟩)
              | refine apost_ret (aend1s (r0 := .bool _) (.tmp .nil) shut rfl ⟨Wk.v ?_, rfl, rfl⟩)
            exact .of (by simp)
end
end Go.Proofs.YtgaihhimkodmmaaDoor

