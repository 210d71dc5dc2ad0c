/- The document's answers for layers 20 and 22: a note in form; boundaries, acknowledgements (walks over this dump). -/
import Derived.Test.YtgaihhimkodmmaaDoorKMx
import Derived.Test.YtgaihhimkodmmaaDoorKHx
namespace Go.Proofs.YtgaihhimkodmmaaDoor
attribute [local irreducible] Tryd.prog
open Go.Fy
set_option linter.unusedSimpArgs false
set_option linter.unusedVariables false
section
variable {ea : Nat → Addr} {cds : List Nat} {gl : Nat → Option AV}
theorem c116 (i t n : Int) : APure (V ea cds gl) 116 [.int .i64 i, .int .i64 t, .int .i64 n] false (.bool (Sp.goodLenW n i t)) := by
  refine acalls_of_body (N := 19) Tryd.func116 rfl rfl (Nat.le_of_ble_eq_true rfl) fun C hV hN hM hO => ?_
  obtain ⟨_, _, w0, G0, σ0, _, own0⟩ := C; dsimp only at hV hN hM hO; subst hV; subst hN; subst hM
  refine awp_seq ?_
  refine awp_region rfl ?_
  refine sP (opp_as (v := .bool _) rfl rfl) rfl rfl ?_
  refine awp_seq ?_
  refine awp_seq ?_
  refine awp_region rfl ?_
  refine sP (opp_mv (v := .int _ _) rfl rfl) rfl rfl ?_
  refine sP (opp_mv (v := .int _ _) rfl rfl) rfl rfl ?_
  first
    | refine sP (opp_arith rfl rfl rfl (.inr <| .inl ⟨rfl, w64 (by omega)⟩)) rfl rfl ?_
    | refine sP (opp_arith rfl rfl rfl (.inr <| .inl ⟨rfl, rfl⟩)) rfl rfl ?_
  refine sP (opp_cmp rfl rfl rfl rfl) rfl rfl ?_
  refine awp_cond _ rfl (fun hc3 => ?_) (fun hc3 => ?_)
  · (try simp only [cmpI, errD_nil, Bool.not_eq_true', Bool.not_eq_false', decide_eq_true_eq, decide_eq_false_iff_not] at hc3); have ht10 := hc3
    refine awp_seq ?_
    refine awp_region rfl ?_
    refine sP (opp_mv (v := .int _ _) rfl rfl) rfl rfl ?_
    refine sP (opp_cmp rfl rfl rfl rfl) rfl rfl ?_
    refine sP (opp_mv (v := .bool _) rfl rfl) rfl rfl ?_
    refine sG _ rfl rfl rfl rfl (fun hg => (And.intro gi (True.intro))) (fun hg => opp_mv (v := .int _ _) rfl rfl) ?_
    refine sG _ rfl rfl rfl rfl (fun hg => (And.intro gi (And.intro gi (True.intro)))) (fun hg => opp_cmp rfl rfl rfl rfl) ?_
    refine sPick rfl rfl rfl rfl (by exact True.intro) rfl rfl (fun hg => gi) (fun hg => gi) ?_
    refine sP (opp_as (v := .bool _) rfl rfl) rfl rfl ?_
    refine awp_ret ?_
    repeat (first | refine athen_ret ?_ | refine ain_ret ?_)
    first
      | refine apost_ret (aend1 (r0 := .bool _) (.tmp .nil) (.noN rfl rfl) ⟨Wk.v ?_, rfl, rfl⟩)
      | refine apost_ret (aend1s (r0 := .bool _) (.tmp .nil) shut rfl ⟨Wk.v ?_, rfl, rfl⟩)
    refine .of (congrArg AV.bool ?_)
    rw [Sp.goodLenW, if_pos (by simpa using ht10)]; simp only [cmpI, Sp.within]; by_cases h1 : 1 ≤ n <;> simp [h1]
  · (try simp only [cmpI, errD_nil, Bool.not_eq_true', Bool.not_eq_false', decide_eq_true_eq, decide_eq_false_iff_not] at hc3); have ht10 := hc3
    refine awp_skip ?_
    refine awp_seq ?_
    refine awp_region rfl ?_
    refine sP (opp_mv (v := .int _ _) rfl rfl) rfl rfl ?_
    refine sP (opp_cmp rfl rfl rfl rfl) rfl rfl ?_
    refine sP (opp_as (v := .bool _) rfl rfl) rfl rfl ?_
    refine awp_ret ?_
    repeat (first | refine athen_ret ?_ | refine ain_ret ?_)
    first
      | refine apost_ret (aend1 (r0 := .bool _) (.tmp .nil) (.noN rfl rfl) ⟨Wk.v ?_, rfl, rfl⟩)
      | refine apost_ret (aend1s (r0 := .bool _) (.tmp .nil) shut rfl ⟨Wk.v ?_, rfl, rfl⟩)
    refine .of (congrArg AV.bool ?_)
    rw [Sp.goodLenW, if_neg (by simpa using ht10)]; simp [cmpI]
/-- Is a note of a right kind in form? -/
def rangesB (n : Note) : Bool := Sp.goodPart n.part && Sp.goodXid n.xid && (decide (n.sum = 0) || decide (n.kind = 2)) && (if Sp.staged n.kind then Sp.goodStage n.stage else decide (n.stage = 0)) && Sp.pieces n
theorem check_ranges {n : Note} : Sp.check n = if Sp.within n.kind 1 7 = false then 7 else if rangesB n = false then 4 else 0 := by
  unfold Sp.check
  split
  · rfl
  · congr 1
    rw [eq_iff_iff]
    unfold rangesB
    cases Sp.goodPart n.part <;> cases Sp.goodXid n.xid <;> cases Sp.pieces n <;> by_cases h1 : n.sum = 0 <;> by_cases h2 : n.kind = 2 <;> simp [h1, h2]
theorem c72 (n : Note) : APure (V ea cds gl) 72 [noteAV n] false (.bool (rangesB n)) := by
  refine acalls_of_body (N := 122) Tryd.func72 rfl rfl (Nat.le_of_ble_eq_true rfl) fun C hV hN hM hO => ?_
  obtain ⟨_, _, w0, G0, σ0, _, own0⟩ := C; dsimp only at hV hN hM hO; subst hV; subst hN; subst hM
  refine awp_seq ?_
  refine awp_region rfl ?_
  refine sR (opr_box (y := .agg _) (n := 1) rfl rfl rfl) rfl rfl rfl ?_
  refine sP (opp_as (v := .bool _) rfl rfl) rfl rfl ?_
  refine awp_seq ?_
  refine awp_region rfl ?_
  first
    | refine sP (opp_fieldP rfl rfl fld26_0 rfl) rfl rfl ?_
    | refine sP (opp_fieldF rfl rfl rfl fld26_0 rfl rfl) rfl rfl ?_
  first
    | refine sP (opp_loadP rfl rfl rfl rfl bi rfl ty3) rfl rfl ?_
    | refine sP (opp_loadF rfl rfl ty3) rfl rfl ?_
  refine sP (opp_cmp rfl rfl rfl rfl) rfl rfl ?_
  refine sP (opp_mv (v := .bool _) rfl rfl) rfl rfl ?_
  first
    | refine sG _ rfl rfl rfl rfl (fun hg => (And.intro gi (True.intro))) (fun hg => opp_fieldP rfl rfl fld26_0 rfl) ?_
    | refine sG _ rfl rfl rfl rfl (fun hg => (And.intro gi (True.intro))) (fun hg => opp_fieldF rfl rfl rfl fld26_0 rfl rfl) ?_
  first
    | refine sG _ rfl rfl rfl rfl (fun hg => (And.intro gi (True.intro))) (fun hg => opp_loadP rfl rfl rfl rfl bi rfl ty3) ?_
    | refine sG _ rfl rfl rfl rfl (fun hg => (And.intro gi (True.intro))) (fun hg => opp_loadF rfl rfl ty3) ?_
  refine sG _ rfl rfl rfl rfl (fun hg => (And.intro gi (And.intro gi (True.intro)))) (fun hg => opp_cmp rfl rfl rfl rfl) ?_
  refine sPick rfl rfl rfl rfl (by exact True.intro) rfl rfl (fun hg => gi) (fun hg => gi) ?_
  refine sP (opp_mv (v := .bool _) rfl rfl) rfl rfl ?_
  first
    | refine sG _ rfl rfl rfl rfl (fun hg => (And.intro gi (True.intro))) (fun hg => opp_fieldP rfl rfl fld26_0 rfl) ?_
    | refine sG _ rfl rfl rfl rfl (fun hg => (And.intro gi (True.intro))) (fun hg => opp_fieldF rfl rfl rfl fld26_0 rfl rfl) ?_
  first
    | refine sG _ rfl rfl rfl rfl (fun hg => (And.intro gi (True.intro))) (fun hg => opp_loadP rfl rfl rfl rfl bi rfl ty3) ?_
    | refine sG _ rfl rfl rfl rfl (fun hg => (And.intro gi (True.intro))) (fun hg => opp_loadF rfl rfl ty3) ?_
  refine sG _ rfl rfl rfl rfl (fun hg => (And.intro gi (And.intro gi (True.intro)))) (fun hg => opp_cmp rfl rfl rfl rfl) ?_
  refine sPick rfl rfl rfl rfl (by exact True.intro) rfl rfl (fun hg => gi) (fun hg => gi) ?_
  refine sP (opp_mv (v := .bool _) rfl rfl) rfl rfl ?_
  first
    | refine sG _ rfl rfl rfl rfl (fun hg => (And.intro gi (True.intro))) (fun hg => opp_fieldP rfl rfl fld26_0 rfl) ?_
    | refine sG _ rfl rfl rfl rfl (fun hg => (And.intro gi (True.intro))) (fun hg => opp_fieldF rfl rfl rfl fld26_0 rfl rfl) ?_
  first
    | refine sG _ rfl rfl rfl rfl (fun hg => (And.intro gi (True.intro))) (fun hg => opp_loadP rfl rfl rfl rfl bi rfl ty3) ?_
    | refine sG _ rfl rfl rfl rfl (fun hg => (And.intro gi (True.intro))) (fun hg => opp_loadF rfl rfl ty3) ?_
  refine sG _ rfl rfl rfl rfl (fun hg => (And.intro gi (And.intro gi (True.intro)))) (fun hg => opp_cmp rfl rfl rfl rfl) ?_
  refine sPick rfl rfl rfl rfl (by exact True.intro) rfl rfl (fun hg => gi) (fun hg => gi) ?_
  refine sP (opp_as (v := .bool _) rfl rfl) rfl rfl ?_
  refine awp_seq ?_
  refine awp_region rfl ?_
  first
    | refine sP (opp_fieldP rfl rfl fld26_0 rfl) rfl rfl ?_
    | refine sP (opp_fieldF rfl rfl rfl fld26_0 rfl rfl) rfl rfl ?_
  first
    | refine sP (opp_loadP rfl rfl rfl rfl bi rfl ty3) rfl rfl ?_
    | refine sP (opp_loadF rfl rfl ty3) rfl rfl ?_
  refine sP (opp_cmp rfl rfl rfl rfl) rfl rfl ?_
  refine sP (opp_mv (v := .bool _) rfl rfl) rfl rfl ?_
  first
    | refine sG _ rfl rfl rfl rfl (fun hg => (And.intro gi (True.intro))) (fun hg => opp_fieldP rfl rfl fld26_0 rfl) ?_
    | refine sG _ rfl rfl rfl rfl (fun hg => (And.intro gi (True.intro))) (fun hg => opp_fieldF rfl rfl rfl fld26_0 rfl rfl) ?_
  first
    | refine sG _ rfl rfl rfl rfl (fun hg => (And.intro gi (True.intro))) (fun hg => opp_loadP rfl rfl rfl rfl bi rfl ty3) ?_
    | refine sG _ rfl rfl rfl rfl (fun hg => (And.intro gi (True.intro))) (fun hg => opp_loadF rfl rfl ty3) ?_
  refine sG _ rfl rfl rfl rfl (fun hg => (And.intro gi (And.intro gi (True.intro)))) (fun hg => opp_cmp rfl rfl rfl rfl) ?_
  refine sPick rfl rfl rfl rfl (by exact True.intro) rfl rfl (fun hg => gi) (fun hg => gi) ?_
  refine sP (opp_as (v := .bool _) rfl rfl) rfl rfl ?_
  refine awp_seq ?_
  refine awp_seq ?_
  refine awp_region rfl ?_
  first
    | refine sP (opp_fieldP rfl rfl fld26_1 rfl) rfl rfl ?_
    | refine sP (opp_fieldF rfl rfl rfl fld26_1 rfl rfl) rfl rfl ?_
  first
    | refine sP (opp_loadP rfl rfl rfl rfl bi rfl ty3) rfl rfl ?_
    | refine sP (opp_loadF rfl rfl ty3) rfl rfl ?_
  refine sR (opr_call rfl rfl ent104 rfl (c104 _) (AViews.refl _ rfl)) rfl rfl rfl ?_ -- d=33 t=4
  refine sP (opp_not rfl rfl) rfl rfl ?_
  refine sP (opp_mv (v := .bool _) rfl rfl) rfl rfl ?_
  first
    | refine sG _ rfl rfl rfl rfl (fun hg => (And.intro gi (True.intro))) (fun hg => opp_fieldP rfl rfl fld26_2 rfl) ?_
    | refine sG _ rfl rfl rfl rfl (fun hg => (And.intro gi (True.intro))) (fun hg => opp_fieldF rfl rfl rfl fld26_2 rfl rfl) ?_
  first
    | refine sG _ rfl rfl rfl rfl (fun hg => (And.intro gi (True.intro))) (fun hg => opp_loadP rfl rfl rfl rfl bi rfl ty23) ?_
    | refine sG _ rfl rfl rfl rfl (fun hg => (And.intro gi (True.intro))) (fun hg => opp_loadF rfl rfl ty23) ?_
  refine sGR _ rfl rfl rfl rfl (fun hg => (And.intro gi (And.intro gi (True.intro)))) (fun hg => (opr_call rfl rfl ent105 rfl (c105 _) (AViews.refl _ rfl))) ?_
  refine sG _ rfl rfl rfl rfl (fun hg => (And.intro gi (True.intro))) (fun hg => opp_not rfl rfl) ?_
  refine sPick rfl rfl rfl rfl (by exact True.intro) rfl rfl (fun hg => gi) (fun hg => gi) ?_
  refine sP (opp_mv (v := .bool _) rfl rfl) rfl rfl ?_
  first
    | refine sG _ rfl rfl rfl rfl (fun hg => (And.intro gi (True.intro))) (fun hg => opp_fieldP rfl rfl fld26_6 rfl) ?_
    | refine sG _ rfl rfl rfl rfl (fun hg => (And.intro gi (True.intro))) (fun hg => opp_fieldF rfl rfl rfl fld26_6 rfl rfl) ?_
  first
    | refine sG _ rfl rfl rfl rfl (fun hg => (And.intro gi (True.intro))) (fun hg => opp_loadP rfl rfl rfl rfl bi rfl ty24) ?_
    | refine sG _ rfl rfl rfl rfl (fun hg => (And.intro gi (True.intro))) (fun hg => opp_loadF rfl rfl ty24) ?_
  refine sG _ rfl rfl rfl rfl (fun hg => (And.intro gi (And.intro gi (True.intro)))) (fun hg => opp_cmp rfl rfl rfl rfl) ?_
  refine sG _ rfl rfl rfl rfl (fun hg => (And.intro gi (True.intro))) (fun hg => opp_mv (v := .bool _) rfl rfl) ?_
  first
    | refine sG _ rfl rfl rfl rfl (fun hg => (And.intro gi (True.intro))) (fun hg => opp_fieldP rfl rfl fld26_0 rfl) ?_
    | refine sG _ rfl rfl rfl rfl (fun hg => (And.intro gi (True.intro))) (fun hg => opp_fieldF rfl rfl rfl fld26_0 rfl rfl) ?_
  first
    | refine sG _ rfl rfl rfl rfl (fun hg => (And.intro gi (True.intro))) (fun hg => opp_loadP rfl rfl rfl rfl bi rfl ty3) ?_
    | refine sG _ rfl rfl rfl rfl (fun hg => (And.intro gi (True.intro))) (fun hg => opp_loadF rfl rfl ty3) ?_
  refine sG _ rfl rfl rfl rfl (fun hg => (And.intro gi (And.intro gi (True.intro)))) (fun hg => opp_cmp rfl rfl rfl rfl) ?_
  refine sPickG _ rfl rfl rfl rfl rfl rfl (fun hg => by first | exact True.intro | exact And.intro hg True.intro | (refine And.intro ?_ True.intro; simp_all; done)) rfl rfl (fun h0 hg => g2) (fun h0 hg => g2) ?_
  refine sPick rfl rfl rfl rfl (by exact True.intro) rfl rfl (fun hg => gi) (fun hg => gi) ?_
  refine awp_cond _ rfl (fun hc5 => ?_) (fun hc5 => ?_)
  · (try simp only [cmpI, errD_nil, Bool.not_eq_true', Bool.not_eq_false', decide_eq_true_eq, decide_eq_false_iff_not] at hc5); have ht50 := hc5
    refine awp_seq ?_
    refine awp_region rfl ?_
    refine sP (opp_as (v := .bool _) rfl rfl) rfl rfl ?_
    refine awp_ret ?_
    repeat (first | refine athen_ret ?_ | refine ain_ret ?_)
    first
      | refine apost_ret (aend1 (r0 := .bool _) (.tmp .nil) (.noN rfl rfl) ⟨Wk.v ?_, rfl, rfl⟩)
      | refine apost_ret (aend1s (r0 := .bool _) (.tmp .nil) shut rfl ⟨Wk.v ?_, rfl, rfl⟩)
    refine .of (congrArg AV.bool ?_)
    symm; unfold rangesB; revert ht50; cases Sp.goodPart n.part <;> cases Sp.goodXid n.xid <;> by_cases h1 : n.sum = 0 <;> by_cases h2 : n.kind = 2 <;> simp [cmpI, h1, h2]
  · (try simp only [cmpI, errD_nil, Bool.not_eq_true', Bool.not_eq_false', decide_eq_true_eq, decide_eq_false_iff_not] at hc5); have ht50 := hc5
    refine awp_skip ?_
    refine awp_seq ?_
    refine awp_seq ?_
    have hA : Sp.goodPart n.part = true ∧ Sp.goodXid n.xid = true ∧ (decide (n.sum = 0) || decide (n.kind = 2)) = true := by
      revert ht50; cases Sp.goodPart n.part <;> cases Sp.goodXid n.xid <;> by_cases h1 : n.sum = 0 <;> by_cases h2 : n.kind = 2 <;> simp [cmpI, h1, h2]
    refine awp_region rfl ?_
    refine sP (opp_mv (v := .bool _) rfl rfl) rfl rfl ?_
    refine sP (opp_mv (v := .bool _) rfl rfl) rfl rfl ?_
    first
      | refine sG _ rfl rfl rfl rfl (fun hg => (And.intro gi (True.intro))) (fun hg => opp_fieldP rfl rfl fld26_3 rfl) ?_
      | refine sG _ rfl rfl rfl rfl (fun hg => (And.intro gi (True.intro))) (fun hg => opp_fieldF rfl rfl rfl fld26_3 rfl rfl) ?_
    first
      | refine sG _ rfl rfl rfl rfl (fun hg => (And.intro gi (True.intro))) (fun hg => opp_loadP rfl rfl rfl rfl bi rfl ty3) ?_
      | refine sG _ rfl rfl rfl rfl (fun hg => (And.intro gi (True.intro))) (fun hg => opp_loadF rfl rfl ty3) ?_
    refine sG _ rfl rfl rfl rfl (fun hg => (And.intro gi (And.intro gi (True.intro)))) (fun hg => opp_cmp rfl rfl rfl rfl) ?_
    refine sPick rfl rfl rfl rfl (by exact True.intro) rfl rfl (fun hg => gi) (fun hg => gi) ?_
    refine sP (opp_mv (v := .bool _) rfl rfl) rfl rfl ?_
    first
      | refine sG _ rfl rfl rfl rfl (fun hg => (And.intro gi (True.intro))) (fun hg => opp_fieldP rfl rfl fld26_3 rfl) ?_
      | refine sG _ rfl rfl rfl rfl (fun hg => (And.intro gi (True.intro))) (fun hg => opp_fieldF rfl rfl rfl fld26_3 rfl rfl) ?_
    first
      | refine sG _ rfl rfl rfl rfl (fun hg => (And.intro gi (True.intro))) (fun hg => opp_loadP rfl rfl rfl rfl bi rfl ty3) ?_
      | refine sG _ rfl rfl rfl rfl (fun hg => (And.intro gi (True.intro))) (fun hg => opp_loadF rfl rfl ty3) ?_
    refine sG _ rfl rfl rfl rfl (fun hg => (And.intro gi (And.intro gi (True.intro)))) (fun hg => opp_cmp rfl rfl rfl rfl) ?_
    refine sPick rfl rfl rfl rfl (by exact True.intro) rfl rfl (fun hg => gi) (fun hg => gi) ?_
    refine sP (opp_mv (v := .bool _) rfl rfl) rfl rfl ?_
    refine sG _ rfl rfl rfl rfl (fun hg => (And.intro gi (True.intro))) (fun hg => opp_mv (v := .bool _) rfl rfl) ?_
    refine sG _ rfl rfl rfl rfl (fun hg => (And.intro gi (True.intro))) (fun hg => opp_not rfl rfl) ?_
    refine sG _ rfl rfl rfl rfl (fun hg => (And.intro gi (True.intro))) (fun hg => opp_mv (v := .bool _) rfl rfl) ?_
    first
      | refine sG _ rfl rfl rfl rfl (fun hg => (And.intro gi (True.intro))) (fun hg => opp_fieldP rfl rfl fld26_3 rfl) ?_
      | refine sG _ rfl rfl rfl rfl (fun hg => (And.intro gi (True.intro))) (fun hg => opp_fieldF rfl rfl rfl fld26_3 rfl rfl) ?_
    first
      | refine sG _ rfl rfl rfl rfl (fun hg => (And.intro gi (True.intro))) (fun hg => opp_loadP rfl rfl rfl rfl bi rfl ty3) ?_
      | refine sG _ rfl rfl rfl rfl (fun hg => (And.intro gi (True.intro))) (fun hg => opp_loadF rfl rfl ty3) ?_
    refine sG _ rfl rfl rfl rfl (fun hg => (And.intro gi (And.intro gi (True.intro)))) (fun hg => opp_cmp rfl rfl rfl rfl) ?_
    refine sPickG _ rfl rfl rfl rfl rfl rfl (fun hg => by first | exact True.intro | exact And.intro hg True.intro | (refine And.intro ?_ True.intro; simp_all; done)) rfl rfl (fun h0 hg => g2) (fun h0 hg => g2) ?_
    refine sPick rfl rfl rfl rfl (by exact True.intro) rfl rfl (fun hg => gi) (fun hg => gi) ?_
    refine awp_cond _ rfl (fun hc8 => ?_) (fun hc8 => ?_)
    · (try simp only [cmpI, errD_nil, Bool.not_eq_true', Bool.not_eq_false', decide_eq_true_eq, decide_eq_false_iff_not] at hc8); have ht70 := hc8
      refine awp_seq ?_
      refine awp_region rfl ?_
      refine sP (opp_as (v := .bool _) rfl rfl) rfl rfl ?_
      refine awp_ret ?_
      repeat (first | refine athen_ret ?_ | refine ain_ret ?_)
      first
        | refine apost_ret (aend1 (r0 := .bool _) (.tmp .nil) (.noN rfl rfl) ⟨Wk.v ?_, rfl, rfl⟩)
        | refine apost_ret (aend1s (r0 := .bool _) (.tmp .nil) shut rfl ⟨Wk.v ?_, rfl, rfl⟩)
      refine .of (congrArg AV.bool ?_)
      have hB : (if Sp.staged n.kind then Sp.goodStage n.stage else decide (n.stage = 0)) = false := by
        revert ht70; unfold Sp.staged Sp.goodStage; by_cases h1 : n.kind = 1 <;> by_cases h2 : n.kind = 7 <;> by_cases h3 : n.kind = 2 <;> by_cases h4 : n.kind = 3 <;> by_cases h5 : n.stage = 1 <;> by_cases h6 : n.stage = 2 <;> by_cases h7 : n.stage = 0 <;> simp [cmpI, h1, h2, h3, h4, h5, h6, h7] <;> omega
      symm; unfold rangesB; rw [hB]; simp
    · (try simp only [cmpI, errD_nil, Bool.not_eq_true', Bool.not_eq_false', decide_eq_true_eq, decide_eq_false_iff_not] at hc8); have ht70 := hc8
      refine awp_skip ?_
      refine awp_seq ?_
      refine awp_seq ?_
      have hB : (if Sp.staged n.kind then Sp.goodStage n.stage else decide (n.stage = 0)) = true := by
        revert ht70; unfold Sp.staged Sp.goodStage; by_cases h1 : n.kind = 1 <;> by_cases h2 : n.kind = 7 <;> by_cases h3 : n.kind = 2 <;> by_cases h4 : n.kind = 3 <;> by_cases h5 : n.stage = 1 <;> by_cases h6 : n.stage = 2 <;> by_cases h7 : n.stage = 0 <;> simp [cmpI, h1, h2, h3, h4, h5, h6, h7] <;> omega
      refine awp_region rfl ?_
      refine sP (opp_mv (v := .bool _) rfl rfl) rfl rfl ?_
      refine sP (opp_mv (v := .bool _) rfl rfl) rfl rfl ?_
      first
        | refine sG _ rfl rfl rfl rfl (fun hg => (And.intro gi (True.intro))) (fun hg => opp_fieldP rfl rfl fld26_5 rfl) ?_
        | refine sG _ rfl rfl rfl rfl (fun hg => (And.intro gi (True.intro))) (fun hg => opp_fieldF rfl rfl rfl fld26_5 rfl rfl) ?_
      first
        | refine sG _ rfl rfl rfl rfl (fun hg => (And.intro gi (True.intro))) (fun hg => opp_loadP rfl rfl rfl rfl bi rfl ty3) ?_
        | refine sG _ rfl rfl rfl rfl (fun hg => (And.intro gi (True.intro))) (fun hg => opp_loadF rfl rfl ty3) ?_
      refine sG _ rfl rfl rfl rfl (fun hg => (And.intro gi (And.intro gi (True.intro)))) (fun hg => opp_cmp rfl rfl rfl rfl) ?_
      refine sG _ rfl rfl rfl rfl (fun hg => (And.intro gi (True.intro))) (fun hg => opp_mv (v := .bool _) rfl rfl) ?_
      first
        | refine sG _ rfl rfl rfl rfl (fun hg => (And.intro gi (True.intro))) (fun hg => opp_fieldP rfl rfl fld26_5 rfl) ?_
        | refine sG _ rfl rfl rfl rfl (fun hg => (And.intro gi (True.intro))) (fun hg => opp_fieldF rfl rfl rfl fld26_5 rfl rfl) ?_
      first
        | refine sG _ rfl rfl rfl rfl (fun hg => (And.intro gi (True.intro))) (fun hg => opp_loadP rfl rfl rfl rfl bi rfl ty3) ?_
        | refine sG _ rfl rfl rfl rfl (fun hg => (And.intro gi (True.intro))) (fun hg => opp_loadF rfl rfl ty3) ?_
      refine sG _ rfl rfl rfl rfl (fun hg => (And.intro gi (And.intro gi (True.intro)))) (fun hg => opp_cmp rfl rfl rfl rfl) ?_
      refine sPickG _ rfl rfl rfl rfl rfl rfl (fun hg => by first | exact True.intro | exact And.intro hg True.intro | (refine And.intro ?_ True.intro; simp_all; done)) rfl rfl (fun h0 hg => g2) (fun h0 hg => g2) ?_
      refine sG _ rfl rfl rfl rfl (fun hg => (And.intro gi (True.intro))) (fun hg => opp_mv (v := .bool _) rfl rfl) ?_
      first
        | refine sG _ rfl rfl rfl rfl (fun hg => (And.intro gi (True.intro))) (fun hg => opp_fieldP rfl rfl fld26_4 rfl) ?_
        | refine sG _ rfl rfl rfl rfl (fun hg => (And.intro gi (True.intro))) (fun hg => opp_fieldF rfl rfl rfl fld26_4 rfl rfl) ?_
      first
        | refine sG _ rfl rfl rfl rfl (fun hg => (And.intro gi (True.intro))) (fun hg => opp_loadP rfl rfl rfl rfl bi rfl ty3) ?_
        | refine sG _ rfl rfl rfl rfl (fun hg => (And.intro gi (True.intro))) (fun hg => opp_loadF rfl rfl ty3) ?_
      refine sG _ rfl rfl rfl rfl (fun hg => (And.intro gi (And.intro gi (True.intro)))) (fun hg => opp_cmp rfl rfl rfl rfl) ?_
      refine sPickG _ rfl rfl rfl rfl rfl rfl (fun hg => by first | exact True.intro | exact And.intro hg True.intro | (refine And.intro ?_ True.intro; simp_all; done)) rfl rfl (fun h0 hg => g2) (fun h0 hg => g2) ?_
      refine sG _ rfl rfl rfl rfl (fun hg => (And.intro gi (True.intro))) (fun hg => opp_mv (v := .bool _) rfl rfl) ?_
      first
        | refine sG _ rfl rfl rfl rfl (fun hg => (And.intro gi (True.intro))) (fun hg => opp_fieldP rfl rfl fld26_4 rfl) ?_
        | refine sG _ rfl rfl rfl rfl (fun hg => (And.intro gi (True.intro))) (fun hg => opp_fieldF rfl rfl rfl fld26_4 rfl rfl) ?_
      first
        | refine sG _ rfl rfl rfl rfl (fun hg => (And.intro gi (True.intro))) (fun hg => opp_loadP rfl rfl rfl rfl bi rfl ty3) ?_
        | refine sG _ rfl rfl rfl rfl (fun hg => (And.intro gi (True.intro))) (fun hg => opp_loadF rfl rfl ty3) ?_
      first
        | refine sG _ rfl rfl rfl rfl (fun hg => (And.intro gi (True.intro))) (fun hg => opp_fieldP rfl rfl fld26_5 rfl) ?_
        | refine sG _ rfl rfl rfl rfl (fun hg => (And.intro gi (True.intro))) (fun hg => opp_fieldF rfl rfl rfl fld26_5 rfl rfl) ?_
      first
        | refine sG _ rfl rfl rfl rfl (fun hg => (And.intro gi (True.intro))) (fun hg => opp_loadP rfl rfl rfl rfl bi rfl ty3) ?_
        | refine sG _ rfl rfl rfl rfl (fun hg => (And.intro gi (True.intro))) (fun hg => opp_loadF rfl rfl ty3) ?_
      refine sG _ rfl rfl rfl rfl (fun hg => (And.intro gi (And.intro gi (True.intro)))) (fun hg => opp_cmp rfl rfl rfl rfl) ?_
      refine sPickG _ rfl rfl rfl rfl rfl rfl (fun hg => by first | exact True.intro | exact And.intro hg True.intro | (refine And.intro ?_ True.intro; simp_all; done)) rfl rfl (fun h0 hg => g2) (fun h0 hg => g2) ?_
      refine sPick rfl rfl rfl rfl (by exact True.intro) rfl rfl (fun hg => gi) (fun hg => gi) ?_
      refine sP (opp_mv (v := .bool _) rfl rfl) rfl rfl ?_
      refine sG _ rfl rfl rfl rfl (fun hg => (And.intro gi (True.intro))) (fun hg => opp_mv (v := .bool _) rfl rfl) ?_
      refine sG _ rfl rfl rfl rfl (fun hg => (And.intro gi (True.intro))) (fun hg => opp_not rfl rfl) ?_
      refine sG _ rfl rfl rfl rfl (fun hg => (And.intro gi (True.intro))) (fun hg => opp_mv (v := .bool _) rfl rfl) ?_
      first
        | refine sG _ rfl rfl rfl rfl (fun hg => (And.intro gi (True.intro))) (fun hg => opp_fieldP rfl rfl fld26_5 rfl) ?_
        | refine sG _ rfl rfl rfl rfl (fun hg => (And.intro gi (True.intro))) (fun hg => opp_fieldF rfl rfl rfl fld26_5 rfl rfl) ?_
      first
        | refine sG _ rfl rfl rfl rfl (fun hg => (And.intro gi (True.intro))) (fun hg => opp_loadP rfl rfl rfl rfl bi rfl ty3) ?_
        | refine sG _ rfl rfl rfl rfl (fun hg => (And.intro gi (True.intro))) (fun hg => opp_loadF rfl rfl ty3) ?_
      refine sG _ rfl rfl rfl rfl (fun hg => (And.intro gi (And.intro gi (True.intro)))) (fun hg => opp_cmp rfl rfl rfl rfl) ?_
      refine sG _ rfl rfl rfl rfl (fun hg => (And.intro gi (True.intro))) (fun hg => opp_mv (v := .bool _) rfl rfl) ?_
      first
        | refine sG _ rfl rfl rfl rfl (fun hg => (And.intro gi (True.intro))) (fun hg => opp_fieldP rfl rfl fld26_4 rfl) ?_
        | refine sG _ rfl rfl rfl rfl (fun hg => (And.intro gi (True.intro))) (fun hg => opp_fieldF rfl rfl rfl fld26_4 rfl rfl) ?_
      first
        | refine sG _ rfl rfl rfl rfl (fun hg => (And.intro gi (True.intro))) (fun hg => opp_loadP rfl rfl rfl rfl bi rfl ty3) ?_
        | refine sG _ rfl rfl rfl rfl (fun hg => (And.intro gi (True.intro))) (fun hg => opp_loadF rfl rfl ty3) ?_
      refine sG _ rfl rfl rfl rfl (fun hg => (And.intro gi (And.intro gi (True.intro)))) (fun hg => opp_cmp rfl rfl rfl rfl) ?_
      refine sPickG _ rfl rfl rfl rfl rfl rfl (fun hg => by first | exact True.intro | exact And.intro hg True.intro | (refine And.intro ?_ True.intro; simp_all; done)) rfl rfl (fun h0 hg => g2) (fun h0 hg => g2) ?_
      refine sPickG _ rfl rfl rfl rfl rfl rfl (fun hg => by first | exact True.intro | exact And.intro hg True.intro | (refine And.intro ?_ True.intro; simp_all; done)) rfl rfl (fun h0 hg => g2) (fun h0 hg => g2) ?_
      refine sPick rfl rfl rfl rfl (by exact True.intro) rfl rfl (fun hg => gi) (fun hg => gi) ?_
      refine awp_cond _ rfl (fun hc11 => ?_) (fun hc11 => ?_)
      · (try simp only [cmpI, errD_nil, Bool.not_eq_true', Bool.not_eq_false', decide_eq_true_eq, decide_eq_false_iff_not] at hc11); have ht107 := hc11
        refine awp_seq ?_
        refine awp_region rfl ?_
        refine sP (opp_as (v := .bool _) rfl rfl) rfl rfl ?_
        refine awp_ret ?_
        repeat (first | refine athen_ret ?_ | refine ain_ret ?_)
        first
          | refine apost_ret (aend1 (r0 := .bool _) (.tmp .nil) (.noN rfl rfl) ⟨Wk.v ?_, rfl, rfl⟩)
          | refine apost_ret (aend1s (r0 := .bool _) (.tmp .nil) shut rfl ⟨Wk.v ?_, rfl, rfl⟩)
        refine .of (congrArg AV.bool ?_)
        have hC : Sp.pieces n = false := by
          revert ht107; unfold Sp.pieces Sp.within
          by_cases h1 : n.kind = 1
          · by_cases h5 : n.total < 1 <;> by_cases h6 : 32 < n.total <;> by_cases h7 : n.index < 0 <;> by_cases h8 : n.total ≤ n.index <;> simp [cmpI, h1, h5, h6, h7, h8] <;> omega
          · by_cases h2 : n.kind = 7
            · by_cases h5 : n.total < 1 <;> by_cases h6 : 32 < n.total <;> by_cases h7 : n.index < 0 <;> by_cases h8 : n.total ≤ n.index <;> simp [cmpI, h1, h2, h5, h6, h7, h8] <;> omega
            · by_cases h5 : n.total = 0 <;> by_cases h6 : n.index = 0 <;> simp [cmpI, h1, h2, h5, h6]
        symm; unfold rangesB; rw [hC]; simp
      · (try simp only [cmpI, errD_nil, Bool.not_eq_true', Bool.not_eq_false', decide_eq_true_eq, decide_eq_false_iff_not] at hc11); have ht107 := hc11
        refine awp_skip ?_
        refine awp_seq ?_
        refine awp_seq ?_
        have hC : if n.kind = 1 ∨ n.kind = 7 then 1 ≤ n.total ∧ n.total ≤ 32 ∧ 0 ≤ n.index ∧ n.index < n.total else n.total = 0 ∧ n.index = 0 := by
          revert ht107
          by_cases h1 : n.kind = 1
          · by_cases h5 : n.total < 1 <;> by_cases h6 : 32 < n.total <;> by_cases h7 : n.index < 0 <;> by_cases h8 : n.total ≤ n.index <;> simp [cmpI, h1, h5, h6, h7, h8] <;> omega
          · by_cases h2 : n.kind = 7
            · by_cases h5 : n.total < 1 <;> by_cases h6 : 32 < n.total <;> by_cases h7 : n.index < 0 <;> by_cases h8 : n.total ≤ n.index <;> simp [cmpI, h1, h2, h5, h6, h7, h8] <;> omega
            · by_cases h5 : n.total = 0 <;> by_cases h6 : n.index = 0 <;> simp [cmpI, h1, h2, h5, h6]
        refine awp_region rfl ?_
        first
          | refine sP (opp_fieldP rfl rfl fld26_0 rfl) rfl rfl ?_
          | refine sP (opp_fieldF rfl rfl rfl fld26_0 rfl rfl) rfl rfl ?_
        first
          | refine sP (opp_loadP rfl rfl rfl rfl bi rfl ty3) rfl rfl ?_
          | refine sP (opp_loadF rfl rfl ty3) rfl rfl ?_
        refine sP (opp_cmp rfl rfl rfl rfl) rfl rfl ?_
        refine awp_cond _ rfl (fun hc14 => ?_) (fun hc14 => ?_)
        · (try simp only [cmpI, errD_nil, Bool.not_eq_true', Bool.not_eq_false', decide_eq_true_eq, decide_eq_false_iff_not] at hc14); have ht110 := hc14
          refine awp_seq ?_
          refine awp_region rfl ?_
          first
            | refine sP (opp_fieldP rfl rfl fld26_4 rfl) rfl rfl ?_
            | refine sP (opp_fieldF rfl rfl rfl fld26_4 rfl rfl) rfl rfl ?_
          first
            | refine sP (opp_loadP rfl rfl rfl rfl bi rfl ty3) rfl rfl ?_
            | refine sP (opp_loadF rfl rfl ty3) rfl rfl ?_
          first
            | refine sP (opp_fieldP rfl rfl fld26_5 rfl) rfl rfl ?_
            | refine sP (opp_fieldF rfl rfl rfl fld26_5 rfl rfl) rfl rfl ?_
          first
            | refine sP (opp_loadP rfl rfl rfl rfl bi rfl ty3) rfl rfl ?_
            | refine sP (opp_loadF rfl rfl ty3) rfl rfl ?_
          first
            | refine sP (opp_fieldP rfl rfl fld26_7 rfl) rfl rfl ?_
            | refine sP (opp_fieldF rfl rfl rfl fld26_7 rfl rfl) rfl rfl ?_
          first
            | refine sP (opp_loadP rfl rfl rfl rfl bi rfl ty9) rfl rfl ?_
            | refine sP (opp_loadF rfl rfl ty9) rfl rfl ?_
          refine sP (opp_lenStr rfl rfl un9) rfl rfl ?_
          refine sR (opr_call rfl rfl ent116 rfl (c116 _ _ _) (AViews.refl _ rfl)) rfl rfl rfl ?_ -- d=118 t=4
          refine sP (opp_as (v := .bool _) rfl rfl) rfl rfl ?_
          refine awp_ret ?_
          repeat (first | refine athen_ret ?_ | refine ain_ret ?_)
          first
            | refine apost_ret (aend1 (r0 := .bool _) (.tmp .nil) (.noN rfl rfl) ⟨Wk.v ?_, rfl, rfl⟩)
            | refine apost_ret (aend1s (r0 := .bool _) (.tmp .nil) shut rfl ⟨Wk.v ?_, rfl, rfl⟩)
          refine .of (congrArg AV.bool ?_)
          have hk : n.kind = 1 := by simpa using ht110
          rw [if_pos (.inl hk)] at hC
          symm; unfold rangesB; rw [hA.1, hA.2.1, hA.2.2, hB, Sp.pieces, if_pos hk]
          have hw : Sp.goodLenW n.data.length n.index n.total = Sp.goodLen n.data.length n.index n.total := by unfold Sp.goodLenW Sp.goodLen; rw [w64 (by omega)]
          rw [hw]; simp [Sp.within, hC.1, hC.2.1, hC.2.2.1]; intro; omega
        · (try simp only [cmpI, errD_nil, Bool.not_eq_true', Bool.not_eq_false', decide_eq_true_eq, decide_eq_false_iff_not] at hc14); have ht110 := hc14
          refine awp_skip ?_
          refine awp_seq ?_
          refine awp_region rfl ?_
          first
            | refine sP (opp_fieldP rfl rfl fld26_7 rfl) rfl rfl ?_
            | refine sP (opp_fieldF rfl rfl rfl fld26_7 rfl rfl) rfl rfl ?_
          first
            | refine sP (opp_loadP rfl rfl rfl rfl bi rfl ty9) rfl rfl ?_
            | refine sP (opp_loadF rfl rfl ty9) rfl rfl ?_
          refine sP (opp_strEq (b := []) rfl rfl rfl (.inl ⟨rfl, rfl⟩)) rfl rfl ?_
          refine sP (opp_as (v := .bool _) rfl rfl) rfl rfl ?_
          refine awp_ret ?_
          repeat (first | refine athen_ret ?_ | refine ain_ret ?_)
          first
            | refine apost_ret (aend1 (r0 := .bool _) (.tmp .nil) (.noN rfl rfl) ⟨Wk.v ?_, rfl, rfl⟩)
            | refine apost_ret (aend1s (r0 := .bool _) (.tmp .nil) shut rfl ⟨Wk.v ?_, rfl, rfl⟩)
          refine .of (congrArg AV.bool ?_)
          have hk : ¬ n.kind = 1 := by simpa using ht110
          symm; unfold rangesB; rw [hA.1, hA.2.1, hA.2.2, hB, Sp.pieces, if_neg hk]
          by_cases h2 : n.kind = 7
          · rw [if_pos (.inr h2)] at hC; rw [if_pos h2]; simp [Sp.within, hC.1, hC.2.1, hC.2.2.1, cmpI]; intro; omega
          · rw [if_neg (by omega)] at hC; rw [if_neg h2]; simp [hC.1, hC.2, cmpI]
theorem c16 (n : Note) : APure (V ea cds gl) 16 [noteAV n] false (.int .i64 (Sp.check n : Nat)) := by
  refine acalls_of_body (N := 14) Tryd.func16 rfl rfl (Nat.le_of_ble_eq_true rfl) fun C hV hN hM hO => ?_
  obtain ⟨_, _, w0, G0, σ0, _, own0⟩ := C; dsimp only at hV hN hM hO; subst hV; subst hN; subst hM
  refine awp_seq ?_
  refine awp_region rfl ?_
  refine sR (opr_box (y := .agg _) (n := 1) rfl rfl rfl) rfl rfl rfl ?_
  refine sP (opp_as (v := .int _ _) rfl rfl) rfl rfl ?_
  refine awp_seq ?_
  refine awp_seq ?_
  refine awp_region rfl ?_
  first
    | refine sP (opp_fieldP rfl rfl fld26_0 rfl) rfl rfl ?_
    | refine sP (opp_fieldF rfl rfl rfl fld26_0 rfl rfl) rfl rfl ?_
  first
    | refine sP (opp_loadP rfl rfl rfl rfl bi rfl ty3) rfl rfl ?_
    | refine sP (opp_loadF rfl rfl ty3) rfl rfl ?_
  refine sP (opp_cmp rfl rfl rfl rfl) rfl rfl ?_
  refine sP (opp_mv (v := .bool _) rfl rfl) rfl rfl ?_
  first
    | refine sG _ rfl rfl rfl rfl (fun hg => (And.intro gi (True.intro))) (fun hg => opp_fieldP rfl rfl fld26_0 rfl) ?_
    | refine sG _ rfl rfl rfl rfl (fun hg => (And.intro gi (True.intro))) (fun hg => opp_fieldF rfl rfl rfl fld26_0 rfl rfl) ?_
  first
    | refine sG _ rfl rfl rfl rfl (fun hg => (And.intro gi (True.intro))) (fun hg => opp_loadP rfl rfl rfl rfl bi rfl ty3) ?_
    | refine sG _ rfl rfl rfl rfl (fun hg => (And.intro gi (True.intro))) (fun hg => opp_loadF rfl rfl ty3) ?_
  refine sG _ rfl rfl rfl rfl (fun hg => (And.intro gi (And.intro gi (True.intro)))) (fun hg => opp_cmp rfl rfl rfl rfl) ?_
  refine sPick rfl rfl rfl rfl (by exact True.intro) rfl rfl (fun hg => gi) (fun hg => gi) ?_
  refine awp_cond _ rfl (fun hc3 => ?_) (fun hc3 => ?_)
  · (try simp only [cmpI, errD_nil, Bool.not_eq_true', Bool.not_eq_false', decide_eq_true_eq, decide_eq_false_iff_not] at hc3); have ht10 := hc3
    refine awp_seq ?_
    refine awp_region rfl ?_
    refine sP (opp_as (v := .int _ _) rfl rfl) rfl rfl ?_
    refine awp_ret ?_
    repeat (first | refine athen_ret ?_ | refine ain_ret ?_)
    first
      | refine apost_ret (aend1 (r0 := .int _ _) (.tmp .nil) (.noN rfl rfl) ⟨Wk.v ?_, rfl, rfl⟩)
      | refine apost_ret (aend1s (r0 := .int _ _) (.tmp .nil) shut rfl ⟨Wk.v ?_, rfl, rfl⟩)
    rw [check_ranges, if_pos]
    · exact .refl
    · simp only [Sp.within, decide_eq_false_iff_not]; by_cases h1 : n.kind < 1 <;> simp [cmpI, h1] at ht10 <;> omega
  · (try simp only [cmpI, errD_nil, Bool.not_eq_true', Bool.not_eq_false', decide_eq_true_eq, decide_eq_false_iff_not] at hc3); have ht10 := hc3
    refine awp_skip ?_
    refine awp_seq ?_
    refine awp_seq ?_
    have hw : ¬ Sp.within n.kind 1 7 = false := by simp only [Sp.within, decide_eq_false_iff_not]; by_cases h1 : n.kind < 1 <;> simp [cmpI, h1] at ht10 <;> omega
    refine awp_region rfl ?_
    first
      | refine sP (opp_loadP rfl rfl rfl rfl bi rfl ty26) rfl rfl ?_
      | refine sP (opp_loadF rfl rfl ty26) rfl rfl ?_
    refine sR (opr_call rfl rfl ent72 rfl (c72 _) (AViews.refl _ rfl)) rfl rfl rfl ?_ -- d=12 t=4
    refine sP (opp_not rfl rfl) rfl rfl ?_
    refine awp_cond _ rfl (fun hc6 => ?_) (fun hc6 => ?_)
    · (try simp only [cmpI, errD_nil, Bool.not_eq_true', Bool.not_eq_false', decide_eq_true_eq, decide_eq_false_iff_not] at hc6); have ht13 := hc6
      refine awp_seq ?_
      refine awp_region rfl ?_
      refine sP (opp_as (v := .int _ _) rfl rfl) rfl rfl ?_
      refine awp_ret ?_
      repeat (first | refine athen_ret ?_ | refine ain_ret ?_)
      first
        | refine apost_ret (aend1 (r0 := .int _ _) (.tmp .nil) (.noN rfl rfl) ⟨Wk.v ?_, rfl, rfl⟩)
        | refine apost_ret (aend1s (r0 := .int _ _) (.tmp .nil) shut rfl ⟨Wk.v ?_, rfl, rfl⟩)
      rw [check_ranges, if_neg hw, if_pos (by simpa using ht13)]; exact .refl
    · (try simp only [cmpI, errD_nil, Bool.not_eq_true', Bool.not_eq_false', decide_eq_true_eq, decide_eq_false_iff_not] at hc6); have ht13 := hc6
      refine awp_skip ?_
      refine awp_seq ?_
      refine awp_region rfl ?_
      refine sP (opp_as (v := .int _ _) rfl rfl) rfl rfl ?_
      refine awp_ret ?_
      repeat (first | refine athen_ret ?_ | refine ain_ret ?_)
      first
        | refine apost_ret (aend1 (r0 := .int _ _) (.tmp .nil) (.noN rfl rfl) ⟨Wk.v ?_, rfl, rfl⟩)
        | refine apost_ret (aend1s (r0 := .int _ _) (.tmp .nil) shut rfl ⟨Wk.v ?_, rfl, rfl⟩)
      rw [check_ranges, if_neg hw, if_neg (by simpa using ht13)]; exact .refl
end
end Go.Proofs.YtgaihhimkodmmaaDoor

