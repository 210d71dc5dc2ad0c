/- Layer 20: stages (walks over this dump). -/
import Derived.Test.YtgaihhimkodmmaaDoorK2x
namespace Go.Proofs.YtgaihhimkodmmaaDoor
attribute [local irreducible] Tryd.prog
open Go.Fy
set_option linter.unusedSimpArgs false
section
variable {ea : Nat → Addr} {cds : List Nat} {gl : Nat → Option AV}
theorem c41 (n : Note) (hG4 : gl 4 = some (.err (.code 7))) (hG8 : gl 8 = some (.err (.code 4))) :
    APure (V ea cds gl) 41 [noteAV n] false (.tup [stageAV (decide ((Sp.begin_ n).2 ≠ 0)) (Sp.begin_ n).1, .err (errD (Sp.begin_ n).2)]) := by
  refine acalls_of_body (N := 32) Tryd.func41 rfl rfl (Nat.le_of_ble_eq_true rfl) fun C hV hN hM hO => ?_
  obtain ⟨_, _, w0, G0, σ0, _, own0⟩ := C; dsimp only at hV hN hM hO; subst hV; subst hN; subst hM
  refine awp_seq ?_
  refine awp_region rfl ?_
  refine sR (opr_box (y := .agg _) (n := 1) rfl rfl rfl) rfl rfl rfl ?_
  refine sR (opr_alloc (n := 2) rfl z53) rfl rfl rfl ?_
  refine sP (opp_as (v := .err _) rfl rfl) rfl rfl ?_
  refine awp_seq ?_
  refine awp_seq ?_
  refine awp_region rfl ?_
  first
    | refine sP (opp_loadP rfl rfl rfl rfl bi rfl ty26) rfl rfl ?_
    | refine sP (opp_loadF rfl rfl ty26) rfl rfl ?_
  refine sR (opr_call rfl rfl ent92 rfl (c92 _ hG4 hG8) (AViews.refl _ rfl)) rfl rfl rfl ?_ -- d=7 t=29
  refine sP (opp_as (v := .err _) rfl rfl) rfl rfl ?_
  refine awp_seq ?_
  refine awp_region rfl ?_
  refine sP (opp_mv (v := .err _) rfl rfl) rfl rfl ?_
  refine sP (opp_errNil rfl rfl rfl un29 (.inr ⟨rfl, rfl⟩)) rfl rfl ?_
  refine awp_cond _ rfl (fun hc4 => ?_) (fun hc4 => ?_)
  · try simp only [cmpI, errD_nil, Bool.not_eq_true', Bool.not_eq_false', decide_eq_true_eq, decide_eq_false_iff_not] at hc4; have ht9 := hc4
    refine awp_seq ?_
    refine awp_region rfl ?_
    refine sP (opp_build rfl z53 bld53 rfl [.int .i64 0, .int .i64 0, .int .i64 0, .agg [.int .i64 0, .int .i64 0, .int .i64 0], .sl 1 true 0 (fun _ => .top)] rfl) rfl rfl ?_
    refine sP (opp_mv (v := .err _) rfl rfl) rfl rfl ?_
    refine sR0 (opr_store (v := .agg _) (trn := (.agg _)) rfl rfl rfl rfl bi rfl rfl rfl rfl fr2 ty53 (fun _ _ h => h)) rfl rfl rfl ?_
    refine sP (opp_as (v := .err _) rfl rfl) rfl rfl ?_
    refine awp_ret ?_
    repeat (first | refine athen_ret ?_ | refine ain_ret ?_)
    first
      | refine apost_ret (aend (l := [.agg _, .err _]) (.cell rfl rfl rfl (by exact True.intro) rfl ty53 (.tmp .nil)) (fun h => by cases h) (.cons (.noN rfl rfl) (.cons (.noN rfl rfl) .nil)) ⟨Wk.v ?_, rfl, rfl⟩)
      | refine apost_ret (aends (l := [.agg _, .err _]) (.cell rfl rfl rfl (by exact True.intro) rfl ty53 (.tmp .nil)) (fun h => by cases h) (.cons shut (fun h => by cases h) (.cons shut (fun h => by cases h) .nil)) rfl ⟨Wk.v ?_, rfl, rfl⟩)
    have hc : Sp.chunk n ≠ 0 := by simpa [errD_nil] using hc4
    have e : Sp.begin_ n = (Sp.zeroS, Sp.chunk n) := if_pos hc
    rw [e]; simp only [hc, ne_eq, not_false_eq_true, decide_true, stageAV, Sp.zeroS, xidAV, List.length_nil]; (repeat' (first | exact Wk.refl | exact Wk.sl0 | apply Wk.tup | apply Wk.agg | apply WkL.cons | exact WkL.nil | refine Wk.sl (fun _ _ => ?_)))
  · try simp only [cmpI, errD_nil, Bool.not_eq_true', Bool.not_eq_false', decide_eq_true_eq, decide_eq_false_iff_not] at hc4; have ht9 := hc4
    refine awp_skip ?_
    refine awp_seq ?_
    have hch : Sp.chunk n = 0 := by simpa [errD_nil] using hc4
    have hb := Sp.chunk_bounds hch
    refine awp_draw hmix rfl (by kernel_rfl) ?_
    first
      | refine dP (fun _ => false) (opp_fieldP rfl rfl fld26_1 rfl) rfl rfl ?_
      | refine dP (fun _ => false) (opp_fieldF rfl rfl rfl fld26_1 rfl rfl) rfl rfl ?_
    first
      | refine dP (fun n => Nat.beq n 1) (opp_loadP rfl rfl rfl rfl bi rfl ty3) rfl rfl ?_
      | refine dP (fun n => Nat.beq n 1) (opp_loadF rfl rfl ty3) rfl rfl ?_
    first
      | refine dP (fun _ => false) (opp_fieldP rfl rfl fld26_3 rfl) rfl rfl ?_
      | refine dP (fun _ => false) (opp_fieldF rfl rfl rfl fld26_3 rfl rfl) rfl rfl ?_
    first
      | refine dP (fun n => Nat.beq n 1) (opp_loadP rfl rfl rfl rfl bi rfl ty3) rfl rfl ?_
      | refine dP (fun n => Nat.beq n 1) (opp_loadF rfl rfl ty3) rfl rfl ?_
    first
      | refine dP (fun _ => false) (opp_fieldP rfl rfl fld26_5 rfl) rfl rfl ?_
      | refine dP (fun _ => false) (opp_fieldF rfl rfl rfl fld26_5 rfl rfl) rfl rfl ?_
    first
      | refine dP (fun n => Nat.beq n 1) (opp_loadP rfl rfl rfl rfl bi rfl ty3) rfl rfl ?_
      | refine dP (fun n => Nat.beq n 1) (opp_loadF rfl rfl ty3) rfl rfl ?_
    first
      | refine dP (fun _ => false) (opp_fieldP rfl rfl fld26_2 rfl) rfl rfl ?_
      | refine dP (fun _ => false) (opp_fieldF rfl rfl rfl fld26_2 rfl rfl) rfl rfl ?_
    first
      | refine dP (fun n => Nat.beq n 1) (opp_loadP rfl rfl rfl rfl bi rfl ty23) rfl rfl ?_
      | refine dP (fun n => Nat.beq n 1) (opp_loadF rfl rfl ty23) rfl rfl ?_
    first
      | refine dP (fun _ => false) (opp_fieldP rfl rfl fld26_5 rfl) rfl rfl ?_
      | refine dP (fun _ => false) (opp_fieldF rfl rfl rfl fld26_5 rfl rfl) rfl rfl ?_
    first
      | refine dP (fun n => Nat.beq n 1) (opp_loadP rfl rfl rfl rfl bi rfl ty3) rfl rfl ?_
      | refine dP (fun n => Nat.beq n 1) (opp_loadF rfl rfl ty3) rfl rfl ?_
    refine dR (fun _ => false) (opr_make (n := 22) rfl rfl rfl eb51 z9 (by omega) (by omega) (by omega) (by omega)) rfl rfl rfl ?_
    first
      | refine dP (fun _ => false) (opp_build rfl z53 bld53 rfl [.int _ _, .int _ _, .int _ _, .agg _, .sl _ _ _ _] rfl) rfl rfl ?_
      | refine dP (fun _ => false) (opp_build rfl z53 bld53 rfl [.int _ _, .int _ _, .int _ _, .agg _, .osl _ _ _ _ _] rfl) rfl rfl ?_
    refine dR (fun _ => false) (opr_alloc (n := 5) rfl z53) rfl rfl rfl ?_
    refine dR0 (fun n => Nat.beq n 5) (opr_store (v := .agg _) (trn := (.agg _)) rfl rfl rfl rfl bi rfl rfl rfl rfl fr2 ty53 (fun _ _ h => h)) rfl rfl rfl ?_
    refine And.intro (by kernel_rfl) ?_
    refine awp_seq ?_
    refine awp_region rfl ?_
    first
      | refine sP (opp_fieldP rfl rfl fld53_4 rfl) rfl rfl ?_
      | refine sP (opp_fieldF rfl rfl rfl fld53_4 rfl rfl) rfl rfl ?_
    first
      | refine sP (opp_loadP rfl rfl rfl rfl bi rfl ty51) rfl rfl ?_
      | refine sP (opp_loadF rfl rfl ty51) rfl rfl ?_
    first
      | refine sP (opp_fieldP rfl rfl fld26_4 rfl) rfl rfl ?_
      | refine sP (opp_fieldF rfl rfl rfl fld26_4 rfl rfl) rfl rfl ?_
    first
      | refine sP (opp_loadP rfl rfl rfl rfl bi rfl ty3) rfl rfl ?_
      | refine sP (opp_loadF rfl rfl ty3) rfl rfl ?_
    first
      | refine sP (opp_fieldP rfl rfl fld26_7 rfl) rfl rfl ?_
      | refine sP (opp_fieldF rfl rfl rfl fld26_7 rfl rfl) rfl rfl ?_
    first
      | refine sP (opp_loadP rfl rfl rfl rfl bi rfl ty9) rfl rfl ?_
      | refine sP (opp_loadF rfl rfl ty9) rfl rfl ?_
    first
      | refine sP (opp_indexSl rfl rfl rfl el51 (by omega) (by omega)) rfl rfl ?_
      | refine sP (opp_indexOsl0 rfl rfl rfl el51 (by omega) (by omega)) rfl rfl ?_
      | refine sP (opp_indexOsl rfl rfl rfl el51 (by omega) (by omega)) rfl rfl ?_
    refine sR0 (opr_storeA (v := .str _) rfl rfl rfl (by omega) rfl rfl rfl rfl rfl ty9) rfl rfl rfl ?_
    refine awp_seq ?_
    refine awp_region rfl ?_
    first
      | refine sP (opp_loadP rfl rfl rfl rfl bi rfl ty53) rfl rfl ?_
      | refine sP (opp_loadF rfl rfl ty53) rfl rfl ?_
    refine sR0 (opr_store (v := .agg _) (trn := (.agg _)) rfl rfl rfl rfl bi rfl rfl rfl rfl fr2 ty53 (fun _ _ h => h)) rfl rfl rfl ?_
    refine sP (opp_as (v := .err _) rfl rfl) rfl rfl ?_
    refine awp_ret ?_
    repeat (first | refine athen_ret ?_ | refine ain_ret ?_)
    first
      | refine apost_ret (aend (l := [.agg _, .err _]) (.cell rfl rfl rfl (by exact True.intro) rfl ty53 (.tmp .nil)) (fun h => by cases h) (.cons (.noN rfl rfl) (.cons (.noN rfl rfl) .nil)) ⟨Wk.v ?_, rfl, rfl⟩)
      | refine apost_ret (aends (l := [.agg _, .err _]) (.cell rfl rfl rfl (by exact True.intro) rfl ty53 (.tmp .nil)) (fun h => by cases h) (.cons shut (fun h => by cases h) (.cons shut (fun h => by cases h) .nil)) rfl ⟨Wk.v ?_, rfl, rfl⟩)
    have e : Sp.begin_ n = (⟨n.part, n.stage, n.total, n.xid, (List.replicate n.total.toNat []).set n.index.toNat n.data⟩, 0) := if_neg (by simp [hch])
    rw [e]; simp only [ne_eq, not_true_eq_false, decide_false, stageAV, xidAV, List.length_set, List.length_replicate, errD, if_true]; (repeat' (first | exact Wk.refl | exact Wk.sl0 | apply Wk.tup | apply Wk.agg | apply WkL.cons | exact WkL.nil | refine Wk.sl (fun _ _ => ?_)))
    rename_i j hj; simp only [strAt, List.getD_eq_getElem?_getD, List.getElem?_set, List.length_replicate]
    by_cases hj2 : j = n.index.toNat
    · subst hj2; simp [hj]
    · rw [if_neg hj2, if_neg (Ne.symm hj2)]; simp [hj]
theorem c93 (b : Bool) (s : Stage) : APure (V ea cds gl) 93 [stageAV b s] false (.bool (Sp.goodS s)) := by
  refine acalls_of_body (N := 55) Tryd.func93 rfl rfl (Nat.le_of_ble_eq_true rfl) fun C hV hN hM hO => ?_
  obtain ⟨_, _, w0, G0, σ0, _, own0⟩ := C; dsimp only at hV hN hM hO; subst hV; subst hN; subst hM
  refine awp_seq ?_
  refine awp_region rfl ?_
  refine sR (opr_box (y := .agg _) (n := 1) rfl rfl rfl) rfl rfl rfl ?_
  refine sP (opp_as (v := .bool _) rfl rfl) rfl rfl ?_
  refine awp_seq ?_
  refine awp_seq ?_
  refine awp_region rfl ?_
  first
    | refine sP (opp_fieldP rfl rfl fld53_0 rfl) rfl rfl ?_
    | refine sP (opp_fieldF rfl rfl rfl fld53_0 rfl rfl) rfl rfl ?_
  first
    | refine sP (opp_loadP rfl rfl rfl rfl bi rfl ty3) rfl rfl ?_
    | refine sP (opp_loadF rfl rfl ty3) rfl rfl ?_
  refine sR (opr_call rfl rfl ent87 rfl (c87 _) (AViews.refl _ rfl)) rfl rfl rfl ?_ -- d=7 t=4
  refine sP (opp_not rfl rfl) rfl rfl ?_
  refine sP (opp_mv (v := .bool _) rfl rfl) rfl rfl ?_
  first
    | refine sG _ rfl rfl rfl rfl (fun hg => (And.intro gi (True.intro))) (fun hg => opp_fieldP rfl rfl fld53_3 rfl) ?_
    | refine sG _ rfl rfl rfl rfl (fun hg => (And.intro gi (True.intro))) (fun hg => opp_fieldF rfl rfl rfl fld53_3 rfl rfl) ?_
  first
    | refine sG _ rfl rfl rfl rfl (fun hg => (And.intro gi (True.intro))) (fun hg => opp_loadP rfl rfl rfl rfl bi rfl ty23) ?_
    | refine sG _ rfl rfl rfl rfl (fun hg => (And.intro gi (True.intro))) (fun hg => opp_loadF rfl rfl ty23) ?_
  refine sGR _ rfl rfl rfl rfl (fun hg => (And.intro gi (And.intro gi (True.intro)))) (fun hg => (opr_call rfl rfl ent88 rfl (c88 _) (AViews.refl _ rfl))) ?_
  refine sG _ rfl rfl rfl rfl (fun hg => (And.intro gi (True.intro))) (fun hg => opp_not rfl rfl) ?_
  refine sPick rfl rfl rfl rfl (by exact True.intro) rfl rfl (fun hg => gi) (fun hg => gi) ?_
  refine sP (opp_mv (v := .bool _) rfl rfl) rfl rfl ?_
  first
    | refine sG _ rfl rfl rfl rfl (fun hg => (And.intro gi (True.intro))) (fun hg => opp_fieldP rfl rfl fld53_1 rfl) ?_
    | refine sG _ rfl rfl rfl rfl (fun hg => (And.intro gi (True.intro))) (fun hg => opp_fieldF rfl rfl rfl fld53_1 rfl rfl) ?_
  first
    | refine sG _ rfl rfl rfl rfl (fun hg => (And.intro gi (True.intro))) (fun hg => opp_loadP rfl rfl rfl rfl bi rfl ty3) ?_
    | refine sG _ rfl rfl rfl rfl (fun hg => (And.intro gi (True.intro))) (fun hg => opp_loadF rfl rfl ty3) ?_
  refine sGR _ rfl rfl rfl rfl (fun hg => (And.intro gi (And.intro gi (True.intro)))) (fun hg => (opr_call rfl rfl ent89 rfl (c89 _) (AViews.refl _ rfl))) ?_
  refine sG _ rfl rfl rfl rfl (fun hg => (And.intro gi (True.intro))) (fun hg => opp_not rfl rfl) ?_
  refine sPick rfl rfl rfl rfl (by exact True.intro) rfl rfl (fun hg => gi) (fun hg => gi) ?_
  refine sP (opp_mv (v := .bool _) rfl rfl) rfl rfl ?_
  first
    | refine sG _ rfl rfl rfl rfl (fun hg => (And.intro gi (True.intro))) (fun hg => opp_fieldP rfl rfl fld53_2 rfl) ?_
    | refine sG _ rfl rfl rfl rfl (fun hg => (And.intro gi (True.intro))) (fun hg => opp_fieldF rfl rfl rfl fld53_2 rfl rfl) ?_
  first
    | refine sG _ rfl rfl rfl rfl (fun hg => (And.intro gi (True.intro))) (fun hg => opp_loadP rfl rfl rfl rfl bi rfl ty3) ?_
    | refine sG _ rfl rfl rfl rfl (fun hg => (And.intro gi (True.intro))) (fun hg => opp_loadF rfl rfl ty3) ?_
  refine sGR _ rfl rfl rfl rfl (fun hg => (And.intro gi (And.intro gi (And.intro gi (And.intro gi (True.intro)))))) (fun hg => (opr_call rfl rfl ent90 rfl (c90 _ _ _) (AViews.refl _ rfl))) ?_
  refine sG _ rfl rfl rfl rfl (fun hg => (And.intro gi (True.intro))) (fun hg => opp_not rfl rfl) ?_
  refine sPick rfl rfl rfl rfl (by exact True.intro) rfl rfl (fun hg => gi) (fun hg => gi) ?_
  refine sP (opp_mv (v := .bool _) rfl rfl) rfl rfl ?_
  first
    | refine sG _ rfl rfl rfl rfl (fun hg => (And.intro gi (True.intro))) (fun hg => opp_fieldP rfl rfl fld53_4 rfl) ?_
    | refine sG _ rfl rfl rfl rfl (fun hg => (And.intro gi (True.intro))) (fun hg => opp_fieldF rfl rfl rfl fld53_4 rfl rfl) ?_
  first
    | refine sG _ rfl rfl rfl rfl (fun hg => (And.intro gi (True.intro))) (fun hg => opp_loadP rfl rfl rfl rfl bi rfl ty51) ?_
    | refine sG _ rfl rfl rfl rfl (fun hg => (And.intro gi (True.intro))) (fun hg => opp_loadF rfl rfl ty51) ?_
  first
    | refine sG _ rfl rfl rfl rfl (fun hg => (And.intro gi (True.intro))) (fun hg => opp_lenSl rfl rfl un51) ?_
    | refine sG _ rfl rfl rfl rfl (fun hg => (And.intro gi (True.intro))) (fun hg => opp_lenOsl rfl rfl un51) ?_
  first
    | refine sG _ rfl rfl rfl rfl (fun hg => (And.intro gi (True.intro))) (fun hg => opp_fieldP rfl rfl fld53_2 rfl) ?_
    | refine sG _ rfl rfl rfl rfl (fun hg => (And.intro gi (True.intro))) (fun hg => opp_fieldF rfl rfl rfl fld53_2 rfl rfl) ?_
  first
    | refine sG _ rfl rfl rfl rfl (fun hg => (And.intro gi (True.intro))) (fun hg => opp_loadP rfl rfl rfl rfl bi rfl ty3) ?_
    | refine sG _ rfl rfl rfl rfl (fun hg => (And.intro gi (True.intro))) (fun hg => opp_loadF rfl rfl ty3) ?_
  refine sG _ rfl rfl rfl rfl (fun hg => (And.intro gi (And.intro gi (True.intro)))) (fun hg => opp_cmp rfl rfl rfl rfl) ?_
  refine sPick rfl rfl rfl rfl (by exact True.intro) rfl rfl (fun hg => gi) (fun hg => gi) ?_
  refine awp_cond _ rfl (fun hc3 => ?_) (fun hc3 => ?_)
  · try simp only [cmpI, errD_nil, Bool.not_eq_true', Bool.not_eq_false', decide_eq_true_eq, decide_eq_false_iff_not] at hc3; have ht34 := hc3
    refine awp_seq ?_
    refine awp_region rfl ?_
    refine sP (opp_as (v := .bool _) rfl rfl) rfl rfl ?_
    refine awp_ret ?_
    repeat (first | refine athen_ret ?_ | refine ain_ret ?_)
    first
      | refine apost_ret (aend1 (r0 := .bool _) (.tmp .nil) (.noN rfl rfl) ⟨Wk.v ?_, rfl, rfl⟩)
      | refine apost_ret (aend1s (r0 := .bool _) (.tmp .nil) shut rfl ⟨Wk.v ?_, rfl, rfl⟩)
    refine .of (congrArg AV.bool ?_)
    symm; cases hq : Sp.goodS s with
    | false => rfl
    | true => simp only [Sp.goodS, Bool.and_eq_true, decide_eq_true_eq] at hq; simp [hq] at hc3
  · try simp only [cmpI, errD_nil, Bool.not_eq_true', Bool.not_eq_false', decide_eq_true_eq, decide_eq_false_iff_not] at hc3; have ht34 := hc3
    refine awp_skip ?_
    refine awp_seq ?_
    refine awp_seq ?_
    have hg : (((Sp.goodPart s.part = true ∧ Sp.goodXid s.xid = true) ∧ Sp.goodStage s.stage = true) ∧ Sp.within s.total 1 32 = true) ∧ (s.pieces.length : Int) = s.total := by simpa [and_assoc] using hc3
    have hw : 1 ≤ s.total ∧ s.total ≤ 32 := by simpa [Sp.within] using hg.1.2
    refine awp_region rfl ?_
    first
      | refine sP (opp_fieldP rfl rfl fld53_4 rfl) rfl rfl ?_
      | refine sP (opp_fieldF rfl rfl rfl fld53_4 rfl rfl) rfl rfl ?_
    first
      | refine sP (opp_loadP rfl rfl rfl rfl bi rfl ty51) rfl rfl ?_
      | refine sP (opp_loadF rfl rfl ty51) rfl rfl ?_
    first
      | refine sP (opp_lenSl rfl rfl un51) rfl rfl ?_
      | refine sP (opp_lenOsl rfl rfl un51) rfl rfl ?_
    refine sP (opp_mv (v := .int _ _) rfl rfl) rfl rfl ?_
    refine awp_block ?_
    refine awp_loopK (ι := Nat) (fun i => i ≤ s.pieces.length ∧ ∀ j, j < i → s.pieces.getD j [] = [] ∨ Sp.goodLen (s.pieces.getD j []).length j s.total = true) (fun i => [(2, .top), (3, .top), (4, .top), (38, .int .i64 i), (39, .top), (40, .top), (41, .top), (42, .top), (43, .top), (44, .top), (45, .top), (46, .top), (47, .top), (48, .top), (49, .top), (50, .top), (51, .top), (52, .top), (53, .top), (54, .top)]) (fun i => []) [] (fun i => s.pieces.length - i) (0) (⟨Nat.zero_le _, fun j hj => absurd hj (by omega)⟩) (by
      refine imp_over [] rfl rfl (by kernel_rfl) ?_ ?_
      · refine And.intro wkv ?_
        refine And.intro wkv ?_
        refine And.intro wkv ?_
        refine And.intro wkv ?_
        refine And.intro wkv ?_
        refine And.intro wkv ?_
        refine And.intro wkv ?_
        refine And.intro wkv ?_
        refine And.intro wkv ?_
        refine And.intro wkv ?_
        refine And.intro wkv ?_
        refine And.intro wkv ?_
        refine And.intro wkv ?_
        refine And.intro wkv ?_
        refine And.intro wkv ?_
        refine And.intro wkv ?_
        refine And.intro wkv ?_
        refine And.intro wkv ?_
        refine And.intro wkv ?_
        refine And.intro wkv ?_
        exact True.intro
      · exact True.intro
      ) ?_
    intro i hi1
    refine awp_seq ?_
    refine awp_region rfl ?_
    refine sP (opp_cmp rfl rfl rfl rfl) rfl rfl ?_
    refine awp_seq ?_
    refine awp_cond _ rfl (fun hc7 => ?_) (fun hc7 => ?_)
    · try simp only [cmpI, errD_nil, Bool.not_eq_true', Bool.not_eq_false', decide_eq_true_eq, decide_eq_false_iff_not] at hc7; have ht39 := hc7
      refine awp_skip ?_
      refine awp_seq ?_
      refine awp_block ?_
      refine awp_seq ?_
      refine awp_region rfl ?_
      refine sP (opp_mv (v := .int _ _) rfl rfl) rfl rfl ?_
      first
        | refine sP (opp_indexSl rfl rfl rfl el51 (by omega) (by omega)) rfl rfl ?_
        | refine sP (opp_indexOsl0 rfl rfl rfl el51 (by omega) (by omega)) rfl rfl ?_
        | refine sP (opp_indexOsl rfl rfl rfl el51 (by omega) (by omega)) rfl rfl ?_
      first
        | refine sP (opp_loadP rfl rfl rfl rfl bi rfl ty9) rfl rfl ?_
        | refine sP (opp_loadF rfl rfl ty9) rfl rfl ?_
      refine sP (opp_as (v := .int _ _) rfl rfl) rfl rfl ?_
      refine sP (opp_as (v := .str _) rfl rfl) rfl rfl ?_
      refine awp_seq ?_
      refine awp_region rfl ?_
      refine sP (opp_mv (v := .str _) rfl rfl) rfl rfl ?_
      refine sP (opp_strEq (b := []) rfl rfl rfl (.inr ⟨rfl, rfl⟩)) rfl rfl ?_
      refine sP (opp_mv (v := .bool _) rfl rfl) rfl rfl ?_
      refine sG _ rfl rfl rfl rfl (fun hg => (And.intro gi (True.intro))) (fun hg => opp_mv (v := .str _) rfl rfl) ?_
      refine sG _ rfl rfl rfl rfl (fun hg => (And.intro gi (True.intro))) (fun hg => opp_lenStr rfl rfl un9) ?_
      refine sG _ rfl rfl rfl rfl (fun hg => (And.intro gi (True.intro))) (fun hg => opp_mv (v := .int _ _) rfl rfl) ?_
      first
        | refine sG _ rfl rfl rfl rfl (fun hg => (And.intro gi (True.intro))) (fun hg => opp_fieldP rfl rfl fld53_2 rfl) ?_
        | refine sG _ rfl rfl rfl rfl (fun hg => (And.intro gi (True.intro))) (fun hg => opp_fieldF rfl rfl rfl fld53_2 rfl rfl) ?_
      first
        | refine sG _ rfl rfl rfl rfl (fun hg => (And.intro gi (True.intro))) (fun hg => opp_loadP rfl rfl rfl rfl bi rfl ty3) ?_
        | refine sG _ rfl rfl rfl rfl (fun hg => (And.intro gi (True.intro))) (fun hg => opp_loadF rfl rfl ty3) ?_
      refine sGR _ rfl rfl rfl rfl (fun hg => (And.intro gi (And.intro gi (And.intro gi (And.intro gi (True.intro)))))) (fun hg => (opr_call rfl rfl ent125 rfl (c125 _ _ _) (AViews.refl _ rfl))) ?_
      refine sG _ rfl rfl rfl rfl (fun hg => (And.intro gi (True.intro))) (fun hg => opp_not rfl rfl) ?_
      refine sPick rfl rfl rfl rfl (by exact True.intro) rfl rfl (fun hg => gi) (fun hg => gi) ?_
      refine awp_cond _ rfl (fun hc10 => ?_) (fun hc10 => ?_)
      · try simp only [cmpI, errD_nil, Bool.not_eq_true', Bool.not_eq_false', decide_eq_true_eq, decide_eq_false_iff_not] at hc10; have ht53 := hc10
        refine awp_seq ?_
        refine awp_region rfl ?_
        refine sP (opp_as (v := .bool _) rfl rfl) rfl rfl ?_
        refine awp_ret ?_
        repeat (first | refine athen_ret ?_ | refine ain_ret ?_)
        first
          | refine apost_ret (aend1 (r0 := .bool _) (.tmp .nil) (.noN rfl rfl) ⟨Wk.v ?_, rfl, rfl⟩)
          | refine apost_ret (aend1s (r0 := .bool _) (.tmp .nil) shut rfl ⟨Wk.v ?_, rfl, rfl⟩)
        refine .of (congrArg AV.bool ?_)
        symm; cases hq : Sp.goodS s with
        | false => rfl
        | true =>
          simp only [Sp.goodS, Bool.and_eq_true, List.all_eq_true, List.mem_range] at hq
          have := hq.2 i (by omega)
          rw [Int.toNat_natCast, Sp.goodLenW_eq _ _ _ hg.1.2] at hc10
          generalize s.pieces.getD i [] = y at hc10 this
          simp only [Bool.or_eq_true, decide_eq_true_eq] at this
          rcases this with h | h <;> simp [h] at hc10
      · try simp only [cmpI, errD_nil, Bool.not_eq_true', Bool.not_eq_false', decide_eq_true_eq, decide_eq_false_iff_not] at hc10; have ht53 := hc10
        refine awp_skip ?_
        refine awp_region rfl ?_
        first
          | refine sP (opp_arith rfl rfl rfl (.inl ⟨rfl, w64 (by omega)⟩)) rfl rfl ?_
          | refine sP (opp_arith rfl rfl rfl (.inl ⟨rfl, rfl⟩)) rfl rfl ?_
        refine sP (opp_mv (v := .int _ _) rfl rfl) rfl rfl ?_
        have hnx : ∀ j, j < i + 1 → s.pieces.getD j [] = [] ∨ Sp.goodLen (s.pieces.getD j []).length j s.total = true := by
          intro j hj
          by_cases e : j = i
          · subst e
            simp only [Int.toNat_natCast, Sp.goodLenW_eq _ _ _ hg.1.2] at hc10
            by_cases e2 : s.pieces.getD j [] = []
            · exact .inl e2
            · right; simp only [e2, decide_false, Bool.not_false, cond_true, Bool.not_eq_false'] at hc10; exact hc10
          · exact hi1.2 j (by omega)
        refine Exists.intro (i + 1) (And.intro (And.intro (⟨by omega, hnx⟩) (by omega)) (by
          refine imp_over [] rfl rfl (by kernel_rfl) ?_ ?_
          · refine And.intro wkv ?_
            refine And.intro wkv ?_
            refine And.intro wkv ?_
            refine And.intro wkv ?_
            refine And.intro wkv ?_
            refine And.intro wkv ?_
            refine And.intro wkv ?_
            refine And.intro wkv ?_
            refine And.intro wkv ?_
            refine And.intro wkv ?_
            refine And.intro wkv ?_
            refine And.intro wkv ?_
            refine And.intro wkv ?_
            refine And.intro wkv ?_
            refine And.intro wkv ?_
            refine And.intro wkv ?_
            refine And.intro wkv ?_
            refine And.intro wkv ?_
            refine And.intro wkv ?_
            refine And.intro wkv ?_
            exact True.intro
          · exact True.intro
          ))
    · try simp only [cmpI, errD_nil, Bool.not_eq_true', Bool.not_eq_false', decide_eq_true_eq, decide_eq_false_iff_not] at hc7; have ht39 := hc7
      refine awp_exit ?_
      refine awp_seq ?_
      refine awp_region rfl ?_
      refine sP (opp_as (v := .bool _) rfl rfl) rfl rfl ?_
      refine awp_ret ?_
      repeat (first | refine athen_ret ?_ | refine ain_ret ?_)
      first
        | refine apost_ret (aend1 (r0 := .bool _) (.tmp .nil) (.noN rfl rfl) ⟨Wk.v ?_, rfl, rfl⟩)
        | refine apost_ret (aend1s (r0 := .bool _) (.tmp .nil) shut rfl ⟨Wk.v ?_, rfl, rfl⟩)
      refine .of (congrArg AV.bool ?_)
      have : i = s.pieces.length := by omega
      subst this
      symm; simp only [Sp.goodS, hg, Bool.and_eq_true, List.all_eq_true, List.mem_range, decide_eq_true_eq, Bool.or_eq_true, true_and]
      exact fun j hj => hi1.2 j hj
end
end Go.Proofs.YtgaihhimkodmmaaDoor

