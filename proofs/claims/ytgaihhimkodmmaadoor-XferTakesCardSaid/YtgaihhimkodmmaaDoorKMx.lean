/- Layer 22: XferStarts: what Start answers is the document's answer: true (walks over this dump). -/
import Derived.Test.YtgaihhimkodmmaaDoorKKx
import Derived.Test.YtgaihhimkodmmaaDoorKLx
import Derived.Test.YtgaihhimkodmmaaDoorKFx
namespace Go.Proofs.YtgaihhimkodmmaaDoor
attribute [local irreducible] Tryd.prog
open Go.Fy
set_option linter.unusedSimpArgs false
set_option linter.unusedVariables false
theorem start_code (p : Int) (x : Xid) (st : Int) (im : List UInt8) : (Sp.start p x st im).2 = 0 ∨ (Sp.start p x st im).2 = 11 ∨ (Sp.start p x st im).2 = 12 := by
  have h1 : (Sp.cut p x st im).2 = 0 ∨ (Sp.cut p x st im).2 = 11 ∨ (Sp.cut p x st im).2 = 12 := by
    unfold Sp.cut; split
    · simp
    · split <;> simp
  unfold Sp.start; split
  · exact h1
  · simp
section
variable {ea : Nat → Addr} {cds : List Nat} {gl : Nat → Option AV}
theorem c37 (b : Bool) (s : Send) : APure (V ea cds gl) 37 [sendAV b s] false (sendAV b s) := by
  refine acalls_of_body (N := 16) Tryd.func37 rfl rfl (Nat.le_of_ble_eq_true rfl) fun C hV hN hM hO => ?_
  obtain ⟨_, _, w0, G0, σ0, _, own0⟩ := C; dsimp only at hV hN hM hO; subst hV; subst hN; subst hM
  refine awp_seq ?_
  refine awp_region rfl ?_
  refine sR (opr_box (y := .agg _) (n := 1) rfl rfl rfl) rfl rfl rfl ?_
  refine sR (opr_alloc (n := 2) rfl z73) rfl rfl rfl ?_
  refine awp_seq ?_
  refine awp_region rfl ?_
  first
    | refine sP (opp_fieldP rfl rfl fld45_0 rfl) rfl rfl ?_
    | refine sP (opp_fieldF rfl rfl rfl fld45_0 rfl rfl) rfl rfl ?_
  first
    | refine sP (opp_loadP rfl rfl rfl rfl bi rfl ty3) rfl rfl ?_
    | refine sP (opp_loadF rfl rfl ty3) rfl rfl ?_
  first
    | refine sP (opp_fieldP rfl rfl fld45_1 rfl) rfl rfl ?_
    | refine sP (opp_fieldF rfl rfl rfl fld45_1 rfl rfl) rfl rfl ?_
  first
    | refine sP (opp_loadP rfl rfl rfl rfl bi rfl ty23) rfl rfl ?_
    | refine sP (opp_loadF rfl rfl ty23) rfl rfl ?_
  first
    | refine sP (opp_fieldP rfl rfl fld45_2 rfl) rfl rfl ?_
    | refine sP (opp_fieldF rfl rfl rfl fld45_2 rfl rfl) rfl rfl ?_
  first
    | refine sP (opp_loadP rfl rfl rfl rfl bi rfl ty3) rfl rfl ?_
    | refine sP (opp_loadF rfl rfl ty3) rfl rfl ?_
  first
    | refine sP (opp_fieldP rfl rfl fld45_3 rfl) rfl rfl ?_
    | refine sP (opp_fieldF rfl rfl rfl fld45_3 rfl rfl) rfl rfl ?_
  first
    | refine sP (opp_loadP rfl rfl rfl rfl bi rfl ty9) rfl rfl ?_
    | refine sP (opp_loadF rfl rfl ty9) rfl rfl ?_
  first
    | refine sP (opp_fieldP rfl rfl fld45_4 rfl) rfl rfl ?_
    | refine sP (opp_fieldF rfl rfl rfl fld45_4 rfl rfl) rfl rfl ?_
  first
    | refine sP (opp_loadP rfl rfl rfl rfl bi rfl ty43) rfl rfl ?_
    | refine sP (opp_loadF rfl rfl ty43) rfl rfl ?_
  first
    | refine sP (opp_fieldP rfl rfl fld45_5 rfl) rfl rfl ?_
    | refine sP (opp_fieldF rfl rfl rfl fld45_5 rfl rfl) rfl rfl ?_
  first
    | refine sP (opp_loadP rfl rfl rfl rfl bi rfl ty3) rfl rfl ?_
    | refine sP (opp_loadF rfl rfl ty3) rfl rfl ?_
  first
    | refine sP (opp_build rfl z73 bld73 rfl [.int _ _, .agg _, .int _ _, .str _, .sl _ _ _ _, .int _ _] rfl) rfl rfl ?_
    | refine sP (opp_build rfl z73 bld73 rfl [.int _ _, .agg _, .int _ _, .str _, .osl _ _ _ _ _, .int _ _] rfl) rfl rfl ?_
  refine sR0 (opr_store (v := .agg _) (trn := (.agg _)) rfl rfl rfl rfl bi rfl rfl rfl rfl fr2 ty73 (fun _ _ h => h)) rfl rfl rfl ?_
  refine awp_ret ?_
  repeat (first | refine athen_ret ?_ | refine ain_ret ?_)
  first
    | refine apost_ret (aend1 (r0 := .agg _) (.cell rfl rfl rfl (by exact True.intro) rfl ty73 .nil) (.noN rfl rfl) ⟨Wk.v ?_, rfl, rfl⟩)
    | refine apost_ret (aend1s (r0 := .agg _) (.cell rfl rfl rfl (by exact True.intro) rfl ty73 .nil) shut rfl ⟨Wk.v ?_, rfl, rfl⟩)
  exact .refl
theorem c35 (b1 b2 : Bool) (s t : Send) (h0 : s.acked.length ≤ 4611686018427387904) : APure (V ea cds gl) 35 [sendAV b1 s, sendAV b2 t] false (.bool (decide (s = t))) := by
  refine acalls_of_body (N := 66) Tryd.func35 rfl rfl (Nat.le_of_ble_eq_true rfl) fun C hV hN hM hO => ?_
  obtain ⟨_, _, w0, G0, σ0, _, own0⟩ := C; dsimp only at hV hN hM hO; subst hV; subst hN; subst hM
  refine awp_seq ?_
  refine awp_region rfl ?_
  refine sR (opr_box (y := .agg _) (n := 2) rfl rfl rfl) rfl rfl rfl ?_
  refine sR (opr_box (y := .agg _) (n := 3) rfl rfl rfl) rfl rfl rfl ?_
  refine sP (opp_as (v := .bool _) rfl rfl) rfl rfl ?_
  refine awp_seq ?_
  refine awp_seq ?_
  refine awp_region rfl ?_
  first
    | refine sP (opp_fieldP rfl rfl fld73_0 rfl) rfl rfl ?_
    | refine sP (opp_fieldF rfl rfl rfl fld73_0 rfl rfl) rfl rfl ?_
  first
    | refine sP (opp_loadP rfl rfl rfl rfl bi rfl ty3) rfl rfl ?_
    | refine sP (opp_loadF rfl rfl ty3) rfl rfl ?_
  first
    | refine sP (opp_fieldP rfl rfl fld73_0 rfl) rfl rfl ?_
    | refine sP (opp_fieldF rfl rfl rfl fld73_0 rfl rfl) rfl rfl ?_
  first
    | refine sP (opp_loadP rfl rfl rfl rfl bi rfl ty3) rfl rfl ?_
    | refine sP (opp_loadF rfl rfl ty3) rfl rfl ?_
  refine sP (opp_cmp rfl rfl rfl rfl) rfl rfl ?_
  refine sP (opp_mv (v := .bool _) rfl rfl) rfl rfl ?_
  first
    | refine sG _ rfl rfl rfl rfl (fun hg => (And.intro gi (True.intro))) (fun hg => opp_fieldP rfl rfl fld73_1 rfl) ?_
    | refine sG _ rfl rfl rfl rfl (fun hg => (And.intro gi (True.intro))) (fun hg => opp_fieldF rfl rfl rfl fld73_1 rfl rfl) ?_
  first
    | refine sG _ rfl rfl rfl rfl (fun hg => (And.intro gi (True.intro))) (fun hg => opp_loadP rfl rfl rfl rfl bi rfl ty23) ?_
    | refine sG _ rfl rfl rfl rfl (fun hg => (And.intro gi (True.intro))) (fun hg => opp_loadF rfl rfl ty23) ?_
  first
    | refine sG _ rfl rfl rfl rfl (fun hg => (And.intro gi (True.intro))) (fun hg => opp_fieldP rfl rfl fld73_1 rfl) ?_
    | refine sG _ rfl rfl rfl rfl (fun hg => (And.intro gi (True.intro))) (fun hg => opp_fieldF rfl rfl rfl fld73_1 rfl rfl) ?_
  first
    | refine sG _ rfl rfl rfl rfl (fun hg => (And.intro gi (True.intro))) (fun hg => opp_loadP rfl rfl rfl rfl bi rfl ty23) ?_
    | refine sG _ rfl rfl rfl rfl (fun hg => (And.intro gi (True.intro))) (fun hg => opp_loadF rfl rfl ty23) ?_
  refine sG _ rfl rfl rfl rfl (fun hg => (And.intro gi (And.intro gi (True.intro)))) (fun hg => opp_eqAgg rfl rfl rfl (eq23 ..) eg23 rfl (.inr ⟨rfl, rfl⟩)) ?_
  refine sPick rfl rfl rfl rfl (by exact True.intro) rfl rfl (fun hg => gi) (fun hg => gi) ?_
  refine sP (opp_mv (v := .bool _) rfl rfl) rfl rfl ?_
  first
    | refine sG _ rfl rfl rfl rfl (fun hg => (And.intro gi (True.intro))) (fun hg => opp_fieldP rfl rfl fld73_2 rfl) ?_
    | refine sG _ rfl rfl rfl rfl (fun hg => (And.intro gi (True.intro))) (fun hg => opp_fieldF rfl rfl rfl fld73_2 rfl rfl) ?_
  first
    | refine sG _ rfl rfl rfl rfl (fun hg => (And.intro gi (True.intro))) (fun hg => opp_loadP rfl rfl rfl rfl bi rfl ty3) ?_
    | refine sG _ rfl rfl rfl rfl (fun hg => (And.intro gi (True.intro))) (fun hg => opp_loadF rfl rfl ty3) ?_
  first
    | refine sG _ rfl rfl rfl rfl (fun hg => (And.intro gi (True.intro))) (fun hg => opp_fieldP rfl rfl fld73_2 rfl) ?_
    | refine sG _ rfl rfl rfl rfl (fun hg => (And.intro gi (True.intro))) (fun hg => opp_fieldF rfl rfl rfl fld73_2 rfl rfl) ?_
  first
    | refine sG _ rfl rfl rfl rfl (fun hg => (And.intro gi (True.intro))) (fun hg => opp_loadP rfl rfl rfl rfl bi rfl ty3) ?_
    | refine sG _ rfl rfl rfl rfl (fun hg => (And.intro gi (True.intro))) (fun hg => opp_loadF rfl rfl ty3) ?_
  refine sG _ rfl rfl rfl rfl (fun hg => (And.intro gi (And.intro gi (True.intro)))) (fun hg => opp_cmp rfl rfl rfl rfl) ?_
  refine sPick rfl rfl rfl rfl (by exact True.intro) rfl rfl (fun hg => gi) (fun hg => gi) ?_
  refine sP (opp_mv (v := .bool _) rfl rfl) rfl rfl ?_
  first
    | refine sG _ rfl rfl rfl rfl (fun hg => (And.intro gi (True.intro))) (fun hg => opp_fieldP rfl rfl fld73_3 rfl) ?_
    | refine sG _ rfl rfl rfl rfl (fun hg => (And.intro gi (True.intro))) (fun hg => opp_fieldF rfl rfl rfl fld73_3 rfl rfl) ?_
  first
    | refine sG _ rfl rfl rfl rfl (fun hg => (And.intro gi (True.intro))) (fun hg => opp_loadP rfl rfl rfl rfl bi rfl ty9) ?_
    | refine sG _ rfl rfl rfl rfl (fun hg => (And.intro gi (True.intro))) (fun hg => opp_loadF rfl rfl ty9) ?_
  first
    | refine sG _ rfl rfl rfl rfl (fun hg => (And.intro gi (True.intro))) (fun hg => opp_fieldP rfl rfl fld73_3 rfl) ?_
    | refine sG _ rfl rfl rfl rfl (fun hg => (And.intro gi (True.intro))) (fun hg => opp_fieldF rfl rfl rfl fld73_3 rfl rfl) ?_
  first
    | refine sG _ rfl rfl rfl rfl (fun hg => (And.intro gi (True.intro))) (fun hg => opp_loadP rfl rfl rfl rfl bi rfl ty9) ?_
    | refine sG _ rfl rfl rfl rfl (fun hg => (And.intro gi (True.intro))) (fun hg => opp_loadF rfl rfl ty9) ?_
  refine sG _ rfl rfl rfl rfl (fun hg => (And.intro gi (And.intro gi (True.intro)))) (fun hg => opp_strEq rfl rfl rfl (.inr ⟨rfl, rfl⟩)) ?_
  refine sPick rfl rfl rfl rfl (by exact True.intro) rfl rfl (fun hg => gi) (fun hg => gi) ?_
  refine sP (opp_mv (v := .bool _) rfl rfl) rfl rfl ?_
  first
    | refine sG _ rfl rfl rfl rfl (fun hg => (And.intro gi (True.intro))) (fun hg => opp_fieldP rfl rfl fld73_5 rfl) ?_
    | refine sG _ rfl rfl rfl rfl (fun hg => (And.intro gi (True.intro))) (fun hg => opp_fieldF rfl rfl rfl fld73_5 rfl rfl) ?_
  first
    | refine sG _ rfl rfl rfl rfl (fun hg => (And.intro gi (True.intro))) (fun hg => opp_loadP rfl rfl rfl rfl bi rfl ty3) ?_
    | refine sG _ rfl rfl rfl rfl (fun hg => (And.intro gi (True.intro))) (fun hg => opp_loadF rfl rfl ty3) ?_
  first
    | refine sG _ rfl rfl rfl rfl (fun hg => (And.intro gi (True.intro))) (fun hg => opp_fieldP rfl rfl fld73_5 rfl) ?_
    | refine sG _ rfl rfl rfl rfl (fun hg => (And.intro gi (True.intro))) (fun hg => opp_fieldF rfl rfl rfl fld73_5 rfl rfl) ?_
  first
    | refine sG _ rfl rfl rfl rfl (fun hg => (And.intro gi (True.intro))) (fun hg => opp_loadP rfl rfl rfl rfl bi rfl ty3) ?_
    | refine sG _ rfl rfl rfl rfl (fun hg => (And.intro gi (True.intro))) (fun hg => opp_loadF rfl rfl ty3) ?_
  refine sG _ rfl rfl rfl rfl (fun hg => (And.intro gi (And.intro gi (True.intro)))) (fun hg => opp_cmp rfl rfl rfl rfl) ?_
  refine sPick rfl rfl rfl rfl (by exact True.intro) rfl rfl (fun hg => gi) (fun hg => gi) ?_
  refine sP (opp_mv (v := .bool _) rfl rfl) rfl rfl ?_
  first
    | refine sG _ rfl rfl rfl rfl (fun hg => (And.intro gi (True.intro))) (fun hg => opp_fieldP rfl rfl fld73_4 rfl) ?_
    | refine sG _ rfl rfl rfl rfl (fun hg => (And.intro gi (True.intro))) (fun hg => opp_fieldF rfl rfl rfl fld73_4 rfl rfl) ?_
  first
    | refine sG _ rfl rfl rfl rfl (fun hg => (And.intro gi (True.intro))) (fun hg => opp_loadP rfl rfl rfl rfl bi rfl ty43) ?_
    | refine sG _ rfl rfl rfl rfl (fun hg => (And.intro gi (True.intro))) (fun hg => opp_loadF rfl rfl ty43) ?_
  first
    | refine sG _ rfl rfl rfl rfl (fun hg => (And.intro gi (True.intro))) (fun hg => opp_lenSl rfl rfl un43) ?_
    | refine sG _ rfl rfl rfl rfl (fun hg => (And.intro gi (True.intro))) (fun hg => opp_lenOsl rfl rfl un43) ?_
  first
    | refine sG _ rfl rfl rfl rfl (fun hg => (And.intro gi (True.intro))) (fun hg => opp_fieldP rfl rfl fld73_4 rfl) ?_
    | refine sG _ rfl rfl rfl rfl (fun hg => (And.intro gi (True.intro))) (fun hg => opp_fieldF rfl rfl rfl fld73_4 rfl rfl) ?_
  first
    | refine sG _ rfl rfl rfl rfl (fun hg => (And.intro gi (True.intro))) (fun hg => opp_loadP rfl rfl rfl rfl bi rfl ty43) ?_
    | refine sG _ rfl rfl rfl rfl (fun hg => (And.intro gi (True.intro))) (fun hg => opp_loadF rfl rfl ty43) ?_
  first
    | refine sG _ rfl rfl rfl rfl (fun hg => (And.intro gi (True.intro))) (fun hg => opp_lenSl rfl rfl un43) ?_
    | refine sG _ rfl rfl rfl rfl (fun hg => (And.intro gi (True.intro))) (fun hg => opp_lenOsl rfl rfl un43) ?_
  refine sG _ rfl rfl rfl rfl (fun hg => (And.intro gi (And.intro gi (True.intro)))) (fun hg => opp_cmp rfl rfl rfl rfl) ?_
  refine sPick rfl rfl rfl rfl (by exact True.intro) rfl rfl (fun hg => gi) (fun hg => gi) ?_
  refine awp_cond _ rfl (fun hc3 => ?_) (fun hc3 => ?_)
  · (try simp only [cmpI, errD_nil, Bool.not_eq_true', Bool.not_eq_false', decide_eq_true_eq, decide_eq_false_iff_not] at hc3); have ht47 := hc3
    refine awp_seq ?_
    refine awp_region rfl ?_
    refine sP (opp_as (v := .bool _) rfl rfl) rfl rfl ?_
    refine awp_ret ?_
    repeat (first | refine athen_ret ?_ | refine ain_ret ?_)
    first
      | refine apost_ret (aend1 (r0 := .bool _) (.tmp .nil) (.noN rfl rfl) ⟨Wk.v ?_, rfl, rfl⟩)
      | refine apost_ret (aend1s (r0 := .bool _) (.tmp .nil) shut rfl ⟨Wk.v ?_, rfl, rfl⟩)
    have hq : ¬ s = t := by intro e; subst e; simp [cmpI] at ht47
    exact .of (by simp [hq])
  · (try simp only [cmpI, errD_nil, Bool.not_eq_true', Bool.not_eq_false', decide_eq_true_eq, decide_eq_false_iff_not] at hc3); have ht47 := hc3
    refine awp_skip ?_
    refine awp_seq ?_
    refine awp_seq ?_
    have hq : s.part = t.part ∧ s.xid = t.xid ∧ s.stage = t.stage ∧ s.image = t.image ∧ s.rounds = t.rounds ∧ s.acked.length = t.acked.length := by
      rw [Xid.eq_iff]; simpa [and_assoc, cmpI, Int.natCast_inj] using ht47
    have hql := hq.2.2.2.2.2
    refine awp_region rfl ?_
    refine sP (opp_as (v := .int _ _) rfl rfl) rfl rfl ?_
    refine awp_block ?_
    refine awp_loopK (ι := Nat) (fun i => i ≤ s.acked.length ∧ ∀ j, j < i → s.acked.getD j false = t.acked.getD j false) (fun i => [(4, .top), (5, .int .i64 i), (48, .top), (49, .top), (50, .top), (51, .top), (52, .top), (53, .top), (54, .top), (55, .top), (56, .top), (57, .top), (58, .top), (59, .top), (60, .top), (61, .top), (62, .top), (63, .top), (64, .top), (65, .top)]) (fun i => []) [] (fun i => s.acked.length - i) (0) (⟨Nat.zero_le _, fun j hj => absurd hj (Nat.not_lt_zero _)⟩) (by
      refine imp_over [] rfl rfl (by kernel_rfl) ?_ ?_
      · refine And.intro wkv ?_
        refine And.intro wkv ?_
        refine And.intro wkv ?_
        refine And.intro wkv ?_
        refine And.intro wkv ?_
        refine And.intro wkv ?_
        refine And.intro wkv ?_
        refine And.intro wkv ?_
        refine And.intro wkv ?_
        refine And.intro wkv ?_
        refine And.intro wkv ?_
        refine And.intro wkv ?_
        refine And.intro wkv ?_
        refine And.intro wkv ?_
        refine And.intro wkv ?_
        refine And.intro wkv ?_
        refine And.intro wkv ?_
        refine And.intro wkv ?_
        refine And.intro wkv ?_
        refine And.intro wkv ?_
        exact True.intro
      · exact True.intro
      ) ?_
    intro i hi1
    refine awp_seq ?_
    refine awp_seq ?_
    refine awp_region rfl ?_
    refine sP (opp_mv (v := .int _ _) rfl rfl) rfl rfl ?_
    first
      | refine sP (opp_fieldP rfl rfl fld73_4 rfl) rfl rfl ?_
      | refine sP (opp_fieldF rfl rfl rfl fld73_4 rfl rfl) rfl rfl ?_
    first
      | refine sP (opp_loadP rfl rfl rfl rfl bi rfl ty43) rfl rfl ?_
      | refine sP (opp_loadF rfl rfl ty43) rfl rfl ?_
    first
      | refine sP (opp_lenSl rfl rfl un43) rfl rfl ?_
      | refine sP (opp_lenOsl rfl rfl un43) rfl rfl ?_
    refine sP (opp_cmp rfl rfl rfl rfl) rfl rfl ?_
    refine awp_cond _ rfl (fun hc7 => ?_) (fun hc7 => ?_)
    · (try simp only [cmpI, errD_nil, Bool.not_eq_true', Bool.not_eq_false', decide_eq_true_eq, decide_eq_false_iff_not] at hc7); have ht52 := hc7
      refine awp_skip ?_
      refine awp_seq ?_
      refine awp_block ?_
      refine awp_seq ?_
      refine awp_draw hmix rfl (by kernel_rfl) ?_
      first
        | refine dP (fun _ => false) (opp_fieldP rfl rfl fld73_4 rfl) rfl rfl ?_
        | refine dP (fun _ => false) (opp_fieldF rfl rfl rfl fld73_4 rfl rfl) rfl rfl ?_
      first
        | refine dP (fun n => Nat.beq n 2) (opp_loadP rfl rfl rfl rfl bi rfl ty43) rfl rfl ?_
        | refine dP (fun n => Nat.beq n 2) (opp_loadF rfl rfl ty43) rfl rfl ?_
      refine dP (fun _ => false) (opp_mv (v := .int _ _) rfl rfl) rfl rfl ?_
      first
        | refine dP (fun _ => false) (opp_indexSl rfl rfl rfl el43 (by omega) (by omega)) rfl rfl ?_
        | refine dP (fun _ => false) (opp_indexOsl0 rfl rfl rfl el43 (by omega) (by omega)) rfl rfl ?_
        | refine dP (fun _ => false) (opp_indexOsl rfl rfl rfl el43 (by omega) (by omega)) rfl rfl ?_
      first
        | refine dP (fun n => !([] : List Nat).contains n) (opp_loadP rfl rfl rfl rfl bi rfl ty4) rfl rfl ?_
        | refine dP (fun n => !([] : List Nat).contains n) (opp_loadF rfl rfl ty4) rfl rfl ?_
      first
        | refine dP (fun _ => false) (opp_fieldP rfl rfl fld73_4 rfl) rfl rfl ?_
        | refine dP (fun _ => false) (opp_fieldF rfl rfl rfl fld73_4 rfl rfl) rfl rfl ?_
      first
        | refine dP (fun n => Nat.beq n 3) (opp_loadP rfl rfl rfl rfl bi rfl ty43) rfl rfl ?_
        | refine dP (fun n => Nat.beq n 3) (opp_loadF rfl rfl ty43) rfl rfl ?_
      refine dP (fun _ => false) (opp_mv (v := .int _ _) rfl rfl) rfl rfl ?_
      first
        | refine dP (fun _ => false) (opp_indexSl rfl rfl rfl el43 (by omega) (by omega)) rfl rfl ?_
        | refine dP (fun _ => false) (opp_indexOsl0 rfl rfl rfl el43 (by omega) (by omega)) rfl rfl ?_
        | refine dP (fun _ => false) (opp_indexOsl rfl rfl rfl el43 (by omega) (by omega)) rfl rfl ?_
      first
        | refine dP (fun n => !([] : List Nat).contains n) (opp_loadP rfl rfl rfl rfl bi rfl ty4) rfl rfl ?_
        | refine dP (fun n => !([] : List Nat).contains n) (opp_loadF rfl rfl ty4) rfl rfl ?_
      refine dP (fun _ => false) (opp_boolEq rfl rfl rfl un4 (.inr ⟨rfl, rfl⟩)) rfl rfl ?_
      refine And.intro (by kernel_rfl) ?_
      refine awp_cond _ rfl (fun hc9 => ?_) (fun hc9 => ?_)
      · (try simp only [cmpI, errD_nil, Bool.not_eq_true', Bool.not_eq_false', decide_eq_true_eq, decide_eq_false_iff_not] at hc9); have ht65 := hc9
        refine awp_seq ?_
        refine awp_region rfl ?_
        refine sP (opp_as (v := .bool _) rfl rfl) rfl rfl ?_
        refine awp_ret ?_
        repeat (first | refine athen_ret ?_ | refine ain_ret ?_)
        first
          | refine apost_ret (aend1 (r0 := .bool _) (.tmp .nil) (.noN rfl rfl) ⟨Wk.v ?_, rfl, rfl⟩)
          | refine apost_ret (aend1s (r0 := .bool _) (.tmp .nil) shut rfl ⟨Wk.v ?_, rfl, rfl⟩)
        have hq : ¬ s = t := by intro e; subst e; simp at ht65
        exact .of (by simp [hq])
      · (try simp only [cmpI, errD_nil, Bool.not_eq_true', Bool.not_eq_false', decide_eq_true_eq, decide_eq_false_iff_not] at hc9); have ht65 := hc9
        refine awp_skip ?_
        refine awp_region rfl ?_
        refine sP (opp_mv (v := .int _ _) rfl rfl) rfl rfl ?_
        first
          | refine sP (opp_arith rfl rfl rfl (.inl ⟨rfl, w64 (by omega)⟩)) rfl rfl ?_
          | refine sP (opp_arith rfl rfl rfl (.inl ⟨rfl, rfl⟩)) rfl rfl ?_
        refine sP (opp_as (v := .int _ _) rfl rfl) rfl rfl ?_
        refine Exists.intro (i + 1) (And.intro (And.intro (⟨by show i + 1 ≤ s.acked.length; omega, fun j hj => by by_cases e : j = i; (subst e; simpa using ht65); exact hi1.2 j (by omega)⟩) (by omega)) (by
          refine imp_over [] rfl rfl (by kernel_rfl) ?_ ?_
          · refine And.intro wkv ?_
            refine And.intro wkv ?_
            refine And.intro wkv ?_
            refine And.intro wkv ?_
            refine And.intro wkv ?_
            refine And.intro wkv ?_
            refine And.intro wkv ?_
            refine And.intro wkv ?_
            refine And.intro wkv ?_
            refine And.intro wkv ?_
            refine And.intro wkv ?_
            refine And.intro wkv ?_
            refine And.intro wkv ?_
            refine And.intro wkv ?_
            refine And.intro wkv ?_
            refine And.intro wkv ?_
            refine And.intro wkv ?_
            refine And.intro wkv ?_
            refine And.intro wkv ?_
            refine And.intro wkv ?_
            exact True.intro
          · exact True.intro
          ))
    · (try simp only [cmpI, errD_nil, Bool.not_eq_true', Bool.not_eq_false', decide_eq_true_eq, decide_eq_false_iff_not] at hc7); have ht52 := hc7
      refine awp_exit ?_
      refine awp_seq ?_
      refine awp_region rfl ?_
      refine sP (opp_as (v := .bool _) rfl rfl) rfl rfl ?_
      refine awp_ret ?_
      repeat (first | refine athen_ret ?_ | refine ain_ret ?_)
      first
        | refine apost_ret (aend1 (r0 := .bool _) (.tmp .nil) (.noN rfl rfl) ⟨Wk.v ?_, rfl, rfl⟩)
        | refine apost_ret (aend1s (r0 := .bool _) (.tmp .nil) shut rfl ⟨Wk.v ?_, rfl, rfl⟩)
      have hq2 : s = t := by
        have hi2 : i = s.acked.length := by omega
        have ha : s.acked = t.acked := by
          apply List.ext_getElem?
          intro j
          rcases Nat.lt_or_ge j s.acked.length with hj | hj
          · have := hi1.2 j (by omega)
            simp only [List.getD_eq_getElem?_getD, List.getElem?_eq_getElem hj, List.getElem?_eq_getElem (show j < t.acked.length by omega), Option.getD_some] at this
            rw [List.getElem?_eq_getElem hj, List.getElem?_eq_getElem (show j < t.acked.length by omega), this]
          · rw [List.getElem?_eq_none hj, List.getElem?_eq_none (by omega)]
        obtain ⟨a1, a2, a3, a4, a5, -⟩ := hq
        cases s; cases t; simp_all
      exact .of (by simp [hq2])
theorem c29 (p : Int) (x : Xid) (st : Int) (b : Bool) (im : List UInt8) (h0 : im.length ≤ 281474976710656) :
    APure (V ea cds gl) 29 [.int .i64 p, xidAV x, .int .i64 st, .sl 1 b im.length (bAt im)] false (.tup [sendAV (decide ((Sp.start p x st im).2 ≠ 0)) (Sp.start p x st im).1, .int .i64 ((Sp.start p x st im).2 : Nat)]) := by
  refine acalls_of_body (N := 33) Tryd.func29 rfl rfl (Nat.le_of_ble_eq_true rfl) fun C hV hN hM hO => ?_
  obtain ⟨_, _, w0, G0, σ0, _, own0⟩ := C; dsimp only at hV hN hM hO; subst hV; subst hN; subst hM
  refine awp_seq ?_
  refine awp_region rfl ?_
  refine sR (opr_box (y := .agg _) (n := 5) rfl rfl rfl) rfl rfl rfl ?_
  refine sR (opr_alloc (n := 8) rfl z73) rfl rfl rfl ?_
  refine sP (opp_as (v := .int _ _) rfl rfl) rfl rfl ?_
  refine awp_seq ?_
  refine awp_region rfl ?_
  refine sP (opp_mv (v := .int _ _) rfl rfl) rfl rfl ?_
  first
    | refine sP (opp_loadP rfl rfl rfl rfl bi rfl ty23) rfl rfl ?_
    | refine sP (opp_loadF rfl rfl ty23) rfl rfl ?_
  refine sP (opp_mv (v := .int _ _) rfl rfl) rfl rfl ?_
  first
    | refine sP (opp_mv (v := .sl _ _ _ _) rfl rfl) rfl rfl ?_
    | refine sP (opp_mv (v := .osl _ _ _ _ _) rfl rfl) rfl rfl ?_
  refine sR (opr_call rfl rfl ent49 rfl (c49 p x st b im h0) (AViews.refl _ rfl)) rfl rfl rfl ?_ -- d=17 t=114
  refine sP (opp_mv (v := .tup _) rfl rfl) rfl rfl ?_
  refine sP (opp_extract rfl rfl rfl) rfl rfl ?_
  refine sP (opp_extract rfl rfl rfl) rfl rfl ?_
  first
    | refine sP (opp_as (v := .sl _ _ _ _) rfl rfl) rfl rfl ?_
    | refine sP (opp_as (v := .osl _ _ _ _ _) rfl rfl) rfl rfl ?_
  refine sP (opp_as (v := .int _ _) rfl rfl) rfl rfl ?_
  refine awp_seq ?_
  refine awp_seq ?_
  refine awp_region rfl ?_
  refine sP (opp_mv (v := .int _ _) rfl rfl) rfl rfl ?_
  refine sP (opp_cmp rfl rfl rfl rfl) rfl rfl ?_
  refine awp_cond _ rfl (fun hc4 => ?_) (fun hc4 => ?_)
  · (try simp only [cmpI, errD_nil, Bool.not_eq_true', Bool.not_eq_false', decide_eq_true_eq, decide_eq_false_iff_not] at hc4); have ht21 := hc4
    refine awp_seq ?_
    refine awp_region rfl ?_
    refine sP (opp_build rfl z73 bld73 rfl [.int .i64 0, .agg [.int .i64 0, .int .i64 0, .int .i64 0], .int .i64 0, .str [], .sl 1 true 0 (fun _ => .top), .int .i64 0] rfl) rfl rfl ?_
    refine sP (opp_mv (v := .int _ _) rfl rfl) rfl rfl ?_
    refine sR0 (opr_store (v := .agg _) (trn := (.agg _)) rfl rfl rfl rfl bi rfl rfl rfl rfl fr2 ty73 (fun _ _ h => h)) rfl rfl rfl ?_
    refine sP (opp_as (v := .int _ _) rfl rfl) rfl rfl ?_
    refine awp_ret ?_
    repeat (first | refine athen_ret ?_ | refine ain_ret ?_)
    first
      | refine apost_ret (aend (l := [.agg _, .int _ _]) (.cell rfl rfl rfl (by exact True.intro) rfl ty73 (.tmp .nil)) (fun h => by cases h) (.cons (.noN rfl rfl) (.cons (.noN rfl rfl) .nil)) ⟨Wk.v ?_, rfl, rfl⟩)
      | refine apost_ret (aends (l := [.agg _, .int _ _]) (.cell rfl rfl rfl (by exact True.intro) rfl ty73 (.tmp .nil)) (fun h => by cases h) (.cons shut (fun h => by cases h) (.cons shut (fun h => by cases h) .nil)) rfl ⟨Wk.v ?_, rfl, rfl⟩)
    have hc : (Sp.cut p x st im).2 ≠ 0 := by simpa using ht21
    rw [show Sp.start p x st im = (Sp.zeroSend, (Sp.cut p x st im).2) from if_pos hc]; simp only [hc, ne_eq, not_false_eq_true, decide_true, sendAV, Sp.zeroSend, xidAV, List.length_nil]; (repeat' (first | exact Wk.refl | exact Wk.sl0 | apply Wk.tup | apply Wk.agg | apply WkL.cons | exact WkL.nil | refine Wk.sl (fun _ _ => ?_)))
  · (try simp only [cmpI, errD_nil, Bool.not_eq_true', Bool.not_eq_false', decide_eq_true_eq, decide_eq_false_iff_not] at hc4); have ht21 := hc4
    refine awp_skip ?_
    refine awp_seq ?_
    have hcut : (Sp.cut p x st im).2 = 0 := by simpa using ht21
    have hcl := Sp.cut_len p x st im
    refine awp_draw hmix rfl (by kernel_rfl) ?_
    refine dP (fun _ => false) (opp_mv (v := .int _ _) rfl rfl) rfl rfl ?_
    first
      | refine dP (fun n => Nat.beq n 5) (opp_loadP rfl rfl rfl rfl bi rfl ty23) rfl rfl ?_
      | refine dP (fun n => Nat.beq n 5) (opp_loadF rfl rfl ty23) rfl rfl ?_
    refine dP (fun _ => false) (opp_mv (v := .int _ _) rfl rfl) rfl rfl ?_
    first
      | refine dP (fun _ => false) (opp_mv (v := .sl _ _ _ _) rfl rfl) rfl rfl ?_
      | refine dP (fun _ => false) (opp_mv (v := .osl _ _ _ _ _) rfl rfl) rfl rfl ?_
    refine dP (fun _ => false) (opp_bytesStr rfl rfl im rfl (fun j hj => rfl) un36 unu8 un9) rfl rfl ?_
    first
      | refine dP (fun _ => false) (opp_mv (v := .sl _ _ _ _) rfl rfl) rfl rfl ?_
      | refine dP (fun _ => false) (opp_mv (v := .osl _ _ _ _ _) rfl rfl) rfl rfl ?_
    first
      | refine dP (fun _ => false) (opp_lenSl rfl rfl un48) rfl rfl ?_
      | refine dP (fun _ => false) (opp_lenOsl rfl rfl un48) rfl rfl ?_
    refine dR (fun _ => false) (opr_make (n := 31) rfl rfl rfl eb43 z4 (by omega) (by omega) (by omega) (by omega)) rfl rfl rfl ?_
    first
      | refine dP (fun _ => false) (opp_build rfl z73 bld73 rfl [.int _ _, .agg _, .int _ _, .str _, .sl _ _ _ _, .int .i64 0] rfl) rfl rfl ?_
      | refine dP (fun _ => false) (opp_build rfl z73 bld73 rfl [.int _ _, .agg _, .int _ _, .str _, .osl _ _ _ _ _, .int .i64 0] rfl) rfl rfl ?_
    refine dR0 (fun n => Nat.beq n 8) (opr_store (v := .agg _) (trn := (.agg _)) rfl rfl rfl rfl bi rfl rfl rfl rfl fr2 ty73 (fun _ _ h => h)) rfl rfl rfl ?_
    refine dP (fun _ => false) (opp_as (v := .int _ _) rfl rfl) rfl rfl ?_
    refine And.intro (by kernel_rfl) ?_
    refine awp_ret ?_
    repeat (first | refine athen_ret ?_ | refine ain_ret ?_)
    first
      | refine apost_ret (aend (l := [.agg _, .int _ _]) (.cell rfl rfl rfl (by exact True.intro) rfl ty73 (.tmp .nil)) (fun h => by cases h) (.cons (.noN rfl rfl) (.cons (.noN rfl rfl) .nil)) ⟨Wk.v ?_, rfl, rfl⟩)
      | refine apost_ret (aends (l := [.agg _, .int _ _]) (.cell rfl rfl rfl (by exact True.intro) rfl ty73 (.tmp .nil)) (fun h => by cases h) (.cons shut (fun h => by cases h) (.cons shut (fun h => by cases h) .nil)) rfl ⟨Wk.v ?_, rfl, rfl⟩)
    rw [show Sp.start p x st im = (⟨p, x, st, im, List.replicate (Sp.cut p x st im).1.length false, 0⟩, 0) from if_neg (by simp [hcut])]
    simp only [ne_eq, not_true_eq_false, decide_false, sendAV, xidAV, List.length_replicate]; (repeat' (first | exact Wk.refl | exact Wk.sl0 | apply Wk.tup | apply Wk.agg | apply WkL.cons | exact WkL.nil | refine Wk.sl (fun _ _ => ?_)))
    rename_i j hj; simp only [blAt, List.getD_eq_getElem?_getD, List.getElem?_replicate]; split <;> rfl
theorem c10 (n : Note) (b : Bool) (im : List UInt8) (h0 : im.length ≤ 281474976710656) (hS : Sents cds gl) : APure (V ea cds gl) 10 [noteAV n, .sl 1 b im.length (bAt im)] false (.bool true) := by
  have hcode := start_code n.part n.xid n.stage im
  have hlen : (Sp.start n.part n.xid n.stage im).1.acked.length ≤ 4611686018427387904 := by
    have hcl := Sp.cut_len n.part n.xid n.stage im
    unfold Sp.start; split
    · simp [Sp.zeroSend]
    · simp; omega
  refine acalls_of_body (N := 42) Tryd.func10 rfl rfl (Nat.le_of_ble_eq_true rfl) fun C hV hN hM hO => ?_
  obtain ⟨_, _, w0, G0, σ0, _, own0⟩ := C; dsimp only at hV hN hM hO; subst hV; subst hN; subst hM
  refine awp_seq ?_
  refine awp_region rfl ?_
  refine sR (opr_box (y := .agg _) (n := 2) rfl rfl rfl) rfl rfl rfl ?_
  refine sP (opp_as (v := .bool _) rfl rfl) rfl rfl ?_
  refine awp_seq ?_
  refine awp_seq ?_
  refine awp_region rfl ?_
  refine sR (opr_call rfl rfl ent19 rfl (c19 hS.hG3 hS.hG4 hS.hG5 hS.hG2 hS.hG7 hS.hG8 hS.hG6) (AViews.refl _ rfl)) rfl rfl rfl ?_ -- d=9 t=4
  refine sP (opp_not rfl rfl) rfl rfl ?_
  refine awp_cond _ rfl (fun hc3 => ?_) (fun hc3 => ?_)
  · (try simp only [cmpI, errD_nil, Bool.not_eq_true', Bool.not_eq_false', decide_eq_true_eq, decide_eq_false_iff_not] at hc3); have ht10 := hc3
    cases ht10
  · (try simp only [cmpI, errD_nil, Bool.not_eq_true', Bool.not_eq_false', decide_eq_true_eq, decide_eq_false_iff_not] at hc3); have ht10 := hc3
    refine awp_skip ?_
    refine awp_seq ?_
    refine awp_region rfl ?_
    first
      | refine sP (opp_fieldP rfl rfl fld26_1 rfl) rfl rfl ?_
      | refine sP (opp_fieldF rfl rfl rfl fld26_1 rfl rfl) rfl rfl ?_
    first
      | refine sP (opp_loadP rfl rfl rfl rfl bi rfl ty3) rfl rfl ?_
      | refine sP (opp_loadF rfl rfl ty3) rfl rfl ?_
    first
      | refine sP (opp_fieldP rfl rfl fld26_2 rfl) rfl rfl ?_
      | refine sP (opp_fieldF rfl rfl rfl fld26_2 rfl rfl) rfl rfl ?_
    first
      | refine sP (opp_loadP rfl rfl rfl rfl bi rfl ty23) rfl rfl ?_
      | refine sP (opp_loadF rfl rfl ty23) rfl rfl ?_
    first
      | refine sP (opp_fieldP rfl rfl fld26_3 rfl) rfl rfl ?_
      | refine sP (opp_fieldF rfl rfl rfl fld26_3 rfl rfl) rfl rfl ?_
    first
      | refine sP (opp_loadP rfl rfl rfl rfl bi rfl ty3) rfl rfl ?_
      | refine sP (opp_loadF rfl rfl ty3) rfl rfl ?_
    first
      | refine sP (opp_mv (v := .sl _ _ _ _) rfl rfl) rfl rfl ?_
      | refine sP (opp_mv (v := .osl _ _ _ _ _) rfl rfl) rfl rfl ?_
    refine sR (opr_call rfl rfl ent29 rfl (c29 n.part n.xid n.stage b im h0) (AViews.refl _ rfl)) rfl rfl rfl ?_ -- d=19 t=79
    refine sP (opp_mv (v := .tup _) rfl rfl) rfl rfl ?_
    refine sP (opp_extract rfl rfl rfl) rfl rfl ?_
    refine sP (opp_extract rfl rfl rfl) rfl rfl ?_
    refine sR (opr_alloc (n := 5) rfl z73) rfl rfl rfl ?_
    refine sR0 (opr_store (v := .agg _) (trn := (.agg _)) rfl rfl rfl rfl bi rfl rfl rfl rfl fr2 ty73 (fun _ _ h => h)) rfl rfl rfl ?_
    refine sP (opp_as (v := .int _ _) rfl rfl) rfl rfl ?_
    refine awp_seq ?_
    refine awp_region rfl ?_
    first
      | refine sP (opp_fieldP rfl rfl fld26_1 rfl) rfl rfl ?_
      | refine sP (opp_fieldF rfl rfl rfl fld26_1 rfl rfl) rfl rfl ?_
    first
      | refine sP (opp_loadP rfl rfl rfl rfl bi rfl ty3) rfl rfl ?_
      | refine sP (opp_loadF rfl rfl ty3) rfl rfl ?_
    first
      | refine sP (opp_fieldP rfl rfl fld26_2 rfl) rfl rfl ?_
      | refine sP (opp_fieldF rfl rfl rfl fld26_2 rfl rfl) rfl rfl ?_
    first
      | refine sP (opp_loadP rfl rfl rfl rfl bi rfl ty23) rfl rfl ?_
      | refine sP (opp_loadF rfl rfl ty23) rfl rfl ?_
    first
      | refine sP (opp_fieldP rfl rfl fld26_3 rfl) rfl rfl ?_
      | refine sP (opp_fieldF rfl rfl rfl fld26_3 rfl rfl) rfl rfl ?_
    first
      | refine sP (opp_loadP rfl rfl rfl rfl bi rfl ty3) rfl rfl ?_
      | refine sP (opp_loadF rfl rfl ty3) rfl rfl ?_
    first
      | refine sP (opp_mv (v := .sl _ _ _ _) rfl rfl) rfl rfl ?_
      | refine sP (opp_mv (v := .osl _ _ _ _ _) rfl rfl) rfl rfl ?_
    refine sR (opr_call rfl rfl ent20 rfl (c20 n.part n.xid n.stage b im hS.hG2 hS.hG6) (AViews.refl _ rfl)) rfl rfl rfl ?_ -- d=30 t=46
    refine sP (opp_mv (v := .tup _) rfl rfl) rfl rfl ?_
    refine sP (opp_extract rfl rfl rfl) rfl rfl ?_
    refine sP (opp_extract rfl rfl rfl) rfl rfl ?_
    refine sR (opr_alloc (n := 7) rfl z45) rfl rfl rfl ?_
    refine sR0 (opr_store (v := .agg _) (trn := (.agg _)) rfl rfl rfl rfl bi rfl rfl rfl rfl fr2 ty45 (fun _ _ h => h)) rfl rfl rfl ?_
    refine sP (opp_as (v := .err _) rfl rfl) rfl rfl ?_
    refine awp_seq ?_
    refine awp_draw hmix rfl (by kernel_rfl) ?_
    refine dP (fun _ => false) (opp_mv (v := .err _) rfl rfl) rfl rfl ?_
    refine dP (fun _ => false) (opp_mv (v := .int _ _) rfl rfl) rfl rfl ?_
    refine dR (fun n => !([] : List Nat).contains n) (opr_call rfl rfl ent52 rfl (c52 (Sp.start n.part n.xid n.stage im).2 _ (by omega) hS) (AViews.refl _ rfl)) rfl rfl rfl ?_ -- d=35 t=4
    refine dP (fun _ => false) (opp_mv (v := .bool _) rfl rfl) rfl rfl ?_
    first
      | refine dG _ (fun n => Nat.beq n 7) rfl rfl rfl rfl (fun hg => (And.intro gi (True.intro))) (fun hg => opp_loadP rfl rfl rfl rfl bi rfl ty45) ?_
      | refine dG _ (fun n => Nat.beq n 7) rfl rfl rfl rfl (fun hg => (And.intro gi (True.intro))) (fun hg => opp_loadF rfl rfl ty45) ?_
    refine dGR _ (fun n => !([] : List Nat).contains n) rfl rfl rfl rfl (fun hg => (And.intro gi (And.intro gi (True.intro)))) (fun hg => (opr_call rfl rfl ent37 rfl (c37 _ (Sp.start n.part n.xid n.stage im).1) (AViews.refl _ rfl))) ?_
    first
      | refine dG _ (fun n => Nat.beq n 5) rfl rfl rfl rfl (fun hg => (And.intro gi (True.intro))) (fun hg => opp_loadP rfl rfl rfl rfl bi rfl ty73) ?_
      | refine dG _ (fun n => Nat.beq n 5) rfl rfl rfl rfl (fun hg => (And.intro gi (True.intro))) (fun hg => opp_loadF rfl rfl ty73) ?_
    refine dGR _ (fun n => !([] : List Nat).contains n) rfl rfl rfl rfl (fun hg => (And.intro gi (And.intro gi (And.intro gi (True.intro))))) (fun hg => (opr_call rfl rfl ent35 rfl (c35 _ _ (Sp.start n.part n.xid n.stage im).1 (Sp.start n.part n.xid n.stage im).1 hlen) (AViews.refl _ rfl))) ?_
    refine dPick (fun _ => false) rfl rfl rfl rfl (by exact True.intro) rfl rfl (fun hg => gi) (fun hg => gi) ?_
    refine dP (fun _ => false) (opp_as (v := .bool _) rfl rfl) rfl rfl ?_
    refine And.intro (by kernel_rfl) ?_
    refine awp_ret ?_
    repeat (first | refine athen_ret ?_ | refine ain_ret ?_)
    first
      | refine apost_ret (aend1 (r0 := .bool _) (.tmp .nil) (.noN rfl rfl) ⟨Wk.v ?_, rfl, rfl⟩)
      | refine apost_ret (aend1s (r0 := .bool _) (.tmp .nil) shut rfl ⟨Wk.v ?_, rfl, rfl⟩)
    exact .of (by simp)
end
end Go.Proofs.YtgaihhimkodmmaaDoor

