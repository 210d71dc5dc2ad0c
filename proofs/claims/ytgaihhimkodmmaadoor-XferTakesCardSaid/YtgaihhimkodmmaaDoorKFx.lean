/- Layer 22: the fixed fact of the layer's laws (walks over this dump). -/
import Derived.Test.YtgaihhimkodmmaaDoorKEx
namespace Go.Proofs.YtgaihhimkodmmaaDoor
attribute [local irreducible] Tryd.prog
open Go.Fy
set_option linter.unusedSimpArgs false
section
variable {ea : Nat → Addr} {cds : List Nat} {gl : Nat → Option AV}
theorem aw76 : APure (V ea cds gl) 76 [.int .i64 130] true (.sl 1 false (Sp.dataL 130).length (bAt (Sp.dataL 130))) := by
  have h := c76 (ea := ea) (cds := cds) (gl := gl) 130 (by decide)
  exact h
theorem aw20 (hG2 : gl 2 = some (.err (.code 12))) (hG6 : gl 6 = some (.err (.code 11))) : APure (V ea cds gl) 20 [.int .i64 2, xidAV Sp.aX, .int .i64 1, .sl 1 false (Sp.dataL 130).length (bAt (Sp.dataL 130))] false (.tup [sendAV false Sp.aS, .err .nil]) := by
  have h := c20 (ea := ea) (cds := cds) (gl := gl) 2 Sp.aX 1 false (Sp.dataL 130) hG2 hG6
  rw [Sp.aw_start] at h; exact h
theorem aw21 (hG2 : gl 2 = some (.err (.code 12))) (hG6 : gl 6 = some (.err (.code 11))) (hG3 : gl 3 = some (.err (.code 9))) :
    APure (V ea cds gl) 21 [sendAV false Sp.aS] false (.tup [.sl 10 false 2 (noAt [Sp.aN0, Sp.aN1]), .err .nil]) := by
  have h := c21 (ea := ea) (cds := cds) (gl := gl) false Sp.aS hG2 hG6 hG3
  rw [Sp.aw_due] at h; exact h
section
variable (hG3 : gl 3 = some (.err (.code 9))) (hG4 : gl 4 = some (.err (.code 7))) (hG5 : gl 5 = some (.err (.code 10))) (hG2 : gl 2 = some (.err (.code 12))) (hG7 : gl 7 = some (.err (.code 14))) (hG8 : gl 8 = some (.err (.code 4))) (hG6 : gl 6 = some (.err (.code 11)))
include hG3 hG4 hG5 hG2 hG7 hG8
theorem aw22a : APure (V ea cds gl) 22 [recvAV true Sp.zeroR, noteAV Sp.aN1] false (.tup [recvAV false Sp.aR1, noteAV Sp.aA1, .err .nil]) := by
  have h := c22 (ea := ea) (cds := cds) (gl := gl) true Sp.zeroR Sp.aN1 (by decide) (by decide) hG3 hG4 hG5 hG2 hG7 hG8
  rw [Sp.aw_take1] at h; exact h
theorem aw22b : APure (V ea cds gl) 22 [recvAV false Sp.aR1, noteAV Sp.aN0] false (.tup [recvAV false Sp.aR2, noteAV Sp.aA0, .err .nil]) := by
  have h := c22 (ea := ea) (cds := cds) (gl := gl) false Sp.aR1 Sp.aN0 (by decide) (by decide) hG3 hG4 hG5 hG2 hG7 hG8
  rw [Sp.aw_take2] at h; exact h
omit hG4 hG5 hG2 hG7 hG8 in
theorem aw23 : APure (V ea cds gl) 23 [recvAV false Sp.aR2] false (.tup [.sl 1 false (Sp.dataL 130).length (bAt (Sp.dataL 130)), .bool true, .err .nil]) := by
  have h := c23 (ea := ea) (cds := cds) (gl := gl) false Sp.aR2 (by decide) hG3
  rw [Sp.aw_whole] at h; exact h
include hG6
theorem c19 : APure (V ea cds gl) 19 [] false (.bool true) := by
  refine acalls_of_body (N := 99) Tryd.func19 rfl rfl (Nat.le_of_ble_eq_true rfl) fun C hV hN hM hO => ?_
  obtain ⟨_, _, w0, G0, σ0, _, own0⟩ := C; dsimp only at hV hN hM hO; subst hV; subst hN; subst hM
  refine awp_seq ?_
  refine awp_region rfl ?_
  refine sP (opp_as (v := .bool _) rfl rfl) rfl rfl ?_
  refine awp_seq ?_
  refine awp_region rfl ?_
  refine sP (opp_build rfl z23 bld23 rfl [.int _ _, .int _ _, .int _ _] rfl) rfl rfl ?_
  refine sR (opr_call rfl rfl ent76 rfl (aw76) (AViews.refl _ rfl)) rfl rfl rfl ?_ -- d=10 t=36
  refine sR (opr_call rfl rfl ent20 rfl (aw20 hG2 hG6) (AViews.refl _ rfl)) rfl rfl rfl ?_ -- d=11 t=46
  refine sP (opp_mv (v := .tup _) rfl rfl) rfl rfl ?_
  refine sP (opp_extract rfl rfl rfl) rfl rfl ?_
  refine sP (opp_extract rfl rfl rfl) rfl rfl ?_
  refine sR (opr_alloc (n := 1) rfl z45) rfl rfl rfl ?_
  refine sR0 (opr_store (v := .agg _) (trn := (.agg _)) rfl rfl rfl rfl bi rfl rfl rfl rfl fr2 ty45 (fun _ _ h => h)) rfl rfl rfl ?_
  refine sP (opp_as (v := .err _) rfl rfl) rfl rfl ?_
  refine awp_seq ?_
  refine awp_seq ?_
  refine awp_region rfl ?_
  refine sP (opp_mv (v := .err _) rfl rfl) rfl rfl ?_
  refine sP (opp_errNil rfl rfl rfl un29 (.inr ⟨rfl, rfl⟩)) rfl rfl ?_
  refine sP (opp_mv (v := .bool _) rfl rfl) rfl rfl ?_
  first
    | refine sG _ rfl rfl rfl rfl (fun hg => (And.intro gi (True.intro))) (fun hg => opp_fieldP rfl rfl fld45_4 rfl) ?_
    | refine sG _ rfl rfl rfl rfl (fun hg => (And.intro gi (True.intro))) (fun hg => opp_fieldF rfl rfl rfl fld45_4 rfl rfl) ?_
  first
    | refine sG _ rfl rfl rfl rfl (fun hg => (And.intro gi (True.intro))) (fun hg => opp_loadP rfl rfl rfl rfl bi rfl ty43) ?_
    | refine sG _ rfl rfl rfl rfl (fun hg => (And.intro gi (True.intro))) (fun hg => opp_loadF rfl rfl ty43) ?_
  first
    | refine sG _ rfl rfl rfl rfl (fun hg => (And.intro gi (True.intro))) (fun hg => opp_lenSl rfl rfl un43) ?_
    | refine sG _ rfl rfl rfl rfl (fun hg => (And.intro gi (True.intro))) (fun hg => opp_lenOsl rfl rfl un43) ?_
  refine sG _ rfl rfl rfl rfl (fun hg => (And.intro gi (And.intro gi (True.intro)))) (fun hg => opp_cmp rfl rfl rfl rfl) ?_
  refine sPick rfl rfl rfl rfl (by exact True.intro) rfl rfl (fun hg => gi) (fun hg => gi) ?_
  refine awp_cond _ rfl (fun hc4 => ?_) (fun hc4 => ?_)
  · try simp only [cmpI, errD_nil, Bool.not_eq_true', Bool.not_eq_false', decide_eq_true_eq, decide_eq_false_iff_not] at hc4; have ht21 := hc4
    refine awp_seq ?_
    refine awp_region rfl ?_
    refine sP (opp_as (v := .bool _) rfl rfl) rfl rfl ?_
    refine awp_ret ?_
    repeat (first | refine athen_ret ?_ | refine ain_ret ?_)
    first
      | refine apost_ret (aend1 (r0 := .bool _) (.tmp .nil) (.noN rfl rfl) ⟨Wk.v ?_, rfl, rfl⟩)
      | refine apost_ret (aend1s (r0 := .bool _) (.tmp .nil) shut rfl ⟨Wk.v ?_, rfl, rfl⟩)
    exact absurd ht21 (by decide +kernel)
  · try simp only [cmpI, errD_nil, Bool.not_eq_true', Bool.not_eq_false', decide_eq_true_eq, decide_eq_false_iff_not] at hc4; have ht21 := hc4
    refine awp_skip ?_
    refine awp_seq ?_
    refine awp_region rfl ?_
    first
      | refine sP (opp_loadP rfl rfl rfl rfl bi rfl ty45) rfl rfl ?_
      | refine sP (opp_loadF rfl rfl ty45) rfl rfl ?_
    refine sR (opr_call rfl rfl ent21 rfl (aw21 hG2 hG6 hG3) (AViews.refl _ rfl)) rfl rfl rfl ?_ -- d=24 t=49
    refine sP (opp_mv (v := .tup _) rfl rfl) rfl rfl ?_
    refine sP (opp_extract rfl rfl rfl) rfl rfl ?_
    refine sP (opp_extract rfl rfl rfl) rfl rfl ?_
    first
      | refine sP (opp_as (v := .sl _ _ _ _) rfl rfl) rfl rfl ?_
      | refine sP (opp_as (v := .osl _ _ _ _ _) rfl rfl) rfl rfl ?_
    refine sP (opp_as (v := .err _) rfl rfl) rfl rfl ?_
    refine awp_seq ?_
    refine awp_seq ?_
    refine awp_region rfl ?_
    refine sP (opp_mv (v := .err _) rfl rfl) rfl rfl ?_
    refine sP (opp_errNil rfl rfl rfl un29 (.inr ⟨rfl, rfl⟩)) rfl rfl ?_
    refine sP (opp_mv (v := .bool _) rfl rfl) rfl rfl ?_
    first
      | refine sG _ rfl rfl rfl rfl (fun hg => (And.intro gi (True.intro))) (fun hg => opp_mv (v := .sl _ _ _ _) rfl rfl) ?_
      | refine sG _ rfl rfl rfl rfl (fun hg => (And.intro gi (True.intro))) (fun hg => opp_mv (v := .osl _ _ _ _ _) rfl rfl) ?_
    first
      | refine sG _ rfl rfl rfl rfl (fun hg => (And.intro gi (True.intro))) (fun hg => opp_lenSl rfl rfl un48) ?_
      | refine sG _ rfl rfl rfl rfl (fun hg => (And.intro gi (True.intro))) (fun hg => opp_lenOsl rfl rfl un48) ?_
    refine sG _ rfl rfl rfl rfl (fun hg => (And.intro gi (And.intro gi (True.intro)))) (fun hg => opp_cmp rfl rfl rfl rfl) ?_
    refine sPick rfl rfl rfl rfl (by exact True.intro) rfl rfl (fun hg => gi) (fun hg => gi) ?_
    refine sP (opp_mv (v := .bool _) rfl rfl) rfl rfl ?_
    first
      | refine sG _ rfl rfl rfl rfl (fun hg => (And.intro gi (True.intro))) (fun hg => opp_mv (v := .sl _ _ _ _) rfl rfl) ?_
      | refine sG _ rfl rfl rfl rfl (fun hg => (And.intro gi (True.intro))) (fun hg => opp_mv (v := .osl _ _ _ _ _) rfl rfl) ?_
    first
      | refine sG _ rfl rfl rfl rfl (fun hg => (And.intro gi (And.intro gi (True.intro)))) (fun hg => opp_indexSl rfl rfl rfl el48 (by omega) (by omega)) ?_
      | refine sG _ rfl rfl rfl rfl (fun hg => (And.intro gi (And.intro gi (True.intro)))) (fun hg => opp_indexOsl0 rfl rfl rfl el48 (by omega) (by omega)) ?_
      | refine sG _ rfl rfl rfl rfl (fun hg => (And.intro gi (And.intro gi (True.intro)))) (fun hg => opp_indexOsl rfl rfl rfl el48 (by omega) (by omega)) ?_
    first
      | refine sG _ rfl rfl rfl rfl (fun hg => (And.intro gi (True.intro))) (fun hg => opp_fieldP rfl rfl fld26_4 rfl) ?_
      | refine sG _ rfl rfl rfl rfl (fun hg => (And.intro gi (True.intro))) (fun hg => opp_fieldF rfl rfl rfl fld26_4 rfl rfl) ?_
    first
      | refine sG _ rfl rfl rfl rfl (fun hg => (And.intro gi (True.intro))) (fun hg => opp_loadP rfl rfl rfl rfl bi rfl ty3) ?_
      | refine sG _ rfl rfl rfl rfl (fun hg => (And.intro gi (True.intro))) (fun hg => opp_loadF rfl rfl ty3) ?_
    refine sG _ rfl rfl rfl rfl (fun hg => (And.intro gi (And.intro gi (True.intro)))) (fun hg => opp_cmp rfl rfl rfl rfl) ?_
    refine sPick rfl rfl rfl rfl (by exact True.intro) rfl rfl (fun hg => gi) (fun hg => gi) ?_
    refine sP (opp_mv (v := .bool _) rfl rfl) rfl rfl ?_
    first
      | refine sG _ rfl rfl rfl rfl (fun hg => (And.intro gi (True.intro))) (fun hg => opp_mv (v := .sl _ _ _ _) rfl rfl) ?_
      | refine sG _ rfl rfl rfl rfl (fun hg => (And.intro gi (True.intro))) (fun hg => opp_mv (v := .osl _ _ _ _ _) rfl rfl) ?_
    first
      | refine sG _ rfl rfl rfl rfl (fun hg => (And.intro gi (And.intro gi (True.intro)))) (fun hg => opp_indexSl rfl rfl rfl el48 (by omega) (by omega)) ?_
      | refine sG _ rfl rfl rfl rfl (fun hg => (And.intro gi (And.intro gi (True.intro)))) (fun hg => opp_indexOsl0 rfl rfl rfl el48 (by omega) (by omega)) ?_
      | refine sG _ rfl rfl rfl rfl (fun hg => (And.intro gi (And.intro gi (True.intro)))) (fun hg => opp_indexOsl rfl rfl rfl el48 (by omega) (by omega)) ?_
    first
      | refine sG _ rfl rfl rfl rfl (fun hg => (And.intro gi (True.intro))) (fun hg => opp_fieldP rfl rfl fld26_7 rfl) ?_
      | refine sG _ rfl rfl rfl rfl (fun hg => (And.intro gi (True.intro))) (fun hg => opp_fieldF rfl rfl rfl fld26_7 rfl rfl) ?_
    first
      | refine sG _ rfl rfl rfl rfl (fun hg => (And.intro gi (True.intro))) (fun hg => opp_loadP rfl rfl rfl rfl bi rfl ty9) ?_
      | refine sG _ rfl rfl rfl rfl (fun hg => (And.intro gi (True.intro))) (fun hg => opp_loadF rfl rfl ty9) ?_
    refine sG _ rfl rfl rfl rfl (fun hg => (And.intro gi (True.intro))) (fun hg => opp_lenStr rfl rfl un9) ?_
    refine sG _ rfl rfl rfl rfl (fun hg => (And.intro gi (And.intro gi (True.intro)))) (fun hg => opp_cmp rfl rfl rfl rfl) ?_
    refine sPick rfl rfl rfl rfl (by exact True.intro) rfl rfl (fun hg => gi) (fun hg => gi) ?_
    refine awp_cond _ rfl (fun hc8 => ?_) (fun hc8 => ?_)
    · try simp only [cmpI, errD_nil, Bool.not_eq_true', Bool.not_eq_false', decide_eq_true_eq, decide_eq_false_iff_not] at hc8; have ht48 := hc8
      refine awp_seq ?_
      refine awp_region rfl ?_
      refine sP (opp_as (v := .bool _) rfl rfl) rfl rfl ?_
      refine awp_ret ?_
      repeat (first | refine athen_ret ?_ | refine ain_ret ?_)
      first
        | refine apost_ret (aend1 (r0 := .bool _) (.tmp .nil) (.noN rfl rfl) ⟨Wk.v ?_, rfl, rfl⟩)
        | refine apost_ret (aend1s (r0 := .bool _) (.tmp .nil) shut rfl ⟨Wk.v ?_, rfl, rfl⟩)
      exact absurd ht48 (by decide +kernel)
    · try simp only [cmpI, errD_nil, Bool.not_eq_true', Bool.not_eq_false', decide_eq_true_eq, decide_eq_false_iff_not] at hc8; have ht48 := hc8
      refine awp_skip ?_
      refine awp_seq ?_
      refine awp_region rfl ?_
      refine sP (opp_build rfl z55 bld55 rfl [.bool false, .agg [.int .i64 0, .int .i64 0, .int .i64 0, .agg [.int .i64 0, .int .i64 0, .int .i64 0], .sl 1 true 0 (fun _ => .top)]] rfl) rfl rfl ?_
      first
        | refine sP (opp_mv (v := .sl _ _ _ _) rfl rfl) rfl rfl ?_
        | refine sP (opp_mv (v := .osl _ _ _ _ _) rfl rfl) rfl rfl ?_
      first
        | refine sP (opp_indexSl rfl rfl rfl el48 (by omega) (by omega)) rfl rfl ?_
        | refine sP (opp_indexOsl0 rfl rfl rfl el48 (by omega) (by omega)) rfl rfl ?_
        | refine sP (opp_indexOsl rfl rfl rfl el48 (by omega) (by omega)) rfl rfl ?_
      first
        | refine sP (opp_loadP rfl rfl rfl rfl bi rfl ty26) rfl rfl ?_
        | refine sP (opp_loadF rfl rfl ty26) rfl rfl ?_
      refine sR (opr_call rfl rfl ent22 rfl (aw22a hG3 hG4 hG5 hG2 hG7 hG8) (.cons (aview_wk rfl wkt) (.cons (aview_noN rfl) .nil))) rfl rfl rfl ?_ -- d=54 t=56
      refine sP (opp_mv (v := .tup _) rfl rfl) rfl rfl ?_
      refine sP (opp_extract rfl rfl rfl) rfl rfl ?_
      refine sP (opp_extract rfl rfl rfl) rfl rfl ?_
      refine sP (opp_extract rfl rfl rfl) rfl rfl ?_
      refine sR (opr_alloc (n := 4) rfl z55) rfl rfl rfl ?_
      refine sR (opr_alloc (n := 5) rfl z26) rfl rfl rfl ?_
      refine sR0 (opr_store (v := .agg _) (trn := (.agg _)) rfl rfl rfl rfl bi rfl rfl rfl rfl fr2 ty55 (fun _ _ h => h)) rfl rfl rfl ?_
      refine sR0 (opr_store (v := .agg _) (trn := (.agg _)) rfl rfl rfl rfl bi rfl rfl rfl rfl fr2 ty26 (fun _ _ h => h)) rfl rfl rfl ?_
      refine sP (opp_as (v := .err _) rfl rfl) rfl rfl ?_
      refine awp_seq ?_
      refine awp_seq ?_
      refine awp_region rfl ?_
      refine sP (opp_mv (v := .err _) rfl rfl) rfl rfl ?_
      refine sP (opp_errNil rfl rfl rfl un29 (.inr ⟨rfl, rfl⟩)) rfl rfl ?_
      refine sP (opp_mv (v := .bool _) rfl rfl) rfl rfl ?_
      first
        | refine sG _ rfl rfl rfl rfl (fun hg => (And.intro gi (True.intro))) (fun hg => opp_fieldP rfl rfl fld26_0 rfl) ?_
        | refine sG _ rfl rfl rfl rfl (fun hg => (And.intro gi (True.intro))) (fun hg => opp_fieldF rfl rfl rfl fld26_0 rfl rfl) ?_
      first
        | refine sG _ rfl rfl rfl rfl (fun hg => (And.intro gi (True.intro))) (fun hg => opp_loadP rfl rfl rfl rfl bi rfl ty3) ?_
        | refine sG _ rfl rfl rfl rfl (fun hg => (And.intro gi (True.intro))) (fun hg => opp_loadF rfl rfl ty3) ?_
      refine sG _ rfl rfl rfl rfl (fun hg => (And.intro gi (And.intro gi (True.intro)))) (fun hg => opp_cmp rfl rfl rfl rfl) ?_
      refine sPick rfl rfl rfl rfl (by exact True.intro) rfl rfl (fun hg => gi) (fun hg => gi) ?_
      refine sP (opp_mv (v := .bool _) rfl rfl) rfl rfl ?_
      first
        | refine sG _ rfl rfl rfl rfl (fun hg => (And.intro gi (True.intro))) (fun hg => opp_fieldP rfl rfl fld26_4 rfl) ?_
        | refine sG _ rfl rfl rfl rfl (fun hg => (And.intro gi (True.intro))) (fun hg => opp_fieldF rfl rfl rfl fld26_4 rfl rfl) ?_
      first
        | refine sG _ rfl rfl rfl rfl (fun hg => (And.intro gi (True.intro))) (fun hg => opp_loadP rfl rfl rfl rfl bi rfl ty3) ?_
        | refine sG _ rfl rfl rfl rfl (fun hg => (And.intro gi (True.intro))) (fun hg => opp_loadF rfl rfl ty3) ?_
      refine sG _ rfl rfl rfl rfl (fun hg => (And.intro gi (And.intro gi (True.intro)))) (fun hg => opp_cmp rfl rfl rfl rfl) ?_
      refine sPick rfl rfl rfl rfl (by exact True.intro) rfl rfl (fun hg => gi) (fun hg => gi) ?_
      refine awp_cond _ rfl (fun hc12 => ?_) (fun hc12 => ?_)
      · try simp only [cmpI, errD_nil, Bool.not_eq_true', Bool.not_eq_false', decide_eq_true_eq, decide_eq_false_iff_not] at hc12; have ht69 := hc12
        refine awp_seq ?_
        refine awp_region rfl ?_
        refine sP (opp_as (v := .bool _) rfl rfl) rfl rfl ?_
        refine awp_ret ?_
        repeat (first | refine athen_ret ?_ | refine ain_ret ?_)
        first
          | refine apost_ret (aend1 (r0 := .bool _) (.tmp .nil) (.noN rfl rfl) ⟨Wk.v ?_, rfl, rfl⟩)
          | refine apost_ret (aend1s (r0 := .bool _) (.tmp .nil) shut rfl ⟨Wk.v ?_, rfl, rfl⟩)
        exact absurd ht69 (by decide +kernel)
      · try simp only [cmpI, errD_nil, Bool.not_eq_true', Bool.not_eq_false', decide_eq_true_eq, decide_eq_false_iff_not] at hc12; have ht69 := hc12
        refine awp_skip ?_
        refine awp_seq ?_
        refine awp_draw hmix rfl (by kernel_rfl) ?_
        first
          | refine dP (fun n => Nat.beq n 4) (opp_loadP rfl rfl rfl rfl bi rfl ty55) rfl rfl ?_
          | refine dP (fun n => Nat.beq n 4) (opp_loadF rfl rfl ty55) rfl rfl ?_
        first
          | refine dP (fun _ => false) (opp_mv (v := .sl _ _ _ _) rfl rfl) rfl rfl ?_
          | refine dP (fun _ => false) (opp_mv (v := .osl _ _ _ _ _) rfl rfl) rfl rfl ?_
        first
          | refine dP (fun _ => false) (opp_indexSl rfl rfl rfl el48 (by omega) (by omega)) rfl rfl ?_
          | refine dP (fun _ => false) (opp_indexOsl0 rfl rfl rfl el48 (by omega) (by omega)) rfl rfl ?_
          | refine dP (fun _ => false) (opp_indexOsl rfl rfl rfl el48 (by omega) (by omega)) rfl rfl ?_
        first
          | refine dP (fun n => !([4] : List Nat).contains n) (opp_loadP rfl rfl rfl rfl bi rfl ty26) rfl rfl ?_
          | refine dP (fun n => !([4] : List Nat).contains n) (opp_loadF rfl rfl ty26) rfl rfl ?_
        refine dR (fun n => !([4] : List Nat).contains n) (opr_call rfl rfl ent22 rfl (aw22b hG3 hG4 hG5 hG2 hG7 hG8) (AViews.refl _ rfl)) rfl rfl rfl ?_ -- d=75 t=56
        refine dP (fun _ => false) (opp_mv (v := .tup _) rfl rfl) rfl rfl ?_
        refine dP (fun _ => false) (opp_extract rfl rfl rfl) rfl rfl ?_
        refine dP (fun _ => false) (opp_extract rfl rfl rfl) rfl rfl ?_
        refine dP (fun _ => false) (opp_extract rfl rfl rfl) rfl rfl ?_
        refine dR0 (fun n => Nat.beq n 4) (opr_store (v := .agg _) (trn := (.agg _)) rfl rfl rfl rfl bi rfl rfl rfl rfl fr2 ty55 (fun _ _ h => h)) rfl rfl rfl ?_
        refine dP (fun _ => false) (opp_as (v := .err _) rfl rfl) rfl rfl ?_
        refine And.intro (by kernel_rfl) ?_
        refine awp_seq ?_
        refine awp_seq ?_
        refine awp_region rfl ?_
        refine sP (opp_mv (v := .err _) rfl rfl) rfl rfl ?_
        refine sP (opp_errNil rfl rfl rfl un29 (.inr ⟨rfl, rfl⟩)) rfl rfl ?_
        refine awp_cond _ rfl (fun hc16 => ?_) (fun hc16 => ?_)
        · try simp only [cmpI, errD_nil, Bool.not_eq_true', Bool.not_eq_false', decide_eq_true_eq, decide_eq_false_iff_not] at hc16; have ht80 := hc16
          refine awp_seq ?_
          refine awp_region rfl ?_
          refine sP (opp_as (v := .bool _) rfl rfl) rfl rfl ?_
          refine awp_ret ?_
          repeat (first | refine athen_ret ?_ | refine ain_ret ?_)
          first
            | refine apost_ret (aend1 (r0 := .bool _) (.tmp .nil) (.noN rfl rfl) ⟨Wk.v ?_, rfl, rfl⟩)
            | refine apost_ret (aend1s (r0 := .bool _) (.tmp .nil) shut rfl ⟨Wk.v ?_, rfl, rfl⟩)
          exact absurd ht80 (by decide +kernel)
        · try simp only [cmpI, errD_nil, Bool.not_eq_true', Bool.not_eq_false', decide_eq_true_eq, decide_eq_false_iff_not] at hc16; have ht80 := hc16
          refine awp_skip ?_
          refine awp_seq ?_
          refine awp_region rfl ?_
          first
            | refine sP (opp_loadP rfl rfl rfl rfl bi rfl ty55) rfl rfl ?_
            | refine sP (opp_loadF rfl rfl ty55) rfl rfl ?_
          refine sR (opr_call rfl rfl ent23 rfl (aw23 hG3) (AViews.refl _ rfl)) rfl rfl rfl ?_ -- d=83 t=58
          refine sP (opp_mv (v := .tup _) rfl rfl) rfl rfl ?_
          refine sP (opp_extract rfl rfl rfl) rfl rfl ?_
          refine sP (opp_extract rfl rfl rfl) rfl rfl ?_
          refine sP (opp_extract rfl rfl rfl) rfl rfl ?_
          first
            | refine sP (opp_as (v := .sl _ _ _ _) rfl rfl) rfl rfl ?_
            | refine sP (opp_as (v := .osl _ _ _ _ _) rfl rfl) rfl rfl ?_
          refine sP (opp_as (v := .bool _) rfl rfl) rfl rfl ?_
          refine sP (opp_as (v := .err _) rfl rfl) rfl rfl ?_
          refine awp_seq ?_
          refine awp_draw hmix rfl (by kernel_rfl) ?_
          refine dP (fun _ => false) (opp_mv (v := .err _) rfl rfl) rfl rfl ?_
          refine dP (fun _ => false) (opp_errNil rfl rfl rfl un29 (.inl ⟨rfl, rfl⟩)) rfl rfl ?_
          refine dP (fun _ => false) (opp_mv (v := .bool _) rfl rfl) rfl rfl ?_
          refine dG _ (fun _ => false) rfl rfl rfl rfl (fun hg => (And.intro gi (True.intro))) (fun hg => opp_mv (v := .bool _) rfl rfl) ?_
          refine dPick (fun _ => false) rfl rfl rfl rfl (by exact True.intro) rfl rfl (fun hg => gi) (fun hg => gi) ?_
          refine dP (fun _ => false) (opp_mv (v := .bool _) rfl rfl) rfl rfl ?_
          first
            | refine dG _ (fun _ => false) rfl rfl rfl rfl (fun hg => (And.intro gi (True.intro))) (fun hg => opp_mv (v := .sl _ _ _ _) rfl rfl) ?_
            | refine dG _ (fun _ => false) rfl rfl rfl rfl (fun hg => (And.intro gi (True.intro))) (fun hg => opp_mv (v := .osl _ _ _ _ _) rfl rfl) ?_
          refine dG _ (fun n => !([96] : List Nat).contains n) rfl rfl rfl rfl (fun hg => (And.intro gi (True.intro))) (fun hg => opp_bytesStr rfl rfl _ rfl (fun j hj => rfl) un36 unu8 un9) ?_
          refine dGR _ (fun n => !([94, 96] : List Nat).contains n) rfl rfl rfl rfl (fun hg => (And.intro gi (And.intro gi (True.intro)))) (fun hg => (opr_call rfl rfl ent76 rfl (aw76) (AViews.refl _ rfl))) ?_
          refine dG _ (fun n => !([94] : List Nat).contains n) rfl rfl rfl rfl (fun hg => (And.intro gi (True.intro))) (fun hg => opp_bytesStr rfl rfl _ rfl (fun j hj => rfl) un36 unu8 un9) ?_
          refine dG _ (fun _ => false) rfl rfl rfl rfl (fun hg => (And.intro gi (And.intro gi (True.intro)))) (fun hg => opp_strEq rfl rfl rfl (.inl ⟨rfl, rfl⟩)) ?_
          refine dPick (fun _ => false) rfl rfl rfl rfl (by exact True.intro) rfl rfl (fun hg => gi) (fun hg => gi) ?_
          refine dP (fun _ => false) (opp_as (v := .bool _) rfl rfl) rfl rfl ?_
          refine And.intro (by kernel_rfl) ?_
          refine awp_ret ?_
          repeat (first | refine athen_ret ?_ | refine ain_ret ?_)
          first
            | refine apost_ret (aend1 (r0 := .bool _) (.tmp .nil) (.noN rfl rfl) ⟨Wk.v ?_, rfl, rfl⟩)
            | refine apost_ret (aend1s (r0 := .bool _) (.tmp .nil) shut rfl ⟨Wk.v ?_, rfl, rfl⟩)
          exact .of (congrArg AV.bool (by decide +kernel))
end
end
end Go.Proofs.YtgaihhimkodmmaaDoor

