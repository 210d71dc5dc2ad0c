/- Layer 20: the note that answers; stages (walks over this dump). -/
import Derived.Test.YtgaihhimkodmmaaDoorK1x
namespace Go.Proofs.YtgaihhimkodmmaaDoor
attribute [local irreducible] Tryd.prog
open Go.Fy
set_option linter.unusedSimpArgs false
section
variable {ea : Nat → Addr} {cds : List Nat} {gl : Nat → Option AV}
theorem c50 (n : Note) (kind sum : Int) (hG2 : gl 2 = some (.err (.code 12))) (hG4 : gl 4 = some (.err (.code 7))) (hG8 : gl 8 = some (.err (.code 4))) :
    APure (V ea cds gl) 50 [noteAV n, .int .i64 kind, .int .u32 sum] false (.tup [noteAV (Sp.answer n kind sum).1, .err (errD (Sp.answer n kind sum).2)]) := by
  refine acalls_of_body (N := 58) Tryd.func50 rfl rfl (Nat.le_of_ble_eq_true rfl) fun C hV hN hM hO => ?_
  obtain ⟨_, _, w0, G0, σ0, _, own0⟩ := C; dsimp only at hV hN hM hO; subst hV; subst hN; subst hM
  refine awp_seq ?_
  refine awp_region rfl ?_
  refine sR (opr_box (y := .agg _) (n := 3) rfl rfl rfl) rfl rfl rfl ?_
  refine sR (opr_alloc (n := 6) rfl z26) rfl rfl rfl ?_
  refine sP (opp_as (v := .err _) rfl rfl) rfl rfl ?_
  refine awp_seq ?_
  refine awp_seq ?_
  refine awp_region rfl ?_
  first
    | refine sP (opp_loadP rfl rfl rfl rfl bi rfl ty26) rfl rfl ?_
    | refine sP (opp_loadF rfl rfl ty26) rfl rfl ?_
  refine sR (opr_call rfl rfl ent47 rfl (c47 _ hG4 hG8) (AViews.refl _ rfl)) rfl rfl rfl ?_ -- d=12 t=29
  refine sP (opp_as (v := .err _) rfl rfl) rfl rfl ?_
  refine awp_seq ?_
  refine awp_region rfl ?_
  refine sP (opp_mv (v := .err _) rfl rfl) rfl rfl ?_
  refine sP (opp_errNil rfl rfl rfl un29 (.inr ⟨rfl, rfl⟩)) rfl rfl ?_
  refine awp_cond _ rfl (fun hc4 => ?_) (fun hc4 => ?_)
  · try simp only [cmpI, errD_nil, Bool.not_eq_true', Bool.not_eq_false', decide_eq_true_eq, decide_eq_false_iff_not] at hc4; have ht14 := hc4
    refine awp_seq ?_
    refine awp_region rfl ?_
    refine sP (opp_build rfl z26 bld26 rfl [.int .i64 0, .int .i64 0, .agg [.int .i64 0, .int .i64 0, .int .i64 0], .int .i64 0, .int .i64 0, .int .i64 0, .int .u32 0, .str []] rfl) rfl rfl ?_
    refine sP (opp_mv (v := .err _) rfl rfl) rfl rfl ?_
    refine sR0 (opr_store (v := .agg _) (trn := (.agg _)) rfl rfl rfl rfl bi rfl rfl rfl rfl fr2 ty26 (fun _ _ h => h)) rfl rfl rfl ?_
    refine sP (opp_as (v := .err _) rfl rfl) rfl rfl ?_
    refine awp_ret ?_
    repeat (first | refine athen_ret ?_ | refine ain_ret ?_)
    first
      | refine apost_ret (aend (l := [.agg _, .err _]) (.cell rfl rfl rfl (by exact True.intro) rfl ty26 (.tmp .nil)) (fun h => by cases h) (.cons (.noN rfl rfl) (.cons (.noN rfl rfl) .nil)) ⟨Wk.v ?_, rfl, rfl⟩)
      | refine apost_ret (aends (l := [.agg _, .err _]) (.cell rfl rfl rfl (by exact True.intro) rfl ty26 (.tmp .nil)) (fun h => by cases h) (.cons shut (fun h => by cases h) (.cons shut (fun h => by cases h) .nil)) rfl ⟨Wk.v ?_, rfl, rfl⟩)
    refine .of ?_
    try simp only [cmpI, errD_nil, Bool.not_eq_true', Bool.not_eq_false', decide_eq_true_eq, decide_eq_false_iff_not] at *
    first | (exfalso; omega) | (simp_all [Sp.answer, noteAV, xidAV, errD, Sp.zero]; done) | (simp_all [Sp.answer, noteAV, xidAV, errD, Sp.zero]; omega)
  · try simp only [cmpI, errD_nil, Bool.not_eq_true', Bool.not_eq_false', decide_eq_true_eq, decide_eq_false_iff_not] at hc4; have ht14 := hc4
    refine awp_skip ?_
    refine awp_seq ?_
    refine awp_region rfl ?_
    refine sP (opp_as (v := .int _ _) rfl rfl) rfl rfl ?_
    refine awp_seq ?_
    refine awp_seq ?_
    refine awp_region rfl ?_
    refine sP (opp_mv (v := .int _ _) rfl rfl) rfl rfl ?_
    refine awp_block ?_
    refine awp_seq ?_
    refine awp_seq ?_
    refine awp_region rfl ?_
    refine sP (opp_cmp rfl rfl rfl rfl) rfl rfl ?_
    refine sP (opp_as (v := .bool _) rfl rfl) rfl rfl ?_
    refine awp_cond _ rfl (fun hc9 => ?_) (fun hc9 => ?_)
    · try simp only [cmpI, errD_nil, Bool.not_eq_true', Bool.not_eq_false', decide_eq_true_eq, decide_eq_false_iff_not] at hc9; have ht20 := hc9
      refine awp_skip ?_
      refine awp_cond _ rfl (fun hc10 => ?_) (fun hc10 => ?_)
      · try simp only [cmpI, errD_nil, Bool.not_eq_true', Bool.not_eq_false', decide_eq_true_eq, decide_eq_false_iff_not] at hc10; have ht20 := hc10
        refine awp_skip ?_
        refine awp_seq ?_
        refine awp_seq ?_
        refine awp_region rfl ?_
        first
          | refine sP (opp_fieldP rfl rfl fld26_0 rfl) rfl rfl ?_
          | refine sP (opp_fieldF rfl rfl rfl fld26_0 rfl rfl) rfl rfl ?_
        first
          | refine sP (opp_loadP rfl rfl rfl rfl bi rfl ty3) rfl rfl ?_
          | refine sP (opp_loadF rfl rfl ty3) rfl rfl ?_
        refine sP (opp_mv (v := .int _ _) rfl rfl) rfl rfl ?_
        refine sP (opp_cmp rfl rfl rfl rfl) rfl rfl ?_
        refine sP (opp_mv (v := .bool _) rfl rfl) rfl rfl ?_
        refine sG _ rfl rfl rfl rfl (fun hg => (And.intro gi (True.intro))) (fun hg => opp_mv (v := .int _ _) rfl rfl) ?_
        refine sG _ rfl rfl rfl rfl (fun hg => (And.intro gi (And.intro gi (True.intro)))) (fun hg => opp_cmp rfl rfl rfl rfl) ?_
        refine sG _ rfl rfl rfl rfl (fun hg => (And.intro gi (True.intro))) (fun hg => opp_mv (v := .bool _) rfl rfl) ?_
        refine sG _ rfl rfl rfl rfl (fun hg => (And.intro gi (True.intro))) (fun hg => opp_mv (v := .int _ _) rfl rfl) ?_
        refine sG _ rfl rfl rfl rfl (fun hg => (And.intro gi (And.intro gi (True.intro)))) (fun hg => opp_cmp rfl rfl rfl rfl) ?_
        refine sPickG _ rfl rfl rfl rfl rfl rfl (fun hg => by first | exact True.intro | exact And.intro hg True.intro | (refine And.intro ?_ True.intro; simp_all; done)) rfl rfl (fun h0 hg => g2) (fun h0 hg => g2) ?_
        refine sPick rfl rfl rfl rfl (by exact True.intro) rfl rfl (fun hg => gi) (fun hg => gi) ?_
        refine awp_cond _ rfl (fun hc12 => ?_) (fun hc12 => ?_)
        · try simp only [cmpI, errD_nil, Bool.not_eq_true', Bool.not_eq_false', decide_eq_true_eq, decide_eq_false_iff_not] at hc12; have ht37 := hc12
          refine awp_seq ?_
          refine awp_draw hmix rfl (by kernel_rfl) ?_
          refine dP (fun _ => false) (opp_build rfl z26 bld26 rfl [.int .i64 0, .int .i64 0, .agg [.int .i64 0, .int .i64 0, .int .i64 0], .int .i64 0, .int .i64 0, .int .i64 0, .int .u32 0, .str []] rfl) rfl rfl ?_
          refine dP (fun _ => false) (opp_loadF rfl (ev_glob hG2) ty29) rfl rfl ?_
          refine dR0 (fun n => Nat.beq n 6) (opr_store (v := .agg _) (trn := (.agg _)) rfl rfl rfl rfl bi rfl rfl rfl rfl fr2 ty26 (fun _ _ h => h)) rfl rfl rfl ?_
          refine dP (fun _ => false) (opp_as (v := .err _) rfl rfl) rfl rfl ?_
          refine And.intro (by kernel_rfl) ?_
          refine awp_ret ?_
          repeat (first | refine athen_ret ?_ | refine ain_ret ?_)
          first
            | refine apost_ret (aend (l := [.agg _, .err _]) (.cell rfl rfl rfl (by exact True.intro) rfl ty26 (.tmp .nil)) (fun h => by cases h) (.cons (.noN rfl rfl) (.cons (.noN rfl rfl) .nil)) ⟨Wk.v ?_, rfl, rfl⟩)
            | refine apost_ret (aends (l := [.agg _, .err _]) (.cell rfl rfl rfl (by exact True.intro) rfl ty26 (.tmp .nil)) (fun h => by cases h) (.cons shut (fun h => by cases h) (.cons shut (fun h => by cases h) .nil)) rfl ⟨Wk.v ?_, rfl, rfl⟩)
          refine .of ?_
          try simp only [cmpI, errD_nil, Bool.not_eq_true', Bool.not_eq_false', decide_eq_true_eq, decide_eq_false_iff_not] at *
          first | (exfalso; omega) | (simp_all [Sp.answer, noteAV, xidAV, errD, Sp.zero]; done) | (simp_all [Sp.answer, noteAV, xidAV, errD, Sp.zero]; omega)
        · try simp only [cmpI, errD_nil, Bool.not_eq_true', Bool.not_eq_false', decide_eq_true_eq, decide_eq_false_iff_not] at hc12; have ht37 := hc12
          refine awp_skip ?_
          refine awp_seq ?_
          refine awp_region rfl ?_
          refine sP (opp_mv (v := .int _ _) rfl rfl) rfl rfl ?_
          first
            | refine sP (opp_fieldP rfl rfl fld26_1 rfl) rfl rfl ?_
            | refine sP (opp_fieldF rfl rfl rfl fld26_1 rfl rfl) rfl rfl ?_
          first
            | refine sP (opp_loadP rfl rfl rfl rfl bi rfl ty3) rfl rfl ?_
            | refine sP (opp_loadF rfl rfl ty3) rfl rfl ?_
          first
            | refine sP (opp_fieldP rfl rfl fld26_2 rfl) rfl rfl ?_
            | refine sP (opp_fieldF rfl rfl rfl fld26_2 rfl rfl) rfl rfl ?_
          first
            | refine sP (opp_loadP rfl rfl rfl rfl bi rfl ty23) rfl rfl ?_
            | refine sP (opp_loadF rfl rfl ty23) rfl rfl ?_
          first
            | refine sP (opp_fieldP rfl rfl fld26_3 rfl) rfl rfl ?_
            | refine sP (opp_fieldF rfl rfl rfl fld26_3 rfl rfl) rfl rfl ?_
          first
            | refine sP (opp_loadP rfl rfl rfl rfl bi rfl ty3) rfl rfl ?_
            | refine sP (opp_loadF rfl rfl ty3) rfl rfl ?_
          refine sP (opp_mv (v := .int _ _) rfl rfl) rfl rfl ?_
          refine sP (opp_build rfl z26 bld26 rfl [.int _ _, .int _ _, .agg _, .int _ _, .int .i64 0, .int .i64 0, .int _ _, .str []] rfl) rfl rfl ?_
          refine sR (opr_alloc (n := 10) rfl z26) rfl rfl rfl ?_
          refine sR0 (opr_store (v := .agg _) (trn := (.agg _)) rfl rfl rfl rfl bi rfl rfl rfl rfl fr2 ty26 (fun _ _ h => h)) rfl rfl rfl ?_
          refine awp_seq ?_
          refine awp_seq ?_
          refine awp_region rfl ?_
          refine sP (opp_mv (v := .int _ _) rfl rfl) rfl rfl ?_
          refine sP (opp_cmp rfl rfl rfl rfl) rfl rfl ?_
          refine awp_cond _ rfl (fun hc16 => ?_) (fun hc16 => ?_)
          · try simp only [cmpI, errD_nil, Bool.not_eq_true', Bool.not_eq_false', decide_eq_true_eq, decide_eq_false_iff_not] at hc16; have ht50 := hc16
            refine awp_draw hmix rfl (by kernel_rfl) ?_
            first
              | refine dP (fun _ => false) (opp_fieldP rfl rfl fld26_4 rfl) rfl rfl ?_
              | refine dP (fun _ => false) (opp_fieldF rfl rfl rfl fld26_4 rfl rfl) rfl rfl ?_
            first
              | refine dP (fun n => Nat.beq n 3) (opp_loadP rfl rfl rfl rfl bi rfl ty3) rfl rfl ?_
              | refine dP (fun n => Nat.beq n 3) (opp_loadF rfl rfl ty3) rfl rfl ?_
            first
              | refine dP (fun _ => false) (opp_fieldP rfl rfl fld26_5 rfl) rfl rfl ?_
              | refine dP (fun _ => false) (opp_fieldF rfl rfl rfl fld26_5 rfl rfl) rfl rfl ?_
            first
              | refine dP (fun n => Nat.beq n 3) (opp_loadP rfl rfl rfl rfl bi rfl ty3) rfl rfl ?_
              | refine dP (fun n => Nat.beq n 3) (opp_loadF rfl rfl ty3) rfl rfl ?_
            first
              | refine dP (fun _ => false) (opp_fieldP rfl rfl fld26_4 rfl) rfl rfl ?_
              | refine dP (fun _ => false) (opp_fieldF rfl rfl rfl fld26_4 rfl rfl) rfl rfl ?_
            refine dR0 (fun n => Nat.beq n 10) (opr_store (v := .int _ _) (trn := (.agg [_, _, _, _, .int _ _, _, _, _])) rfl rfl rfl rfl bi rfl rfl rfl rfl fr2 ty3 (fun _ _ h => h)) rfl rfl rfl ?_
            first
              | refine dP (fun _ => false) (opp_fieldP rfl rfl fld26_5 rfl) rfl rfl ?_
              | refine dP (fun _ => false) (opp_fieldF rfl rfl rfl fld26_5 rfl rfl) rfl rfl ?_
            refine dR0 (fun n => Nat.beq n 10) (opr_store (v := .int _ _) (trn := (.agg [_, _, _, _, _, .int _ _, _, _])) rfl rfl rfl rfl bi rfl rfl rfl rfl fr2 ty3 (fun _ _ h => h)) rfl rfl rfl ?_
            refine And.intro (by kernel_rfl) ?_
            refine awp_seq ?_
            refine awp_region rfl ?_
            first
              | refine sP (opp_loadP rfl rfl rfl rfl bi rfl ty26) rfl rfl ?_
              | refine sP (opp_loadF rfl rfl ty26) rfl rfl ?_
            refine sR0 (opr_store (v := .agg _) (trn := (.agg _)) rfl rfl rfl rfl bi rfl rfl rfl rfl fr2 ty26 (fun _ _ h => h)) rfl rfl rfl ?_
            refine sP (opp_as (v := .err _) rfl rfl) rfl rfl ?_
            refine awp_ret ?_
            repeat (first | refine athen_ret ?_ | refine ain_ret ?_)
            first
              | refine apost_ret (aend (l := [.agg _, .err _]) (.cell rfl rfl rfl (by exact True.intro) rfl ty26 (.tmp .nil)) (fun h => by cases h) (.cons (.noN rfl rfl) (.cons (.noN rfl rfl) .nil)) ⟨Wk.v ?_, rfl, rfl⟩)
              | refine apost_ret (aends (l := [.agg _, .err _]) (.cell rfl rfl rfl (by exact True.intro) rfl ty26 (.tmp .nil)) (fun h => by cases h) (.cons shut (fun h => by cases h) (.cons shut (fun h => by cases h) .nil)) rfl ⟨Wk.v ?_, rfl, rfl⟩)
            refine .of ?_
            try simp only [cmpI, errD_nil, Bool.not_eq_true', Bool.not_eq_false', decide_eq_true_eq, decide_eq_false_iff_not] at *
            first | (exfalso; omega) | (simp_all [Sp.answer, noteAV, xidAV, errD, Sp.zero]; done) | (simp_all [Sp.answer, noteAV, xidAV, errD, Sp.zero]; omega)
          · try simp only [cmpI, errD_nil, Bool.not_eq_true', Bool.not_eq_false', decide_eq_true_eq, decide_eq_false_iff_not] at hc16; have ht50 := hc16
            refine awp_skip ?_
            refine awp_seq ?_
            refine awp_region rfl ?_
            first
              | refine sP (opp_loadP rfl rfl rfl rfl bi rfl ty26) rfl rfl ?_
              | refine sP (opp_loadF rfl rfl ty26) rfl rfl ?_
            refine sR0 (opr_store (v := .agg _) (trn := (.agg _)) rfl rfl rfl rfl bi rfl rfl rfl rfl fr2 ty26 (fun _ _ h => h)) rfl rfl rfl ?_
            refine sP (opp_as (v := .err _) rfl rfl) rfl rfl ?_
            refine awp_ret ?_
            repeat (first | refine athen_ret ?_ | refine ain_ret ?_)
            first
              | refine apost_ret (aend (l := [.agg _, .err _]) (.cell rfl rfl rfl (by exact True.intro) rfl ty26 (.tmp .nil)) (fun h => by cases h) (.cons (.noN rfl rfl) (.cons (.noN rfl rfl) .nil)) ⟨Wk.v ?_, rfl, rfl⟩)
              | refine apost_ret (aends (l := [.agg _, .err _]) (.cell rfl rfl rfl (by exact True.intro) rfl ty26 (.tmp .nil)) (fun h => by cases h) (.cons shut (fun h => by cases h) (.cons shut (fun h => by cases h) .nil)) rfl ⟨Wk.v ?_, rfl, rfl⟩)
            refine .of ?_
            try simp only [cmpI, errD_nil, Bool.not_eq_true', Bool.not_eq_false', decide_eq_true_eq, decide_eq_false_iff_not] at *
            first | (exfalso; omega) | (simp_all [Sp.answer, noteAV, xidAV, errD, Sp.zero]; done) | (simp_all [Sp.answer, noteAV, xidAV, errD, Sp.zero]; omega)
      · try simp only [cmpI, errD_nil, Bool.not_eq_true', Bool.not_eq_false', decide_eq_true_eq, decide_eq_false_iff_not] at hc10; have ht20 := hc10
        refine awp_seq ?_
        refine awp_region rfl ?_
        refine sP (opp_cmp rfl rfl rfl rfl) rfl rfl ?_
        refine sP (opp_as (v := .bool _) rfl rfl) rfl rfl ?_
        refine awp_cond _ rfl (fun hc21 => ?_) (fun hc21 => ?_)
        · try simp only [cmpI, errD_nil, Bool.not_eq_true', Bool.not_eq_false', decide_eq_true_eq, decide_eq_false_iff_not] at hc21; have ht24 := hc21
          refine awp_region rfl ?_
          refine sP (opp_as (v := .int _ _) rfl rfl) rfl rfl ?_
          refine awp_seq ?_
          refine awp_seq ?_
          refine awp_region rfl ?_
          first
            | refine sP (opp_fieldP rfl rfl fld26_0 rfl) rfl rfl ?_
            | refine sP (opp_fieldF rfl rfl rfl fld26_0 rfl rfl) rfl rfl ?_
          first
            | refine sP (opp_loadP rfl rfl rfl rfl bi rfl ty3) rfl rfl ?_
            | refine sP (opp_loadF rfl rfl ty3) rfl rfl ?_
          refine sP (opp_mv (v := .int _ _) rfl rfl) rfl rfl ?_
          refine sP (opp_cmp rfl rfl rfl rfl) rfl rfl ?_
          refine sP (opp_mv (v := .bool _) rfl rfl) rfl rfl ?_
          refine sG _ rfl rfl rfl rfl (fun hg => (And.intro gi (True.intro))) (fun hg => opp_mv (v := .int _ _) rfl rfl) ?_
          refine sG _ rfl rfl rfl rfl (fun hg => (And.intro gi (And.intro gi (True.intro)))) (fun hg => opp_cmp rfl rfl rfl rfl) ?_
          refine sG _ rfl rfl rfl rfl (fun hg => (And.intro gi (True.intro))) (fun hg => opp_mv (v := .bool _) rfl rfl) ?_
          refine sG _ rfl rfl rfl rfl (fun hg => (And.intro gi (True.intro))) (fun hg => opp_mv (v := .int _ _) rfl rfl) ?_
          refine sG _ rfl rfl rfl rfl (fun hg => (And.intro gi (And.intro gi (True.intro)))) (fun hg => opp_cmp rfl rfl rfl rfl) ?_
          refine sPickG _ rfl rfl rfl rfl rfl rfl (fun hg => by first | exact True.intro | exact And.intro hg True.intro | (refine And.intro ?_ True.intro; simp_all; done)) rfl rfl (fun h0 hg => g2) (fun h0 hg => g2) ?_
          refine sPick rfl rfl rfl rfl (by exact True.intro) rfl rfl (fun hg => gi) (fun hg => gi) ?_
          refine awp_cond _ rfl (fun hc24 => ?_) (fun hc24 => ?_)
          · try simp only [cmpI, errD_nil, Bool.not_eq_true', Bool.not_eq_false', decide_eq_true_eq, decide_eq_false_iff_not] at hc24; have ht37 := hc24
            refine awp_seq ?_
            refine awp_draw hmix rfl (by kernel_rfl) ?_
            refine dP (fun _ => false) (opp_build rfl z26 bld26 rfl [.int .i64 0, .int .i64 0, .agg [.int .i64 0, .int .i64 0, .int .i64 0], .int .i64 0, .int .i64 0, .int .i64 0, .int .u32 0, .str []] rfl) rfl rfl ?_
            refine dP (fun _ => false) (opp_loadF rfl (ev_glob hG2) ty29) rfl rfl ?_
            refine dR0 (fun n => Nat.beq n 6) (opr_store (v := .agg _) (trn := (.agg _)) rfl rfl rfl rfl bi rfl rfl rfl rfl fr2 ty26 (fun _ _ h => h)) rfl rfl rfl ?_
            refine dP (fun _ => false) (opp_as (v := .err _) rfl rfl) rfl rfl ?_
            refine And.intro (by kernel_rfl) ?_
            refine awp_ret ?_
            repeat (first | refine athen_ret ?_ | refine ain_ret ?_)
            first
              | refine apost_ret (aend (l := [.agg _, .err _]) (.cell rfl rfl rfl (by exact True.intro) rfl ty26 (.tmp .nil)) (fun h => by cases h) (.cons (.noN rfl rfl) (.cons (.noN rfl rfl) .nil)) ⟨Wk.v ?_, rfl, rfl⟩)
              | refine apost_ret (aends (l := [.agg _, .err _]) (.cell rfl rfl rfl (by exact True.intro) rfl ty26 (.tmp .nil)) (fun h => by cases h) (.cons shut (fun h => by cases h) (.cons shut (fun h => by cases h) .nil)) rfl ⟨Wk.v ?_, rfl, rfl⟩)
            refine .of ?_
            try simp only [cmpI, errD_nil, Bool.not_eq_true', Bool.not_eq_false', decide_eq_true_eq, decide_eq_false_iff_not] at *
            first | (exfalso; omega) | (simp_all [Sp.answer, noteAV, xidAV, errD, Sp.zero]; done) | (simp_all [Sp.answer, noteAV, xidAV, errD, Sp.zero]; omega)
          · try simp only [cmpI, errD_nil, Bool.not_eq_true', Bool.not_eq_false', decide_eq_true_eq, decide_eq_false_iff_not] at hc24; have ht37 := hc24
            refine awp_skip ?_
            refine awp_seq ?_
            refine awp_region rfl ?_
            refine sP (opp_mv (v := .int _ _) rfl rfl) rfl rfl ?_
            first
              | refine sP (opp_fieldP rfl rfl fld26_1 rfl) rfl rfl ?_
              | refine sP (opp_fieldF rfl rfl rfl fld26_1 rfl rfl) rfl rfl ?_
            first
              | refine sP (opp_loadP rfl rfl rfl rfl bi rfl ty3) rfl rfl ?_
              | refine sP (opp_loadF rfl rfl ty3) rfl rfl ?_
            first
              | refine sP (opp_fieldP rfl rfl fld26_2 rfl) rfl rfl ?_
              | refine sP (opp_fieldF rfl rfl rfl fld26_2 rfl rfl) rfl rfl ?_
            first
              | refine sP (opp_loadP rfl rfl rfl rfl bi rfl ty23) rfl rfl ?_
              | refine sP (opp_loadF rfl rfl ty23) rfl rfl ?_
            first
              | refine sP (opp_fieldP rfl rfl fld26_3 rfl) rfl rfl ?_
              | refine sP (opp_fieldF rfl rfl rfl fld26_3 rfl rfl) rfl rfl ?_
            first
              | refine sP (opp_loadP rfl rfl rfl rfl bi rfl ty3) rfl rfl ?_
              | refine sP (opp_loadF rfl rfl ty3) rfl rfl ?_
            refine sP (opp_mv (v := .int _ _) rfl rfl) rfl rfl ?_
            refine sP (opp_build rfl z26 bld26 rfl [.int _ _, .int _ _, .agg _, .int _ _, .int .i64 0, .int .i64 0, .int _ _, .str []] rfl) rfl rfl ?_
            refine sR (opr_alloc (n := 10) rfl z26) rfl rfl rfl ?_
            refine sR0 (opr_store (v := .agg _) (trn := (.agg _)) rfl rfl rfl rfl bi rfl rfl rfl rfl fr2 ty26 (fun _ _ h => h)) rfl rfl rfl ?_
            refine awp_seq ?_
            refine awp_seq ?_
            refine awp_region rfl ?_
            refine sP (opp_mv (v := .int _ _) rfl rfl) rfl rfl ?_
            refine sP (opp_cmp rfl rfl rfl rfl) rfl rfl ?_
            refine awp_cond _ rfl (fun hc28 => ?_) (fun hc28 => ?_)
            · try simp only [cmpI, errD_nil, Bool.not_eq_true', Bool.not_eq_false', decide_eq_true_eq, decide_eq_false_iff_not] at hc28; have ht50 := hc28
              refine awp_draw hmix rfl (by kernel_rfl) ?_
              first
                | refine dP (fun _ => false) (opp_fieldP rfl rfl fld26_4 rfl) rfl rfl ?_
                | refine dP (fun _ => false) (opp_fieldF rfl rfl rfl fld26_4 rfl rfl) rfl rfl ?_
              first
                | refine dP (fun n => Nat.beq n 3) (opp_loadP rfl rfl rfl rfl bi rfl ty3) rfl rfl ?_
                | refine dP (fun n => Nat.beq n 3) (opp_loadF rfl rfl ty3) rfl rfl ?_
              first
                | refine dP (fun _ => false) (opp_fieldP rfl rfl fld26_5 rfl) rfl rfl ?_
                | refine dP (fun _ => false) (opp_fieldF rfl rfl rfl fld26_5 rfl rfl) rfl rfl ?_
              first
                | refine dP (fun n => Nat.beq n 3) (opp_loadP rfl rfl rfl rfl bi rfl ty3) rfl rfl ?_
                | refine dP (fun n => Nat.beq n 3) (opp_loadF rfl rfl ty3) rfl rfl ?_
              first
                | refine dP (fun _ => false) (opp_fieldP rfl rfl fld26_4 rfl) rfl rfl ?_
                | refine dP (fun _ => false) (opp_fieldF rfl rfl rfl fld26_4 rfl rfl) rfl rfl ?_
              refine dR0 (fun n => Nat.beq n 10) (opr_store (v := .int _ _) (trn := (.agg [_, _, _, _, .int _ _, _, _, _])) rfl rfl rfl rfl bi rfl rfl rfl rfl fr2 ty3 (fun _ _ h => h)) rfl rfl rfl ?_
              first
                | refine dP (fun _ => false) (opp_fieldP rfl rfl fld26_5 rfl) rfl rfl ?_
                | refine dP (fun _ => false) (opp_fieldF rfl rfl rfl fld26_5 rfl rfl) rfl rfl ?_
              refine dR0 (fun n => Nat.beq n 10) (opr_store (v := .int _ _) (trn := (.agg [_, _, _, _, _, .int _ _, _, _])) rfl rfl rfl rfl bi rfl rfl rfl rfl fr2 ty3 (fun _ _ h => h)) rfl rfl rfl ?_
              refine And.intro (by kernel_rfl) ?_
              refine awp_seq ?_
              refine awp_region rfl ?_
              first
                | refine sP (opp_loadP rfl rfl rfl rfl bi rfl ty26) rfl rfl ?_
                | refine sP (opp_loadF rfl rfl ty26) rfl rfl ?_
              refine sR0 (opr_store (v := .agg _) (trn := (.agg _)) rfl rfl rfl rfl bi rfl rfl rfl rfl fr2 ty26 (fun _ _ h => h)) rfl rfl rfl ?_
              refine sP (opp_as (v := .err _) rfl rfl) rfl rfl ?_
              refine awp_ret ?_
              repeat (first | refine athen_ret ?_ | refine ain_ret ?_)
              first
                | refine apost_ret (aend (l := [.agg _, .err _]) (.cell rfl rfl rfl (by exact True.intro) rfl ty26 (.tmp .nil)) (fun h => by cases h) (.cons (.noN rfl rfl) (.cons (.noN rfl rfl) .nil)) ⟨Wk.v ?_, rfl, rfl⟩)
                | refine apost_ret (aends (l := [.agg _, .err _]) (.cell rfl rfl rfl (by exact True.intro) rfl ty26 (.tmp .nil)) (fun h => by cases h) (.cons shut (fun h => by cases h) (.cons shut (fun h => by cases h) .nil)) rfl ⟨Wk.v ?_, rfl, rfl⟩)
              refine .of ?_
              try simp only [cmpI, errD_nil, Bool.not_eq_true', Bool.not_eq_false', decide_eq_true_eq, decide_eq_false_iff_not] at *
              first | (exfalso; omega) | (simp_all [Sp.answer, noteAV, xidAV, errD, Sp.zero]; done) | (simp_all [Sp.answer, noteAV, xidAV, errD, Sp.zero]; omega)
            · try simp only [cmpI, errD_nil, Bool.not_eq_true', Bool.not_eq_false', decide_eq_true_eq, decide_eq_false_iff_not] at hc28; have ht50 := hc28
              refine awp_skip ?_
              refine awp_seq ?_
              refine awp_region rfl ?_
              first
                | refine sP (opp_loadP rfl rfl rfl rfl bi rfl ty26) rfl rfl ?_
                | refine sP (opp_loadF rfl rfl ty26) rfl rfl ?_
              refine sR0 (opr_store (v := .agg _) (trn := (.agg _)) rfl rfl rfl rfl bi rfl rfl rfl rfl fr2 ty26 (fun _ _ h => h)) rfl rfl rfl ?_
              refine sP (opp_as (v := .err _) rfl rfl) rfl rfl ?_
              refine awp_ret ?_
              repeat (first | refine athen_ret ?_ | refine ain_ret ?_)
              first
                | refine apost_ret (aend (l := [.agg _, .err _]) (.cell rfl rfl rfl (by exact True.intro) rfl ty26 (.tmp .nil)) (fun h => by cases h) (.cons (.noN rfl rfl) (.cons (.noN rfl rfl) .nil)) ⟨Wk.v ?_, rfl, rfl⟩)
                | refine apost_ret (aends (l := [.agg _, .err _]) (.cell rfl rfl rfl (by exact True.intro) rfl ty26 (.tmp .nil)) (fun h => by cases h) (.cons shut (fun h => by cases h) (.cons shut (fun h => by cases h) .nil)) rfl ⟨Wk.v ?_, rfl, rfl⟩)
              refine .of ?_
              try simp only [cmpI, errD_nil, Bool.not_eq_true', Bool.not_eq_false', decide_eq_true_eq, decide_eq_false_iff_not] at *
              first | (exfalso; omega) | (simp_all [Sp.answer, noteAV, xidAV, errD, Sp.zero]; done) | (simp_all [Sp.answer, noteAV, xidAV, errD, Sp.zero]; omega)
        · try simp only [cmpI, errD_nil, Bool.not_eq_true', Bool.not_eq_false', decide_eq_true_eq, decide_eq_false_iff_not] at hc21; have ht24 := hc21
          refine awp_seq ?_
          refine awp_draw hmix rfl (by kernel_rfl) ?_
          refine dP (fun _ => false) (opp_build rfl z26 bld26 rfl [.int .i64 0, .int .i64 0, .agg [.int .i64 0, .int .i64 0, .int .i64 0], .int .i64 0, .int .i64 0, .int .i64 0, .int .u32 0, .str []] rfl) rfl rfl ?_
          refine dP (fun _ => false) (opp_loadF rfl (ev_glob hG4) ty29) rfl rfl ?_
          refine dR0 (fun n => Nat.beq n 6) (opr_store (v := .agg _) (trn := (.agg _)) rfl rfl rfl rfl bi rfl rfl rfl rfl fr2 ty26 (fun _ _ h => h)) rfl rfl rfl ?_
          refine dP (fun _ => false) (opp_as (v := .err _) rfl rfl) rfl rfl ?_
          refine And.intro (by kernel_rfl) ?_
          refine awp_ret ?_
          repeat (first | refine athen_ret ?_ | refine ain_ret ?_)
          first
            | refine apost_ret (aend (l := [.agg _, .err _]) (.cell rfl rfl rfl (by exact True.intro) rfl ty26 (.tmp .nil)) (fun h => by cases h) (.cons (.noN rfl rfl) (.cons (.noN rfl rfl) .nil)) ⟨Wk.v ?_, rfl, rfl⟩)
            | refine apost_ret (aends (l := [.agg _, .err _]) (.cell rfl rfl rfl (by exact True.intro) rfl ty26 (.tmp .nil)) (fun h => by cases h) (.cons shut (fun h => by cases h) (.cons shut (fun h => by cases h) .nil)) rfl ⟨Wk.v ?_, rfl, rfl⟩)
          refine .of ?_
          try simp only [cmpI, errD_nil, Bool.not_eq_true', Bool.not_eq_false', decide_eq_true_eq, decide_eq_false_iff_not] at *
          first | (exfalso; omega) | (simp_all [Sp.answer, noteAV, xidAV, errD, Sp.zero]; done) | (simp_all [Sp.answer, noteAV, xidAV, errD, Sp.zero]; omega)
    · try simp only [cmpI, errD_nil, Bool.not_eq_true', Bool.not_eq_false', decide_eq_true_eq, decide_eq_false_iff_not] at hc9; have ht20 := hc9
      refine awp_seq ?_
      refine awp_region rfl ?_
      refine sP (opp_cmp rfl rfl rfl rfl) rfl rfl ?_
      refine sP (opp_as (v := .bool _) rfl rfl) rfl rfl ?_
      refine awp_cond _ rfl (fun hc34 => ?_) (fun hc34 => ?_)
      · try simp only [cmpI, errD_nil, Bool.not_eq_true', Bool.not_eq_false', decide_eq_true_eq, decide_eq_false_iff_not] at hc34; have ht20 := hc34
        refine awp_skip ?_
        refine awp_cond _ rfl (fun hc35 => ?_) (fun hc35 => ?_)
        · try simp only [cmpI, errD_nil, Bool.not_eq_true', Bool.not_eq_false', decide_eq_true_eq, decide_eq_false_iff_not] at hc35; have ht20 := hc35
          refine awp_skip ?_
          refine awp_seq ?_
          refine awp_seq ?_
          refine awp_region rfl ?_
          first
            | refine sP (opp_fieldP rfl rfl fld26_0 rfl) rfl rfl ?_
            | refine sP (opp_fieldF rfl rfl rfl fld26_0 rfl rfl) rfl rfl ?_
          first
            | refine sP (opp_loadP rfl rfl rfl rfl bi rfl ty3) rfl rfl ?_
            | refine sP (opp_loadF rfl rfl ty3) rfl rfl ?_
          refine sP (opp_mv (v := .int _ _) rfl rfl) rfl rfl ?_
          refine sP (opp_cmp rfl rfl rfl rfl) rfl rfl ?_
          refine sP (opp_mv (v := .bool _) rfl rfl) rfl rfl ?_
          refine sG _ rfl rfl rfl rfl (fun hg => (And.intro gi (True.intro))) (fun hg => opp_mv (v := .int _ _) rfl rfl) ?_
          refine sG _ rfl rfl rfl rfl (fun hg => (And.intro gi (And.intro gi (True.intro)))) (fun hg => opp_cmp rfl rfl rfl rfl) ?_
          refine sG _ rfl rfl rfl rfl (fun hg => (And.intro gi (True.intro))) (fun hg => opp_mv (v := .bool _) rfl rfl) ?_
          refine sG _ rfl rfl rfl rfl (fun hg => (And.intro gi (True.intro))) (fun hg => opp_mv (v := .int _ _) rfl rfl) ?_
          refine sG _ rfl rfl rfl rfl (fun hg => (And.intro gi (And.intro gi (True.intro)))) (fun hg => opp_cmp rfl rfl rfl rfl) ?_
          refine sPickG _ rfl rfl rfl rfl rfl rfl (fun hg => by first | exact True.intro | exact And.intro hg True.intro | (refine And.intro ?_ True.intro; simp_all; done)) rfl rfl (fun h0 hg => g2) (fun h0 hg => g2) ?_
          refine sPick rfl rfl rfl rfl (by exact True.intro) rfl rfl (fun hg => gi) (fun hg => gi) ?_
          refine awp_cond _ rfl (fun hc37 => ?_) (fun hc37 => ?_)
          · try simp only [cmpI, errD_nil, Bool.not_eq_true', Bool.not_eq_false', decide_eq_true_eq, decide_eq_false_iff_not] at hc37; have ht37 := hc37
            refine awp_seq ?_
            refine awp_draw hmix rfl (by kernel_rfl) ?_
            refine dP (fun _ => false) (opp_build rfl z26 bld26 rfl [.int .i64 0, .int .i64 0, .agg [.int .i64 0, .int .i64 0, .int .i64 0], .int .i64 0, .int .i64 0, .int .i64 0, .int .u32 0, .str []] rfl) rfl rfl ?_
            refine dP (fun _ => false) (opp_loadF rfl (ev_glob hG2) ty29) rfl rfl ?_
            refine dR0 (fun n => Nat.beq n 6) (opr_store (v := .agg _) (trn := (.agg _)) rfl rfl rfl rfl bi rfl rfl rfl rfl fr2 ty26 (fun _ _ h => h)) rfl rfl rfl ?_
            refine dP (fun _ => false) (opp_as (v := .err _) rfl rfl) rfl rfl ?_
            refine And.intro (by kernel_rfl) ?_
            refine awp_ret ?_
            repeat (first | refine athen_ret ?_ | refine ain_ret ?_)
            first
              | refine apost_ret (aend (l := [.agg _, .err _]) (.cell rfl rfl rfl (by exact True.intro) rfl ty26 (.tmp .nil)) (fun h => by cases h) (.cons (.noN rfl rfl) (.cons (.noN rfl rfl) .nil)) ⟨Wk.v ?_, rfl, rfl⟩)
              | refine apost_ret (aends (l := [.agg _, .err _]) (.cell rfl rfl rfl (by exact True.intro) rfl ty26 (.tmp .nil)) (fun h => by cases h) (.cons shut (fun h => by cases h) (.cons shut (fun h => by cases h) .nil)) rfl ⟨Wk.v ?_, rfl, rfl⟩)
            refine .of ?_
            try simp only [cmpI, errD_nil, Bool.not_eq_true', Bool.not_eq_false', decide_eq_true_eq, decide_eq_false_iff_not] at *
            first | (exfalso; omega) | (simp_all [Sp.answer, noteAV, xidAV, errD, Sp.zero]; done) | (simp_all [Sp.answer, noteAV, xidAV, errD, Sp.zero]; omega)
          · try simp only [cmpI, errD_nil, Bool.not_eq_true', Bool.not_eq_false', decide_eq_true_eq, decide_eq_false_iff_not] at hc37; have ht37 := hc37
            refine awp_skip ?_
            refine awp_seq ?_
            refine awp_region rfl ?_
            refine sP (opp_mv (v := .int _ _) rfl rfl) rfl rfl ?_
            first
              | refine sP (opp_fieldP rfl rfl fld26_1 rfl) rfl rfl ?_
              | refine sP (opp_fieldF rfl rfl rfl fld26_1 rfl rfl) rfl rfl ?_
            first
              | refine sP (opp_loadP rfl rfl rfl rfl bi rfl ty3) rfl rfl ?_
              | refine sP (opp_loadF rfl rfl ty3) rfl rfl ?_
            first
              | refine sP (opp_fieldP rfl rfl fld26_2 rfl) rfl rfl ?_
              | refine sP (opp_fieldF rfl rfl rfl fld26_2 rfl rfl) rfl rfl ?_
            first
              | refine sP (opp_loadP rfl rfl rfl rfl bi rfl ty23) rfl rfl ?_
              | refine sP (opp_loadF rfl rfl ty23) rfl rfl ?_
            first
              | refine sP (opp_fieldP rfl rfl fld26_3 rfl) rfl rfl ?_
              | refine sP (opp_fieldF rfl rfl rfl fld26_3 rfl rfl) rfl rfl ?_
            first
              | refine sP (opp_loadP rfl rfl rfl rfl bi rfl ty3) rfl rfl ?_
              | refine sP (opp_loadF rfl rfl ty3) rfl rfl ?_
            refine sP (opp_mv (v := .int _ _) rfl rfl) rfl rfl ?_
            refine sP (opp_build rfl z26 bld26 rfl [.int _ _, .int _ _, .agg _, .int _ _, .int .i64 0, .int .i64 0, .int _ _, .str []] rfl) rfl rfl ?_
            refine sR (opr_alloc (n := 10) rfl z26) rfl rfl rfl ?_
            refine sR0 (opr_store (v := .agg _) (trn := (.agg _)) rfl rfl rfl rfl bi rfl rfl rfl rfl fr2 ty26 (fun _ _ h => h)) rfl rfl rfl ?_
            refine awp_seq ?_
            refine awp_seq ?_
            refine awp_region rfl ?_
            refine sP (opp_mv (v := .int _ _) rfl rfl) rfl rfl ?_
            refine sP (opp_cmp rfl rfl rfl rfl) rfl rfl ?_
            refine awp_cond _ rfl (fun hc41 => ?_) (fun hc41 => ?_)
            · try simp only [cmpI, errD_nil, Bool.not_eq_true', Bool.not_eq_false', decide_eq_true_eq, decide_eq_false_iff_not] at hc41; have ht50 := hc41
              refine awp_draw hmix rfl (by kernel_rfl) ?_
              first
                | refine dP (fun _ => false) (opp_fieldP rfl rfl fld26_4 rfl) rfl rfl ?_
                | refine dP (fun _ => false) (opp_fieldF rfl rfl rfl fld26_4 rfl rfl) rfl rfl ?_
              first
                | refine dP (fun n => Nat.beq n 3) (opp_loadP rfl rfl rfl rfl bi rfl ty3) rfl rfl ?_
                | refine dP (fun n => Nat.beq n 3) (opp_loadF rfl rfl ty3) rfl rfl ?_
              first
                | refine dP (fun _ => false) (opp_fieldP rfl rfl fld26_5 rfl) rfl rfl ?_
                | refine dP (fun _ => false) (opp_fieldF rfl rfl rfl fld26_5 rfl rfl) rfl rfl ?_
              first
                | refine dP (fun n => Nat.beq n 3) (opp_loadP rfl rfl rfl rfl bi rfl ty3) rfl rfl ?_
                | refine dP (fun n => Nat.beq n 3) (opp_loadF rfl rfl ty3) rfl rfl ?_
              first
                | refine dP (fun _ => false) (opp_fieldP rfl rfl fld26_4 rfl) rfl rfl ?_
                | refine dP (fun _ => false) (opp_fieldF rfl rfl rfl fld26_4 rfl rfl) rfl rfl ?_
              refine dR0 (fun n => Nat.beq n 10) (opr_store (v := .int _ _) (trn := (.agg [_, _, _, _, .int _ _, _, _, _])) rfl rfl rfl rfl bi rfl rfl rfl rfl fr2 ty3 (fun _ _ h => h)) rfl rfl rfl ?_
              first
                | refine dP (fun _ => false) (opp_fieldP rfl rfl fld26_5 rfl) rfl rfl ?_
                | refine dP (fun _ => false) (opp_fieldF rfl rfl rfl fld26_5 rfl rfl) rfl rfl ?_
              refine dR0 (fun n => Nat.beq n 10) (opr_store (v := .int _ _) (trn := (.agg [_, _, _, _, _, .int _ _, _, _])) rfl rfl rfl rfl bi rfl rfl rfl rfl fr2 ty3 (fun _ _ h => h)) rfl rfl rfl ?_
              refine And.intro (by kernel_rfl) ?_
              refine awp_seq ?_
              refine awp_region rfl ?_
              first
                | refine sP (opp_loadP rfl rfl rfl rfl bi rfl ty26) rfl rfl ?_
                | refine sP (opp_loadF rfl rfl ty26) rfl rfl ?_
              refine sR0 (opr_store (v := .agg _) (trn := (.agg _)) rfl rfl rfl rfl bi rfl rfl rfl rfl fr2 ty26 (fun _ _ h => h)) rfl rfl rfl ?_
              refine sP (opp_as (v := .err _) rfl rfl) rfl rfl ?_
              refine awp_ret ?_
              repeat (first | refine athen_ret ?_ | refine ain_ret ?_)
              first
                | refine apost_ret (aend (l := [.agg _, .err _]) (.cell rfl rfl rfl (by exact True.intro) rfl ty26 (.tmp .nil)) (fun h => by cases h) (.cons (.noN rfl rfl) (.cons (.noN rfl rfl) .nil)) ⟨Wk.v ?_, rfl, rfl⟩)
                | refine apost_ret (aends (l := [.agg _, .err _]) (.cell rfl rfl rfl (by exact True.intro) rfl ty26 (.tmp .nil)) (fun h => by cases h) (.cons shut (fun h => by cases h) (.cons shut (fun h => by cases h) .nil)) rfl ⟨Wk.v ?_, rfl, rfl⟩)
              refine .of ?_
              try simp only [cmpI, errD_nil, Bool.not_eq_true', Bool.not_eq_false', decide_eq_true_eq, decide_eq_false_iff_not] at *
              first | (exfalso; omega) | (simp_all [Sp.answer, noteAV, xidAV, errD, Sp.zero]; done) | (simp_all [Sp.answer, noteAV, xidAV, errD, Sp.zero]; omega)
            · try simp only [cmpI, errD_nil, Bool.not_eq_true', Bool.not_eq_false', decide_eq_true_eq, decide_eq_false_iff_not] at hc41; have ht50 := hc41
              refine awp_skip ?_
              refine awp_seq ?_
              refine awp_region rfl ?_
              first
                | refine sP (opp_loadP rfl rfl rfl rfl bi rfl ty26) rfl rfl ?_
                | refine sP (opp_loadF rfl rfl ty26) rfl rfl ?_
              refine sR0 (opr_store (v := .agg _) (trn := (.agg _)) rfl rfl rfl rfl bi rfl rfl rfl rfl fr2 ty26 (fun _ _ h => h)) rfl rfl rfl ?_
              refine sP (opp_as (v := .err _) rfl rfl) rfl rfl ?_
              refine awp_ret ?_
              repeat (first | refine athen_ret ?_ | refine ain_ret ?_)
              first
                | refine apost_ret (aend (l := [.agg _, .err _]) (.cell rfl rfl rfl (by exact True.intro) rfl ty26 (.tmp .nil)) (fun h => by cases h) (.cons (.noN rfl rfl) (.cons (.noN rfl rfl) .nil)) ⟨Wk.v ?_, rfl, rfl⟩)
                | refine apost_ret (aends (l := [.agg _, .err _]) (.cell rfl rfl rfl (by exact True.intro) rfl ty26 (.tmp .nil)) (fun h => by cases h) (.cons shut (fun h => by cases h) (.cons shut (fun h => by cases h) .nil)) rfl ⟨Wk.v ?_, rfl, rfl⟩)
              refine .of ?_
              try simp only [cmpI, errD_nil, Bool.not_eq_true', Bool.not_eq_false', decide_eq_true_eq, decide_eq_false_iff_not] at *
              first | (exfalso; omega) | (simp_all [Sp.answer, noteAV, xidAV, errD, Sp.zero]; done) | (simp_all [Sp.answer, noteAV, xidAV, errD, Sp.zero]; omega)
        · try simp only [cmpI, errD_nil, Bool.not_eq_true', Bool.not_eq_false', decide_eq_true_eq, decide_eq_false_iff_not] at hc35; have ht20 := hc35
          refine awp_seq ?_
          refine awp_region rfl ?_
          refine sP (opp_cmp rfl rfl rfl rfl) rfl rfl ?_
          refine sP (opp_as (v := .bool _) rfl rfl) rfl rfl ?_
          refine awp_cond _ rfl (fun hc46 => ?_) (fun hc46 => ?_)
          · try simp only [cmpI, errD_nil, Bool.not_eq_true', Bool.not_eq_false', decide_eq_true_eq, decide_eq_false_iff_not] at hc46; have ht24 := hc46
            refine awp_region rfl ?_
            refine sP (opp_as (v := .int _ _) rfl rfl) rfl rfl ?_
            refine awp_seq ?_
            refine awp_seq ?_
            refine awp_region rfl ?_
            first
              | refine sP (opp_fieldP rfl rfl fld26_0 rfl) rfl rfl ?_
              | refine sP (opp_fieldF rfl rfl rfl fld26_0 rfl rfl) rfl rfl ?_
            first
              | refine sP (opp_loadP rfl rfl rfl rfl bi rfl ty3) rfl rfl ?_
              | refine sP (opp_loadF rfl rfl ty3) rfl rfl ?_
            refine sP (opp_mv (v := .int _ _) rfl rfl) rfl rfl ?_
            refine sP (opp_cmp rfl rfl rfl rfl) rfl rfl ?_
            refine sP (opp_mv (v := .bool _) rfl rfl) rfl rfl ?_
            refine sG _ rfl rfl rfl rfl (fun hg => (And.intro gi (True.intro))) (fun hg => opp_mv (v := .int _ _) rfl rfl) ?_
            refine sG _ rfl rfl rfl rfl (fun hg => (And.intro gi (And.intro gi (True.intro)))) (fun hg => opp_cmp rfl rfl rfl rfl) ?_
            refine sG _ rfl rfl rfl rfl (fun hg => (And.intro gi (True.intro))) (fun hg => opp_mv (v := .bool _) rfl rfl) ?_
            refine sG _ rfl rfl rfl rfl (fun hg => (And.intro gi (True.intro))) (fun hg => opp_mv (v := .int _ _) rfl rfl) ?_
            refine sG _ rfl rfl rfl rfl (fun hg => (And.intro gi (And.intro gi (True.intro)))) (fun hg => opp_cmp rfl rfl rfl rfl) ?_
            refine sPickG _ rfl rfl rfl rfl rfl rfl (fun hg => by first | exact True.intro | exact And.intro hg True.intro | (refine And.intro ?_ True.intro; simp_all; done)) rfl rfl (fun h0 hg => g2) (fun h0 hg => g2) ?_
            refine sPick rfl rfl rfl rfl (by exact True.intro) rfl rfl (fun hg => gi) (fun hg => gi) ?_
            refine awp_cond _ rfl (fun hc49 => ?_) (fun hc49 => ?_)
            · try simp only [cmpI, errD_nil, Bool.not_eq_true', Bool.not_eq_false', decide_eq_true_eq, decide_eq_false_iff_not] at hc49; have ht37 := hc49
              refine awp_seq ?_
              refine awp_draw hmix rfl (by kernel_rfl) ?_
              refine dP (fun _ => false) (opp_build rfl z26 bld26 rfl [.int .i64 0, .int .i64 0, .agg [.int .i64 0, .int .i64 0, .int .i64 0], .int .i64 0, .int .i64 0, .int .i64 0, .int .u32 0, .str []] rfl) rfl rfl ?_
              refine dP (fun _ => false) (opp_loadF rfl (ev_glob hG2) ty29) rfl rfl ?_
              refine dR0 (fun n => Nat.beq n 6) (opr_store (v := .agg _) (trn := (.agg _)) rfl rfl rfl rfl bi rfl rfl rfl rfl fr2 ty26 (fun _ _ h => h)) rfl rfl rfl ?_
              refine dP (fun _ => false) (opp_as (v := .err _) rfl rfl) rfl rfl ?_
              refine And.intro (by kernel_rfl) ?_
              refine awp_ret ?_
              repeat (first | refine athen_ret ?_ | refine ain_ret ?_)
              first
                | refine apost_ret (aend (l := [.agg _, .err _]) (.cell rfl rfl rfl (by exact True.intro) rfl ty26 (.tmp .nil)) (fun h => by cases h) (.cons (.noN rfl rfl) (.cons (.noN rfl rfl) .nil)) ⟨Wk.v ?_, rfl, rfl⟩)
                | refine apost_ret (aends (l := [.agg _, .err _]) (.cell rfl rfl rfl (by exact True.intro) rfl ty26 (.tmp .nil)) (fun h => by cases h) (.cons shut (fun h => by cases h) (.cons shut (fun h => by cases h) .nil)) rfl ⟨Wk.v ?_, rfl, rfl⟩)
              refine .of ?_
              try simp only [cmpI, errD_nil, Bool.not_eq_true', Bool.not_eq_false', decide_eq_true_eq, decide_eq_false_iff_not] at *
              first | (exfalso; omega) | (simp_all [Sp.answer, noteAV, xidAV, errD, Sp.zero]; done) | (simp_all [Sp.answer, noteAV, xidAV, errD, Sp.zero]; omega)
            · try simp only [cmpI, errD_nil, Bool.not_eq_true', Bool.not_eq_false', decide_eq_true_eq, decide_eq_false_iff_not] at hc49; have ht37 := hc49
              refine awp_skip ?_
              refine awp_seq ?_
              refine awp_region rfl ?_
              refine sP (opp_mv (v := .int _ _) rfl rfl) rfl rfl ?_
              first
                | refine sP (opp_fieldP rfl rfl fld26_1 rfl) rfl rfl ?_
                | refine sP (opp_fieldF rfl rfl rfl fld26_1 rfl rfl) rfl rfl ?_
              first
                | refine sP (opp_loadP rfl rfl rfl rfl bi rfl ty3) rfl rfl ?_
                | refine sP (opp_loadF rfl rfl ty3) rfl rfl ?_
              first
                | refine sP (opp_fieldP rfl rfl fld26_2 rfl) rfl rfl ?_
                | refine sP (opp_fieldF rfl rfl rfl fld26_2 rfl rfl) rfl rfl ?_
              first
                | refine sP (opp_loadP rfl rfl rfl rfl bi rfl ty23) rfl rfl ?_
                | refine sP (opp_loadF rfl rfl ty23) rfl rfl ?_
              first
                | refine sP (opp_fieldP rfl rfl fld26_3 rfl) rfl rfl ?_
                | refine sP (opp_fieldF rfl rfl rfl fld26_3 rfl rfl) rfl rfl ?_
              first
                | refine sP (opp_loadP rfl rfl rfl rfl bi rfl ty3) rfl rfl ?_
                | refine sP (opp_loadF rfl rfl ty3) rfl rfl ?_
              refine sP (opp_mv (v := .int _ _) rfl rfl) rfl rfl ?_
              refine sP (opp_build rfl z26 bld26 rfl [.int _ _, .int _ _, .agg _, .int _ _, .int .i64 0, .int .i64 0, .int _ _, .str []] rfl) rfl rfl ?_
              refine sR (opr_alloc (n := 10) rfl z26) rfl rfl rfl ?_
              refine sR0 (opr_store (v := .agg _) (trn := (.agg _)) rfl rfl rfl rfl bi rfl rfl rfl rfl fr2 ty26 (fun _ _ h => h)) rfl rfl rfl ?_
              refine awp_seq ?_
              refine awp_seq ?_
              refine awp_region rfl ?_
              refine sP (opp_mv (v := .int _ _) rfl rfl) rfl rfl ?_
              refine sP (opp_cmp rfl rfl rfl rfl) rfl rfl ?_
              refine awp_cond _ rfl (fun hc53 => ?_) (fun hc53 => ?_)
              · try simp only [cmpI, errD_nil, Bool.not_eq_true', Bool.not_eq_false', decide_eq_true_eq, decide_eq_false_iff_not] at hc53; have ht50 := hc53
                refine awp_draw hmix rfl (by kernel_rfl) ?_
                first
                  | refine dP (fun _ => false) (opp_fieldP rfl rfl fld26_4 rfl) rfl rfl ?_
                  | refine dP (fun _ => false) (opp_fieldF rfl rfl rfl fld26_4 rfl rfl) rfl rfl ?_
                first
                  | refine dP (fun n => Nat.beq n 3) (opp_loadP rfl rfl rfl rfl bi rfl ty3) rfl rfl ?_
                  | refine dP (fun n => Nat.beq n 3) (opp_loadF rfl rfl ty3) rfl rfl ?_
                first
                  | refine dP (fun _ => false) (opp_fieldP rfl rfl fld26_5 rfl) rfl rfl ?_
                  | refine dP (fun _ => false) (opp_fieldF rfl rfl rfl fld26_5 rfl rfl) rfl rfl ?_
                first
                  | refine dP (fun n => Nat.beq n 3) (opp_loadP rfl rfl rfl rfl bi rfl ty3) rfl rfl ?_
                  | refine dP (fun n => Nat.beq n 3) (opp_loadF rfl rfl ty3) rfl rfl ?_
                first
                  | refine dP (fun _ => false) (opp_fieldP rfl rfl fld26_4 rfl) rfl rfl ?_
                  | refine dP (fun _ => false) (opp_fieldF rfl rfl rfl fld26_4 rfl rfl) rfl rfl ?_
                refine dR0 (fun n => Nat.beq n 10) (opr_store (v := .int _ _) (trn := (.agg [_, _, _, _, .int _ _, _, _, _])) rfl rfl rfl rfl bi rfl rfl rfl rfl fr2 ty3 (fun _ _ h => h)) rfl rfl rfl ?_
                first
                  | refine dP (fun _ => false) (opp_fieldP rfl rfl fld26_5 rfl) rfl rfl ?_
                  | refine dP (fun _ => false) (opp_fieldF rfl rfl rfl fld26_5 rfl rfl) rfl rfl ?_
                refine dR0 (fun n => Nat.beq n 10) (opr_store (v := .int _ _) (trn := (.agg [_, _, _, _, _, .int _ _, _, _])) rfl rfl rfl rfl bi rfl rfl rfl rfl fr2 ty3 (fun _ _ h => h)) rfl rfl rfl ?_
                refine And.intro (by kernel_rfl) ?_
                refine awp_seq ?_
                refine awp_region rfl ?_
                first
                  | refine sP (opp_loadP rfl rfl rfl rfl bi rfl ty26) rfl rfl ?_
                  | refine sP (opp_loadF rfl rfl ty26) rfl rfl ?_
                refine sR0 (opr_store (v := .agg _) (trn := (.agg _)) rfl rfl rfl rfl bi rfl rfl rfl rfl fr2 ty26 (fun _ _ h => h)) rfl rfl rfl ?_
                refine sP (opp_as (v := .err _) rfl rfl) rfl rfl ?_
                refine awp_ret ?_
                repeat (first | refine athen_ret ?_ | refine ain_ret ?_)
                first
                  | refine apost_ret (aend (l := [.agg _, .err _]) (.cell rfl rfl rfl (by exact True.intro) rfl ty26 (.tmp .nil)) (fun h => by cases h) (.cons (.noN rfl rfl) (.cons (.noN rfl rfl) .nil)) ⟨Wk.v ?_, rfl, rfl⟩)
                  | refine apost_ret (aends (l := [.agg _, .err _]) (.cell rfl rfl rfl (by exact True.intro) rfl ty26 (.tmp .nil)) (fun h => by cases h) (.cons shut (fun h => by cases h) (.cons shut (fun h => by cases h) .nil)) rfl ⟨Wk.v ?_, rfl, rfl⟩)
                refine .of ?_
                try simp only [cmpI, errD_nil, Bool.not_eq_true', Bool.not_eq_false', decide_eq_true_eq, decide_eq_false_iff_not] at *
                first | (exfalso; omega) | (simp_all [Sp.answer, noteAV, xidAV, errD, Sp.zero]; done) | (simp_all [Sp.answer, noteAV, xidAV, errD, Sp.zero]; omega)
              · try simp only [cmpI, errD_nil, Bool.not_eq_true', Bool.not_eq_false', decide_eq_true_eq, decide_eq_false_iff_not] at hc53; have ht50 := hc53
                refine awp_skip ?_
                refine awp_seq ?_
                refine awp_region rfl ?_
                first
                  | refine sP (opp_loadP rfl rfl rfl rfl bi rfl ty26) rfl rfl ?_
                  | refine sP (opp_loadF rfl rfl ty26) rfl rfl ?_
                refine sR0 (opr_store (v := .agg _) (trn := (.agg _)) rfl rfl rfl rfl bi rfl rfl rfl rfl fr2 ty26 (fun _ _ h => h)) rfl rfl rfl ?_
                refine sP (opp_as (v := .err _) rfl rfl) rfl rfl ?_
                refine awp_ret ?_
                repeat (first | refine athen_ret ?_ | refine ain_ret ?_)
                first
                  | refine apost_ret (aend (l := [.agg _, .err _]) (.cell rfl rfl rfl (by exact True.intro) rfl ty26 (.tmp .nil)) (fun h => by cases h) (.cons (.noN rfl rfl) (.cons (.noN rfl rfl) .nil)) ⟨Wk.v ?_, rfl, rfl⟩)
                  | refine apost_ret (aends (l := [.agg _, .err _]) (.cell rfl rfl rfl (by exact True.intro) rfl ty26 (.tmp .nil)) (fun h => by cases h) (.cons shut (fun h => by cases h) (.cons shut (fun h => by cases h) .nil)) rfl ⟨Wk.v ?_, rfl, rfl⟩)
                refine .of ?_
                try simp only [cmpI, errD_nil, Bool.not_eq_true', Bool.not_eq_false', decide_eq_true_eq, decide_eq_false_iff_not] at *
                first | (exfalso; omega) | (simp_all [Sp.answer, noteAV, xidAV, errD, Sp.zero]; done) | (simp_all [Sp.answer, noteAV, xidAV, errD, Sp.zero]; omega)
          · try simp only [cmpI, errD_nil, Bool.not_eq_true', Bool.not_eq_false', decide_eq_true_eq, decide_eq_false_iff_not] at hc46; have ht24 := hc46
            refine awp_seq ?_
            refine awp_draw hmix rfl (by kernel_rfl) ?_
            refine dP (fun _ => false) (opp_build rfl z26 bld26 rfl [.int .i64 0, .int .i64 0, .agg [.int .i64 0, .int .i64 0, .int .i64 0], .int .i64 0, .int .i64 0, .int .i64 0, .int .u32 0, .str []] rfl) rfl rfl ?_
            refine dP (fun _ => false) (opp_loadF rfl (ev_glob hG4) ty29) rfl rfl ?_
            refine dR0 (fun n => Nat.beq n 6) (opr_store (v := .agg _) (trn := (.agg _)) rfl rfl rfl rfl bi rfl rfl rfl rfl fr2 ty26 (fun _ _ h => h)) rfl rfl rfl ?_
            refine dP (fun _ => false) (opp_as (v := .err _) rfl rfl) rfl rfl ?_
            refine And.intro (by kernel_rfl) ?_
            refine awp_ret ?_
            repeat (first | refine athen_ret ?_ | refine ain_ret ?_)
            first
              | refine apost_ret (aend (l := [.agg _, .err _]) (.cell rfl rfl rfl (by exact True.intro) rfl ty26 (.tmp .nil)) (fun h => by cases h) (.cons (.noN rfl rfl) (.cons (.noN rfl rfl) .nil)) ⟨Wk.v ?_, rfl, rfl⟩)
              | refine apost_ret (aends (l := [.agg _, .err _]) (.cell rfl rfl rfl (by exact True.intro) rfl ty26 (.tmp .nil)) (fun h => by cases h) (.cons shut (fun h => by cases h) (.cons shut (fun h => by cases h) .nil)) rfl ⟨Wk.v ?_, rfl, rfl⟩)
            refine .of ?_
            try simp only [cmpI, errD_nil, Bool.not_eq_true', Bool.not_eq_false', decide_eq_true_eq, decide_eq_false_iff_not] at *
            first | (exfalso; omega) | (simp_all [Sp.answer, noteAV, xidAV, errD, Sp.zero]; done) | (simp_all [Sp.answer, noteAV, xidAV, errD, Sp.zero]; omega)
      · try simp only [cmpI, errD_nil, Bool.not_eq_true', Bool.not_eq_false', decide_eq_true_eq, decide_eq_false_iff_not] at hc34; have ht20 := hc34
        refine awp_region rfl ?_
        refine sP (opp_cmp rfl rfl rfl rfl) rfl rfl ?_
        refine sP (opp_as (v := .bool _) rfl rfl) rfl rfl ?_
        refine awp_cond _ rfl (fun hc59 => ?_) (fun hc59 => ?_)
        · try simp only [cmpI, errD_nil, Bool.not_eq_true', Bool.not_eq_false', decide_eq_true_eq, decide_eq_false_iff_not] at hc59; have ht20 := hc59
          refine awp_skip ?_
          refine awp_seq ?_
          refine awp_seq ?_
          refine awp_region rfl ?_
          first
            | refine sP (opp_fieldP rfl rfl fld26_0 rfl) rfl rfl ?_
            | refine sP (opp_fieldF rfl rfl rfl fld26_0 rfl rfl) rfl rfl ?_
          first
            | refine sP (opp_loadP rfl rfl rfl rfl bi rfl ty3) rfl rfl ?_
            | refine sP (opp_loadF rfl rfl ty3) rfl rfl ?_
          refine sP (opp_mv (v := .int _ _) rfl rfl) rfl rfl ?_
          refine sP (opp_cmp rfl rfl rfl rfl) rfl rfl ?_
          refine sP (opp_mv (v := .bool _) rfl rfl) rfl rfl ?_
          refine sG _ rfl rfl rfl rfl (fun hg => (And.intro gi (True.intro))) (fun hg => opp_mv (v := .int _ _) rfl rfl) ?_
          refine sG _ rfl rfl rfl rfl (fun hg => (And.intro gi (And.intro gi (True.intro)))) (fun hg => opp_cmp rfl rfl rfl rfl) ?_
          refine sG _ rfl rfl rfl rfl (fun hg => (And.intro gi (True.intro))) (fun hg => opp_mv (v := .bool _) rfl rfl) ?_
          refine sG _ rfl rfl rfl rfl (fun hg => (And.intro gi (True.intro))) (fun hg => opp_mv (v := .int _ _) rfl rfl) ?_
          refine sG _ rfl rfl rfl rfl (fun hg => (And.intro gi (And.intro gi (True.intro)))) (fun hg => opp_cmp rfl rfl rfl rfl) ?_
          refine sPickG _ rfl rfl rfl rfl rfl rfl (fun hg => by first | exact True.intro | exact And.intro hg True.intro | (refine And.intro ?_ True.intro; simp_all; done)) rfl rfl (fun h0 hg => g2) (fun h0 hg => g2) ?_
          refine sPick rfl rfl rfl rfl (by exact True.intro) rfl rfl (fun hg => gi) (fun hg => gi) ?_
          refine awp_cond _ rfl (fun hc61 => ?_) (fun hc61 => ?_)
          · try simp only [cmpI, errD_nil, Bool.not_eq_true', Bool.not_eq_false', decide_eq_true_eq, decide_eq_false_iff_not] at hc61; have ht37 := hc61
            refine awp_seq ?_
            refine awp_draw hmix rfl (by kernel_rfl) ?_
            refine dP (fun _ => false) (opp_build rfl z26 bld26 rfl [.int .i64 0, .int .i64 0, .agg [.int .i64 0, .int .i64 0, .int .i64 0], .int .i64 0, .int .i64 0, .int .i64 0, .int .u32 0, .str []] rfl) rfl rfl ?_
            refine dP (fun _ => false) (opp_loadF rfl (ev_glob hG2) ty29) rfl rfl ?_
            refine dR0 (fun n => Nat.beq n 6) (opr_store (v := .agg _) (trn := (.agg _)) rfl rfl rfl rfl bi rfl rfl rfl rfl fr2 ty26 (fun _ _ h => h)) rfl rfl rfl ?_
            refine dP (fun _ => false) (opp_as (v := .err _) rfl rfl) rfl rfl ?_
            refine And.intro (by kernel_rfl) ?_
            refine awp_ret ?_
            repeat (first | refine athen_ret ?_ | refine ain_ret ?_)
            first
              | refine apost_ret (aend (l := [.agg _, .err _]) (.cell rfl rfl rfl (by exact True.intro) rfl ty26 (.tmp .nil)) (fun h => by cases h) (.cons (.noN rfl rfl) (.cons (.noN rfl rfl) .nil)) ⟨Wk.v ?_, rfl, rfl⟩)
              | refine apost_ret (aends (l := [.agg _, .err _]) (.cell rfl rfl rfl (by exact True.intro) rfl ty26 (.tmp .nil)) (fun h => by cases h) (.cons shut (fun h => by cases h) (.cons shut (fun h => by cases h) .nil)) rfl ⟨Wk.v ?_, rfl, rfl⟩)
            refine .of ?_
            try simp only [cmpI, errD_nil, Bool.not_eq_true', Bool.not_eq_false', decide_eq_true_eq, decide_eq_false_iff_not] at *
            first | (exfalso; omega) | (simp_all [Sp.answer, noteAV, xidAV, errD, Sp.zero]; done) | (simp_all [Sp.answer, noteAV, xidAV, errD, Sp.zero]; omega)
          · try simp only [cmpI, errD_nil, Bool.not_eq_true', Bool.not_eq_false', decide_eq_true_eq, decide_eq_false_iff_not] at hc61; have ht37 := hc61
            refine awp_skip ?_
            refine awp_seq ?_
            refine awp_region rfl ?_
            refine sP (opp_mv (v := .int _ _) rfl rfl) rfl rfl ?_
            first
              | refine sP (opp_fieldP rfl rfl fld26_1 rfl) rfl rfl ?_
              | refine sP (opp_fieldF rfl rfl rfl fld26_1 rfl rfl) rfl rfl ?_
            first
              | refine sP (opp_loadP rfl rfl rfl rfl bi rfl ty3) rfl rfl ?_
              | refine sP (opp_loadF rfl rfl ty3) rfl rfl ?_
            first
              | refine sP (opp_fieldP rfl rfl fld26_2 rfl) rfl rfl ?_
              | refine sP (opp_fieldF rfl rfl rfl fld26_2 rfl rfl) rfl rfl ?_
            first
              | refine sP (opp_loadP rfl rfl rfl rfl bi rfl ty23) rfl rfl ?_
              | refine sP (opp_loadF rfl rfl ty23) rfl rfl ?_
            first
              | refine sP (opp_fieldP rfl rfl fld26_3 rfl) rfl rfl ?_
              | refine sP (opp_fieldF rfl rfl rfl fld26_3 rfl rfl) rfl rfl ?_
            first
              | refine sP (opp_loadP rfl rfl rfl rfl bi rfl ty3) rfl rfl ?_
              | refine sP (opp_loadF rfl rfl ty3) rfl rfl ?_
            refine sP (opp_mv (v := .int _ _) rfl rfl) rfl rfl ?_
            refine sP (opp_build rfl z26 bld26 rfl [.int _ _, .int _ _, .agg _, .int _ _, .int .i64 0, .int .i64 0, .int _ _, .str []] rfl) rfl rfl ?_
            refine sR (opr_alloc (n := 10) rfl z26) rfl rfl rfl ?_
            refine sR0 (opr_store (v := .agg _) (trn := (.agg _)) rfl rfl rfl rfl bi rfl rfl rfl rfl fr2 ty26 (fun _ _ h => h)) rfl rfl rfl ?_
            refine awp_seq ?_
            refine awp_seq ?_
            refine awp_region rfl ?_
            refine sP (opp_mv (v := .int _ _) rfl rfl) rfl rfl ?_
            refine sP (opp_cmp rfl rfl rfl rfl) rfl rfl ?_
            refine awp_cond _ rfl (fun hc65 => ?_) (fun hc65 => ?_)
            · try simp only [cmpI, errD_nil, Bool.not_eq_true', Bool.not_eq_false', decide_eq_true_eq, decide_eq_false_iff_not] at hc65; have ht50 := hc65
              refine awp_draw hmix rfl (by kernel_rfl) ?_
              first
                | refine dP (fun _ => false) (opp_fieldP rfl rfl fld26_4 rfl) rfl rfl ?_
                | refine dP (fun _ => false) (opp_fieldF rfl rfl rfl fld26_4 rfl rfl) rfl rfl ?_
              first
                | refine dP (fun n => Nat.beq n 3) (opp_loadP rfl rfl rfl rfl bi rfl ty3) rfl rfl ?_
                | refine dP (fun n => Nat.beq n 3) (opp_loadF rfl rfl ty3) rfl rfl ?_
              first
                | refine dP (fun _ => false) (opp_fieldP rfl rfl fld26_5 rfl) rfl rfl ?_
                | refine dP (fun _ => false) (opp_fieldF rfl rfl rfl fld26_5 rfl rfl) rfl rfl ?_
              first
                | refine dP (fun n => Nat.beq n 3) (opp_loadP rfl rfl rfl rfl bi rfl ty3) rfl rfl ?_
                | refine dP (fun n => Nat.beq n 3) (opp_loadF rfl rfl ty3) rfl rfl ?_
              first
                | refine dP (fun _ => false) (opp_fieldP rfl rfl fld26_4 rfl) rfl rfl ?_
                | refine dP (fun _ => false) (opp_fieldF rfl rfl rfl fld26_4 rfl rfl) rfl rfl ?_
              refine dR0 (fun n => Nat.beq n 10) (opr_store (v := .int _ _) (trn := (.agg [_, _, _, _, .int _ _, _, _, _])) rfl rfl rfl rfl bi rfl rfl rfl rfl fr2 ty3 (fun _ _ h => h)) rfl rfl rfl ?_
              first
                | refine dP (fun _ => false) (opp_fieldP rfl rfl fld26_5 rfl) rfl rfl ?_
                | refine dP (fun _ => false) (opp_fieldF rfl rfl rfl fld26_5 rfl rfl) rfl rfl ?_
              refine dR0 (fun n => Nat.beq n 10) (opr_store (v := .int _ _) (trn := (.agg [_, _, _, _, _, .int _ _, _, _])) rfl rfl rfl rfl bi rfl rfl rfl rfl fr2 ty3 (fun _ _ h => h)) rfl rfl rfl ?_
              refine And.intro (by kernel_rfl) ?_
              refine awp_seq ?_
              refine awp_region rfl ?_
              first
                | refine sP (opp_loadP rfl rfl rfl rfl bi rfl ty26) rfl rfl ?_
                | refine sP (opp_loadF rfl rfl ty26) rfl rfl ?_
              refine sR0 (opr_store (v := .agg _) (trn := (.agg _)) rfl rfl rfl rfl bi rfl rfl rfl rfl fr2 ty26 (fun _ _ h => h)) rfl rfl rfl ?_
              refine sP (opp_as (v := .err _) rfl rfl) rfl rfl ?_
              refine awp_ret ?_
              repeat (first | refine athen_ret ?_ | refine ain_ret ?_)
              first
                | refine apost_ret (aend (l := [.agg _, .err _]) (.cell rfl rfl rfl (by exact True.intro) rfl ty26 (.tmp .nil)) (fun h => by cases h) (.cons (.noN rfl rfl) (.cons (.noN rfl rfl) .nil)) ⟨Wk.v ?_, rfl, rfl⟩)
                | refine apost_ret (aends (l := [.agg _, .err _]) (.cell rfl rfl rfl (by exact True.intro) rfl ty26 (.tmp .nil)) (fun h => by cases h) (.cons shut (fun h => by cases h) (.cons shut (fun h => by cases h) .nil)) rfl ⟨Wk.v ?_, rfl, rfl⟩)
              refine .of ?_
              try simp only [cmpI, errD_nil, Bool.not_eq_true', Bool.not_eq_false', decide_eq_true_eq, decide_eq_false_iff_not] at *
              first | (exfalso; omega) | (simp_all [Sp.answer, noteAV, xidAV, errD, Sp.zero]; done) | (simp_all [Sp.answer, noteAV, xidAV, errD, Sp.zero]; omega)
            · try simp only [cmpI, errD_nil, Bool.not_eq_true', Bool.not_eq_false', decide_eq_true_eq, decide_eq_false_iff_not] at hc65; have ht50 := hc65
              refine awp_skip ?_
              refine awp_seq ?_
              refine awp_region rfl ?_
              first
                | refine sP (opp_loadP rfl rfl rfl rfl bi rfl ty26) rfl rfl ?_
                | refine sP (opp_loadF rfl rfl ty26) rfl rfl ?_
              refine sR0 (opr_store (v := .agg _) (trn := (.agg _)) rfl rfl rfl rfl bi rfl rfl rfl rfl fr2 ty26 (fun _ _ h => h)) rfl rfl rfl ?_
              refine sP (opp_as (v := .err _) rfl rfl) rfl rfl ?_
              refine awp_ret ?_
              repeat (first | refine athen_ret ?_ | refine ain_ret ?_)
              first
                | refine apost_ret (aend (l := [.agg _, .err _]) (.cell rfl rfl rfl (by exact True.intro) rfl ty26 (.tmp .nil)) (fun h => by cases h) (.cons (.noN rfl rfl) (.cons (.noN rfl rfl) .nil)) ⟨Wk.v ?_, rfl, rfl⟩)
                | refine apost_ret (aends (l := [.agg _, .err _]) (.cell rfl rfl rfl (by exact True.intro) rfl ty26 (.tmp .nil)) (fun h => by cases h) (.cons shut (fun h => by cases h) (.cons shut (fun h => by cases h) .nil)) rfl ⟨Wk.v ?_, rfl, rfl⟩)
              refine .of ?_
              try simp only [cmpI, errD_nil, Bool.not_eq_true', Bool.not_eq_false', decide_eq_true_eq, decide_eq_false_iff_not] at *
              first | (exfalso; omega) | (simp_all [Sp.answer, noteAV, xidAV, errD, Sp.zero]; done) | (simp_all [Sp.answer, noteAV, xidAV, errD, Sp.zero]; omega)
        · try simp only [cmpI, errD_nil, Bool.not_eq_true', Bool.not_eq_false', decide_eq_true_eq, decide_eq_false_iff_not] at hc59; have ht20 := hc59
          refine awp_seq ?_
          refine awp_region rfl ?_
          refine sP (opp_cmp rfl rfl rfl rfl) rfl rfl ?_
          refine sP (opp_as (v := .bool _) rfl rfl) rfl rfl ?_
          refine awp_cond _ rfl (fun hc70 => ?_) (fun hc70 => ?_)
          · try simp only [cmpI, errD_nil, Bool.not_eq_true', Bool.not_eq_false', decide_eq_true_eq, decide_eq_false_iff_not] at hc70; have ht24 := hc70
            refine awp_region rfl ?_
            refine sP (opp_as (v := .int _ _) rfl rfl) rfl rfl ?_
            refine awp_seq ?_
            refine awp_seq ?_
            refine awp_region rfl ?_
            first
              | refine sP (opp_fieldP rfl rfl fld26_0 rfl) rfl rfl ?_
              | refine sP (opp_fieldF rfl rfl rfl fld26_0 rfl rfl) rfl rfl ?_
            first
              | refine sP (opp_loadP rfl rfl rfl rfl bi rfl ty3) rfl rfl ?_
              | refine sP (opp_loadF rfl rfl ty3) rfl rfl ?_
            refine sP (opp_mv (v := .int _ _) rfl rfl) rfl rfl ?_
            refine sP (opp_cmp rfl rfl rfl rfl) rfl rfl ?_
            refine sP (opp_mv (v := .bool _) rfl rfl) rfl rfl ?_
            refine sG _ rfl rfl rfl rfl (fun hg => (And.intro gi (True.intro))) (fun hg => opp_mv (v := .int _ _) rfl rfl) ?_
            refine sG _ rfl rfl rfl rfl (fun hg => (And.intro gi (And.intro gi (True.intro)))) (fun hg => opp_cmp rfl rfl rfl rfl) ?_
            refine sG _ rfl rfl rfl rfl (fun hg => (And.intro gi (True.intro))) (fun hg => opp_mv (v := .bool _) rfl rfl) ?_
            refine sG _ rfl rfl rfl rfl (fun hg => (And.intro gi (True.intro))) (fun hg => opp_mv (v := .int _ _) rfl rfl) ?_
            refine sG _ rfl rfl rfl rfl (fun hg => (And.intro gi (And.intro gi (True.intro)))) (fun hg => opp_cmp rfl rfl rfl rfl) ?_
            refine sPickG _ rfl rfl rfl rfl rfl rfl (fun hg => by first | exact True.intro | exact And.intro hg True.intro | (refine And.intro ?_ True.intro; simp_all; done)) rfl rfl (fun h0 hg => g2) (fun h0 hg => g2) ?_
            refine sPick rfl rfl rfl rfl (by exact True.intro) rfl rfl (fun hg => gi) (fun hg => gi) ?_
            refine awp_cond _ rfl (fun hc73 => ?_) (fun hc73 => ?_)
            · try simp only [cmpI, errD_nil, Bool.not_eq_true', Bool.not_eq_false', decide_eq_true_eq, decide_eq_false_iff_not] at hc73; have ht37 := hc73
              refine awp_seq ?_
              refine awp_draw hmix rfl (by kernel_rfl) ?_
              refine dP (fun _ => false) (opp_build rfl z26 bld26 rfl [.int .i64 0, .int .i64 0, .agg [.int .i64 0, .int .i64 0, .int .i64 0], .int .i64 0, .int .i64 0, .int .i64 0, .int .u32 0, .str []] rfl) rfl rfl ?_
              refine dP (fun _ => false) (opp_loadF rfl (ev_glob hG2) ty29) rfl rfl ?_
              refine dR0 (fun n => Nat.beq n 6) (opr_store (v := .agg _) (trn := (.agg _)) rfl rfl rfl rfl bi rfl rfl rfl rfl fr2 ty26 (fun _ _ h => h)) rfl rfl rfl ?_
              refine dP (fun _ => false) (opp_as (v := .err _) rfl rfl) rfl rfl ?_
              refine And.intro (by kernel_rfl) ?_
              refine awp_ret ?_
              repeat (first | refine athen_ret ?_ | refine ain_ret ?_)
              first
                | refine apost_ret (aend (l := [.agg _, .err _]) (.cell rfl rfl rfl (by exact True.intro) rfl ty26 (.tmp .nil)) (fun h => by cases h) (.cons (.noN rfl rfl) (.cons (.noN rfl rfl) .nil)) ⟨Wk.v ?_, rfl, rfl⟩)
                | refine apost_ret (aends (l := [.agg _, .err _]) (.cell rfl rfl rfl (by exact True.intro) rfl ty26 (.tmp .nil)) (fun h => by cases h) (.cons shut (fun h => by cases h) (.cons shut (fun h => by cases h) .nil)) rfl ⟨Wk.v ?_, rfl, rfl⟩)
              refine .of ?_
              try simp only [cmpI, errD_nil, Bool.not_eq_true', Bool.not_eq_false', decide_eq_true_eq, decide_eq_false_iff_not] at *
              first | (exfalso; omega) | (simp_all [Sp.answer, noteAV, xidAV, errD, Sp.zero]; done) | (simp_all [Sp.answer, noteAV, xidAV, errD, Sp.zero]; omega)
            · try simp only [cmpI, errD_nil, Bool.not_eq_true', Bool.not_eq_false', decide_eq_true_eq, decide_eq_false_iff_not] at hc73; have ht37 := hc73
              refine awp_skip ?_
              refine awp_seq ?_
              refine awp_region rfl ?_
              refine sP (opp_mv (v := .int _ _) rfl rfl) rfl rfl ?_
              first
                | refine sP (opp_fieldP rfl rfl fld26_1 rfl) rfl rfl ?_
                | refine sP (opp_fieldF rfl rfl rfl fld26_1 rfl rfl) rfl rfl ?_
              first
                | refine sP (opp_loadP rfl rfl rfl rfl bi rfl ty3) rfl rfl ?_
                | refine sP (opp_loadF rfl rfl ty3) rfl rfl ?_
              first
                | refine sP (opp_fieldP rfl rfl fld26_2 rfl) rfl rfl ?_
                | refine sP (opp_fieldF rfl rfl rfl fld26_2 rfl rfl) rfl rfl ?_
              first
                | refine sP (opp_loadP rfl rfl rfl rfl bi rfl ty23) rfl rfl ?_
                | refine sP (opp_loadF rfl rfl ty23) rfl rfl ?_
              first
                | refine sP (opp_fieldP rfl rfl fld26_3 rfl) rfl rfl ?_
                | refine sP (opp_fieldF rfl rfl rfl fld26_3 rfl rfl) rfl rfl ?_
              first
                | refine sP (opp_loadP rfl rfl rfl rfl bi rfl ty3) rfl rfl ?_
                | refine sP (opp_loadF rfl rfl ty3) rfl rfl ?_
              refine sP (opp_mv (v := .int _ _) rfl rfl) rfl rfl ?_
              refine sP (opp_build rfl z26 bld26 rfl [.int _ _, .int _ _, .agg _, .int _ _, .int .i64 0, .int .i64 0, .int _ _, .str []] rfl) rfl rfl ?_
              refine sR (opr_alloc (n := 10) rfl z26) rfl rfl rfl ?_
              refine sR0 (opr_store (v := .agg _) (trn := (.agg _)) rfl rfl rfl rfl bi rfl rfl rfl rfl fr2 ty26 (fun _ _ h => h)) rfl rfl rfl ?_
              refine awp_seq ?_
              refine awp_seq ?_
              refine awp_region rfl ?_
              refine sP (opp_mv (v := .int _ _) rfl rfl) rfl rfl ?_
              refine sP (opp_cmp rfl rfl rfl rfl) rfl rfl ?_
              refine awp_cond _ rfl (fun hc77 => ?_) (fun hc77 => ?_)
              · try simp only [cmpI, errD_nil, Bool.not_eq_true', Bool.not_eq_false', decide_eq_true_eq, decide_eq_false_iff_not] at hc77; have ht50 := hc77
                refine awp_draw hmix rfl (by kernel_rfl) ?_
                first
                  | refine dP (fun _ => false) (opp_fieldP rfl rfl fld26_4 rfl) rfl rfl ?_
                  | refine dP (fun _ => false) (opp_fieldF rfl rfl rfl fld26_4 rfl rfl) rfl rfl ?_
                first
                  | refine dP (fun n => Nat.beq n 3) (opp_loadP rfl rfl rfl rfl bi rfl ty3) rfl rfl ?_
                  | refine dP (fun n => Nat.beq n 3) (opp_loadF rfl rfl ty3) rfl rfl ?_
                first
                  | refine dP (fun _ => false) (opp_fieldP rfl rfl fld26_5 rfl) rfl rfl ?_
                  | refine dP (fun _ => false) (opp_fieldF rfl rfl rfl fld26_5 rfl rfl) rfl rfl ?_
                first
                  | refine dP (fun n => Nat.beq n 3) (opp_loadP rfl rfl rfl rfl bi rfl ty3) rfl rfl ?_
                  | refine dP (fun n => Nat.beq n 3) (opp_loadF rfl rfl ty3) rfl rfl ?_
                first
                  | refine dP (fun _ => false) (opp_fieldP rfl rfl fld26_4 rfl) rfl rfl ?_
                  | refine dP (fun _ => false) (opp_fieldF rfl rfl rfl fld26_4 rfl rfl) rfl rfl ?_
                refine dR0 (fun n => Nat.beq n 10) (opr_store (v := .int _ _) (trn := (.agg [_, _, _, _, .int _ _, _, _, _])) rfl rfl rfl rfl bi rfl rfl rfl rfl fr2 ty3 (fun _ _ h => h)) rfl rfl rfl ?_
                first
                  | refine dP (fun _ => false) (opp_fieldP rfl rfl fld26_5 rfl) rfl rfl ?_
                  | refine dP (fun _ => false) (opp_fieldF rfl rfl rfl fld26_5 rfl rfl) rfl rfl ?_
                refine dR0 (fun n => Nat.beq n 10) (opr_store (v := .int _ _) (trn := (.agg [_, _, _, _, _, .int _ _, _, _])) rfl rfl rfl rfl bi rfl rfl rfl rfl fr2 ty3 (fun _ _ h => h)) rfl rfl rfl ?_
                refine And.intro (by kernel_rfl) ?_
                refine awp_seq ?_
                refine awp_region rfl ?_
                first
                  | refine sP (opp_loadP rfl rfl rfl rfl bi rfl ty26) rfl rfl ?_
                  | refine sP (opp_loadF rfl rfl ty26) rfl rfl ?_
                refine sR0 (opr_store (v := .agg _) (trn := (.agg _)) rfl rfl rfl rfl bi rfl rfl rfl rfl fr2 ty26 (fun _ _ h => h)) rfl rfl rfl ?_
                refine sP (opp_as (v := .err _) rfl rfl) rfl rfl ?_
                refine awp_ret ?_
                repeat (first | refine athen_ret ?_ | refine ain_ret ?_)
                first
                  | refine apost_ret (aend (l := [.agg _, .err _]) (.cell rfl rfl rfl (by exact True.intro) rfl ty26 (.tmp .nil)) (fun h => by cases h) (.cons (.noN rfl rfl) (.cons (.noN rfl rfl) .nil)) ⟨Wk.v ?_, rfl, rfl⟩)
                  | refine apost_ret (aends (l := [.agg _, .err _]) (.cell rfl rfl rfl (by exact True.intro) rfl ty26 (.tmp .nil)) (fun h => by cases h) (.cons shut (fun h => by cases h) (.cons shut (fun h => by cases h) .nil)) rfl ⟨Wk.v ?_, rfl, rfl⟩)
                refine .of ?_
                try simp only [cmpI, errD_nil, Bool.not_eq_true', Bool.not_eq_false', decide_eq_true_eq, decide_eq_false_iff_not] at *
                first | (exfalso; omega) | (simp_all [Sp.answer, noteAV, xidAV, errD, Sp.zero]; done) | (simp_all [Sp.answer, noteAV, xidAV, errD, Sp.zero]; omega)
              · try simp only [cmpI, errD_nil, Bool.not_eq_true', Bool.not_eq_false', decide_eq_true_eq, decide_eq_false_iff_not] at hc77; have ht50 := hc77
                refine awp_skip ?_
                refine awp_seq ?_
                refine awp_region rfl ?_
                first
                  | refine sP (opp_loadP rfl rfl rfl rfl bi rfl ty26) rfl rfl ?_
                  | refine sP (opp_loadF rfl rfl ty26) rfl rfl ?_
                refine sR0 (opr_store (v := .agg _) (trn := (.agg _)) rfl rfl rfl rfl bi rfl rfl rfl rfl fr2 ty26 (fun _ _ h => h)) rfl rfl rfl ?_
                refine sP (opp_as (v := .err _) rfl rfl) rfl rfl ?_
                refine awp_ret ?_
                repeat (first | refine athen_ret ?_ | refine ain_ret ?_)
                first
                  | refine apost_ret (aend (l := [.agg _, .err _]) (.cell rfl rfl rfl (by exact True.intro) rfl ty26 (.tmp .nil)) (fun h => by cases h) (.cons (.noN rfl rfl) (.cons (.noN rfl rfl) .nil)) ⟨Wk.v ?_, rfl, rfl⟩)
                  | refine apost_ret (aends (l := [.agg _, .err _]) (.cell rfl rfl rfl (by exact True.intro) rfl ty26 (.tmp .nil)) (fun h => by cases h) (.cons shut (fun h => by cases h) (.cons shut (fun h => by cases h) .nil)) rfl ⟨Wk.v ?_, rfl, rfl⟩)
                refine .of ?_
                try simp only [cmpI, errD_nil, Bool.not_eq_true', Bool.not_eq_false', decide_eq_true_eq, decide_eq_false_iff_not] at *
                first | (exfalso; omega) | (simp_all [Sp.answer, noteAV, xidAV, errD, Sp.zero]; done) | (simp_all [Sp.answer, noteAV, xidAV, errD, Sp.zero]; omega)
          · try simp only [cmpI, errD_nil, Bool.not_eq_true', Bool.not_eq_false', decide_eq_true_eq, decide_eq_false_iff_not] at hc70; have ht24 := hc70
            refine awp_seq ?_
            refine awp_draw hmix rfl (by kernel_rfl) ?_
            refine dP (fun _ => false) (opp_build rfl z26 bld26 rfl [.int .i64 0, .int .i64 0, .agg [.int .i64 0, .int .i64 0, .int .i64 0], .int .i64 0, .int .i64 0, .int .i64 0, .int .u32 0, .str []] rfl) rfl rfl ?_
            refine dP (fun _ => false) (opp_loadF rfl (ev_glob hG4) ty29) rfl rfl ?_
            refine dR0 (fun n => Nat.beq n 6) (opr_store (v := .agg _) (trn := (.agg _)) rfl rfl rfl rfl bi rfl rfl rfl rfl fr2 ty26 (fun _ _ h => h)) rfl rfl rfl ?_
            refine dP (fun _ => false) (opp_as (v := .err _) rfl rfl) rfl rfl ?_
            refine And.intro (by kernel_rfl) ?_
            refine awp_ret ?_
            repeat (first | refine athen_ret ?_ | refine ain_ret ?_)
            first
              | refine apost_ret (aend (l := [.agg _, .err _]) (.cell rfl rfl rfl (by exact True.intro) rfl ty26 (.tmp .nil)) (fun h => by cases h) (.cons (.noN rfl rfl) (.cons (.noN rfl rfl) .nil)) ⟨Wk.v ?_, rfl, rfl⟩)
              | refine apost_ret (aends (l := [.agg _, .err _]) (.cell rfl rfl rfl (by exact True.intro) rfl ty26 (.tmp .nil)) (fun h => by cases h) (.cons shut (fun h => by cases h) (.cons shut (fun h => by cases h) .nil)) rfl ⟨Wk.v ?_, rfl, rfl⟩)
            refine .of ?_
            try simp only [cmpI, errD_nil, Bool.not_eq_true', Bool.not_eq_false', decide_eq_true_eq, decide_eq_false_iff_not] at *
            first | (exfalso; omega) | (simp_all [Sp.answer, noteAV, xidAV, errD, Sp.zero]; done) | (simp_all [Sp.answer, noteAV, xidAV, errD, Sp.zero]; omega)
end
end Go.Proofs.YtgaihhimkodmmaaDoor

