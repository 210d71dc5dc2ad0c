/- The numbers of errors: api.Code; ferrylaw22.plain (walks over this dump). -/
import Derived.Test.YtgaihhimkodmmaaDoorKJx
namespace Go.Proofs.YtgaihhimkodmmaaDoor
attribute [local irreducible] Tryd.prog
open Go.Fy
set_option linter.unusedSimpArgs false
set_option linter.unusedVariables false
section
variable {ea : Nat → Addr} {cds : List Nat} {gl : Nat → Option AV}
theorem c134 (c : Nat) (h1 : 11 ≤ c) (h20 : c ≤ 20) (hS : Sents cds gl) : APure (V ea cds gl) 134 [.err (.code c)] false (.int .i64 c) := by
  have hS0 := hS
  obtain ⟨hG0, hG11, hG12, hG8, hG1, hG9, hG4, hG13, hG3, hG5, hG6, hG2, hG15, hG7, hG16, hG17, hG18, hG19, hG20, hG21, hT, hall⟩ := hS
  refine acalls_of_body (N := 43) Tryd.func134 rfl rfl (Nat.le_of_ble_eq_true rfl) fun C hV hN hM hO => ?_
  obtain ⟨_, _, w0, G0, σ0, _, own0⟩ := C; dsimp only at hV hN hM hO; subst hV; subst hN; subst hM
  refine awp_seq ?_
  refine awp_region rfl ?_
  refine sP (opp_as (v := .int _ _) rfl rfl) rfl rfl ?_
  refine awp_seq ?_
  refine awp_block ?_
  refine awp_seq ?_
  refine awp_region rfl ?_
  refine sP (opp_mv (v := .err _) rfl rfl) rfl rfl ?_
  refine sP (opp_loadF rfl (ev_glob hG6) ty29) rfl rfl ?_
  refine sR (opr_call rfl rfl ent133 rfl (c133 c 11 (hall _ (by omega) h20) (hall _ (by omega) (by omega))) (AViews.refl _ rfl)) rfl rfl rfl ?_ -- d=6 t=4
  refine sP (opp_as (v := .bool _) rfl rfl) rfl rfl ?_
  refine awp_cond _ rfl (fun hc3 => ?_) (fun hc3 => ?_)
  · (try simp only [cmpI, errD_nil, Bool.not_eq_true', Bool.not_eq_false', decide_eq_true_eq, decide_eq_false_iff_not] at hc3); have ht3 := hc3
    refine awp_seq ?_
    refine awp_region rfl ?_
    refine sP (opp_as (v := .int _ _) rfl rfl) rfl rfl ?_
    refine awp_ret ?_
    repeat (first | refine athen_ret ?_ | refine ain_ret ?_)
    first
      | refine apost_ret (aend1 (r0 := .int _ _) (.tmp .nil) (.noN rfl rfl) ⟨Wk.v ?_, rfl, rfl⟩)
      | refine apost_ret (aend1s (r0 := .int _ _) (.tmp .nil) shut rfl ⟨Wk.v ?_, rfl, rfl⟩)
    have hk : c = 11 := by omega
    subst hk; exact .refl
  · (try simp only [cmpI, errD_nil, Bool.not_eq_true', Bool.not_eq_false', decide_eq_true_eq, decide_eq_false_iff_not] at hc3); have ht3 := hc3
    refine awp_seq ?_
    refine awp_region rfl ?_
    refine sP (opp_mv (v := .err _) rfl rfl) rfl rfl ?_
    refine sP (opp_loadF rfl (ev_glob hG2) ty29) rfl rfl ?_
    refine sR (opr_call rfl rfl ent133 rfl (c133 c 12 (hall _ (by omega) h20) (hall _ (by omega) (by omega))) (AViews.refl _ rfl)) rfl rfl rfl ?_ -- d=10 t=4
    refine sP (opp_as (v := .bool _) rfl rfl) rfl rfl ?_
    refine awp_cond _ rfl (fun hc6 => ?_) (fun hc6 => ?_)
    · (try simp only [cmpI, errD_nil, Bool.not_eq_true', Bool.not_eq_false', decide_eq_true_eq, decide_eq_false_iff_not] at hc6); have ht7 := hc6
      refine awp_seq ?_
      refine awp_region rfl ?_
      refine sP (opp_as (v := .int _ _) rfl rfl) rfl rfl ?_
      refine awp_ret ?_
      repeat (first | refine athen_ret ?_ | refine ain_ret ?_)
      first
        | refine apost_ret (aend1 (r0 := .int _ _) (.tmp .nil) (.noN rfl rfl) ⟨Wk.v ?_, rfl, rfl⟩)
        | refine apost_ret (aend1s (r0 := .int _ _) (.tmp .nil) shut rfl ⟨Wk.v ?_, rfl, rfl⟩)
      have hk : c = 12 := by omega
      subst hk; exact .refl
    · (try simp only [cmpI, errD_nil, Bool.not_eq_true', Bool.not_eq_false', decide_eq_true_eq, decide_eq_false_iff_not] at hc6); have ht7 := hc6
      refine awp_seq ?_
      refine awp_region rfl ?_
      refine sP (opp_mv (v := .err _) rfl rfl) rfl rfl ?_
      refine sP (opp_loadF rfl (ev_glob hG15) ty29) rfl rfl ?_
      refine sR (opr_call rfl rfl ent133 rfl (c133 c 13 (hall _ (by omega) h20) (hall _ (by omega) (by omega))) (AViews.refl _ rfl)) rfl rfl rfl ?_ -- d=14 t=4
      refine sP (opp_as (v := .bool _) rfl rfl) rfl rfl ?_
      refine awp_cond _ rfl (fun hc9 => ?_) (fun hc9 => ?_)
      · (try simp only [cmpI, errD_nil, Bool.not_eq_true', Bool.not_eq_false', decide_eq_true_eq, decide_eq_false_iff_not] at hc9); have ht11 := hc9
        refine awp_seq ?_
        refine awp_region rfl ?_
        refine sP (opp_as (v := .int _ _) rfl rfl) rfl rfl ?_
        refine awp_ret ?_
        repeat (first | refine athen_ret ?_ | refine ain_ret ?_)
        first
          | refine apost_ret (aend1 (r0 := .int _ _) (.tmp .nil) (.noN rfl rfl) ⟨Wk.v ?_, rfl, rfl⟩)
          | refine apost_ret (aend1s (r0 := .int _ _) (.tmp .nil) shut rfl ⟨Wk.v ?_, rfl, rfl⟩)
        have hk : c = 13 := by omega
        subst hk; exact .refl
      · (try simp only [cmpI, errD_nil, Bool.not_eq_true', Bool.not_eq_false', decide_eq_true_eq, decide_eq_false_iff_not] at hc9); have ht11 := hc9
        refine awp_seq ?_
        refine awp_region rfl ?_
        refine sP (opp_mv (v := .err _) rfl rfl) rfl rfl ?_
        refine sP (opp_loadF rfl (ev_glob hG7) ty29) rfl rfl ?_
        refine sR (opr_call rfl rfl ent133 rfl (c133 c 14 (hall _ (by omega) h20) (hall _ (by omega) (by omega))) (AViews.refl _ rfl)) rfl rfl rfl ?_ -- d=18 t=4
        refine sP (opp_as (v := .bool _) rfl rfl) rfl rfl ?_
        refine awp_cond _ rfl (fun hc12 => ?_) (fun hc12 => ?_)
        · (try simp only [cmpI, errD_nil, Bool.not_eq_true', Bool.not_eq_false', decide_eq_true_eq, decide_eq_false_iff_not] at hc12); have ht15 := hc12
          refine awp_seq ?_
          refine awp_region rfl ?_
          refine sP (opp_as (v := .int _ _) rfl rfl) rfl rfl ?_
          refine awp_ret ?_
          repeat (first | refine athen_ret ?_ | refine ain_ret ?_)
          first
            | refine apost_ret (aend1 (r0 := .int _ _) (.tmp .nil) (.noN rfl rfl) ⟨Wk.v ?_, rfl, rfl⟩)
            | refine apost_ret (aend1s (r0 := .int _ _) (.tmp .nil) shut rfl ⟨Wk.v ?_, rfl, rfl⟩)
          have hk : c = 14 := by omega
          subst hk; exact .refl
        · (try simp only [cmpI, errD_nil, Bool.not_eq_true', Bool.not_eq_false', decide_eq_true_eq, decide_eq_false_iff_not] at hc12); have ht15 := hc12
          refine awp_seq ?_
          refine awp_region rfl ?_
          refine sP (opp_mv (v := .err _) rfl rfl) rfl rfl ?_
          refine sP (opp_loadF rfl (ev_glob hG16) ty29) rfl rfl ?_
          refine sR (opr_call rfl rfl ent133 rfl (c133 c 15 (hall _ (by omega) h20) (hall _ (by omega) (by omega))) (AViews.refl _ rfl)) rfl rfl rfl ?_ -- d=22 t=4
          refine sP (opp_as (v := .bool _) rfl rfl) rfl rfl ?_
          refine awp_cond _ rfl (fun hc15 => ?_) (fun hc15 => ?_)
          · (try simp only [cmpI, errD_nil, Bool.not_eq_true', Bool.not_eq_false', decide_eq_true_eq, decide_eq_false_iff_not] at hc15); have ht19 := hc15
            refine awp_seq ?_
            refine awp_region rfl ?_
            refine sP (opp_as (v := .int _ _) rfl rfl) rfl rfl ?_
            refine awp_ret ?_
            repeat (first | refine athen_ret ?_ | refine ain_ret ?_)
            first
              | refine apost_ret (aend1 (r0 := .int _ _) (.tmp .nil) (.noN rfl rfl) ⟨Wk.v ?_, rfl, rfl⟩)
              | refine apost_ret (aend1s (r0 := .int _ _) (.tmp .nil) shut rfl ⟨Wk.v ?_, rfl, rfl⟩)
            have hk : c = 15 := by omega
            subst hk; exact .refl
          · (try simp only [cmpI, errD_nil, Bool.not_eq_true', Bool.not_eq_false', decide_eq_true_eq, decide_eq_false_iff_not] at hc15); have ht19 := hc15
            refine awp_seq ?_
            refine awp_region rfl ?_
            refine sP (opp_mv (v := .err _) rfl rfl) rfl rfl ?_
            refine sP (opp_loadF rfl (ev_glob hG17) ty29) rfl rfl ?_
            refine sR (opr_call rfl rfl ent133 rfl (c133 c 16 (hall _ (by omega) h20) (hall _ (by omega) (by omega))) (AViews.refl _ rfl)) rfl rfl rfl ?_ -- d=26 t=4
            refine sP (opp_as (v := .bool _) rfl rfl) rfl rfl ?_
            refine awp_cond _ rfl (fun hc18 => ?_) (fun hc18 => ?_)
            · (try simp only [cmpI, errD_nil, Bool.not_eq_true', Bool.not_eq_false', decide_eq_true_eq, decide_eq_false_iff_not] at hc18); have ht23 := hc18
              refine awp_seq ?_
              refine awp_region rfl ?_
              refine sP (opp_as (v := .int _ _) rfl rfl) rfl rfl ?_
              refine awp_ret ?_
              repeat (first | refine athen_ret ?_ | refine ain_ret ?_)
              first
                | refine apost_ret (aend1 (r0 := .int _ _) (.tmp .nil) (.noN rfl rfl) ⟨Wk.v ?_, rfl, rfl⟩)
                | refine apost_ret (aend1s (r0 := .int _ _) (.tmp .nil) shut rfl ⟨Wk.v ?_, rfl, rfl⟩)
              have hk : c = 16 := by omega
              subst hk; exact .refl
            · (try simp only [cmpI, errD_nil, Bool.not_eq_true', Bool.not_eq_false', decide_eq_true_eq, decide_eq_false_iff_not] at hc18); have ht23 := hc18
              refine awp_seq ?_
              refine awp_region rfl ?_
              refine sP (opp_mv (v := .err _) rfl rfl) rfl rfl ?_
              refine sP (opp_loadF rfl (ev_glob hG18) ty29) rfl rfl ?_
              refine sR (opr_call rfl rfl ent133 rfl (c133 c 17 (hall _ (by omega) h20) (hall _ (by omega) (by omega))) (AViews.refl _ rfl)) rfl rfl rfl ?_ -- d=30 t=4
              refine sP (opp_as (v := .bool _) rfl rfl) rfl rfl ?_
              refine awp_cond _ rfl (fun hc21 => ?_) (fun hc21 => ?_)
              · (try simp only [cmpI, errD_nil, Bool.not_eq_true', Bool.not_eq_false', decide_eq_true_eq, decide_eq_false_iff_not] at hc21); have ht27 := hc21
                refine awp_seq ?_
                refine awp_region rfl ?_
                refine sP (opp_as (v := .int _ _) rfl rfl) rfl rfl ?_
                refine awp_ret ?_
                repeat (first | refine athen_ret ?_ | refine ain_ret ?_)
                first
                  | refine apost_ret (aend1 (r0 := .int _ _) (.tmp .nil) (.noN rfl rfl) ⟨Wk.v ?_, rfl, rfl⟩)
                  | refine apost_ret (aend1s (r0 := .int _ _) (.tmp .nil) shut rfl ⟨Wk.v ?_, rfl, rfl⟩)
                have hk : c = 17 := by omega
                subst hk; exact .refl
              · (try simp only [cmpI, errD_nil, Bool.not_eq_true', Bool.not_eq_false', decide_eq_true_eq, decide_eq_false_iff_not] at hc21); have ht27 := hc21
                refine awp_seq ?_
                refine awp_region rfl ?_
                refine sP (opp_mv (v := .err _) rfl rfl) rfl rfl ?_
                refine sP (opp_loadF rfl (ev_glob hG19) ty29) rfl rfl ?_
                refine sR (opr_call rfl rfl ent133 rfl (c133 c 18 (hall _ (by omega) h20) (hall _ (by omega) (by omega))) (AViews.refl _ rfl)) rfl rfl rfl ?_ -- d=34 t=4
                refine sP (opp_as (v := .bool _) rfl rfl) rfl rfl ?_
                refine awp_cond _ rfl (fun hc24 => ?_) (fun hc24 => ?_)
                · (try simp only [cmpI, errD_nil, Bool.not_eq_true', Bool.not_eq_false', decide_eq_true_eq, decide_eq_false_iff_not] at hc24); have ht31 := hc24
                  refine awp_seq ?_
                  refine awp_region rfl ?_
                  refine sP (opp_as (v := .int _ _) rfl rfl) rfl rfl ?_
                  refine awp_ret ?_
                  repeat (first | refine athen_ret ?_ | refine ain_ret ?_)
                  first
                    | refine apost_ret (aend1 (r0 := .int _ _) (.tmp .nil) (.noN rfl rfl) ⟨Wk.v ?_, rfl, rfl⟩)
                    | refine apost_ret (aend1s (r0 := .int _ _) (.tmp .nil) shut rfl ⟨Wk.v ?_, rfl, rfl⟩)
                  have hk : c = 18 := by omega
                  subst hk; exact .refl
                · (try simp only [cmpI, errD_nil, Bool.not_eq_true', Bool.not_eq_false', decide_eq_true_eq, decide_eq_false_iff_not] at hc24); have ht31 := hc24
                  refine awp_seq ?_
                  refine awp_region rfl ?_
                  refine sP (opp_mv (v := .err _) rfl rfl) rfl rfl ?_
                  refine sP (opp_loadF rfl (ev_glob hG20) ty29) rfl rfl ?_
                  refine sR (opr_call rfl rfl ent133 rfl (c133 c 19 (hall _ (by omega) h20) (hall _ (by omega) (by omega))) (AViews.refl _ rfl)) rfl rfl rfl ?_ -- d=38 t=4
                  refine sP (opp_as (v := .bool _) rfl rfl) rfl rfl ?_
                  refine awp_cond _ rfl (fun hc27 => ?_) (fun hc27 => ?_)
                  · (try simp only [cmpI, errD_nil, Bool.not_eq_true', Bool.not_eq_false', decide_eq_true_eq, decide_eq_false_iff_not] at hc27); have ht35 := hc27
                    refine awp_seq ?_
                    refine awp_region rfl ?_
                    refine sP (opp_as (v := .int _ _) rfl rfl) rfl rfl ?_
                    refine awp_ret ?_
                    repeat (first | refine athen_ret ?_ | refine ain_ret ?_)
                    first
                      | refine apost_ret (aend1 (r0 := .int _ _) (.tmp .nil) (.noN rfl rfl) ⟨Wk.v ?_, rfl, rfl⟩)
                      | refine apost_ret (aend1s (r0 := .int _ _) (.tmp .nil) shut rfl ⟨Wk.v ?_, rfl, rfl⟩)
                    have hk : c = 19 := by omega
                    subst hk; exact .refl
                  · (try simp only [cmpI, errD_nil, Bool.not_eq_true', Bool.not_eq_false', decide_eq_true_eq, decide_eq_false_iff_not] at hc27); have ht35 := hc27
                    refine awp_seq ?_
                    refine awp_region rfl ?_
                    refine sP (opp_mv (v := .err _) rfl rfl) rfl rfl ?_
                    refine sP (opp_loadF rfl (ev_glob hG21) ty29) rfl rfl ?_
                    refine sR (opr_call rfl rfl ent133 rfl (c133 c 20 (hall _ (by omega) h20) (hall _ (by omega) (by omega))) (AViews.refl _ rfl)) rfl rfl rfl ?_ -- d=42 t=4
                    refine sP (opp_as (v := .bool _) rfl rfl) rfl rfl ?_
                    refine awp_cond _ rfl (fun hc30 => ?_) (fun hc30 => ?_)
                    · (try simp only [cmpI, errD_nil, Bool.not_eq_true', Bool.not_eq_false', decide_eq_true_eq, decide_eq_false_iff_not] at hc30); have ht39 := hc30
                      refine awp_seq ?_
                      refine awp_region rfl ?_
                      refine sP (opp_as (v := .int _ _) rfl rfl) rfl rfl ?_
                      refine awp_ret ?_
                      repeat (first | refine athen_ret ?_ | refine ain_ret ?_)
                      first
                        | refine apost_ret (aend1 (r0 := .int _ _) (.tmp .nil) (.noN rfl rfl) ⟨Wk.v ?_, rfl, rfl⟩)
                        | refine apost_ret (aend1s (r0 := .int _ _) (.tmp .nil) shut rfl ⟨Wk.v ?_, rfl, rfl⟩)
                      have hk : c = 20 := by omega
                      subst hk; exact .refl
                    · (try simp only [cmpI, errD_nil, Bool.not_eq_true', Bool.not_eq_false', decide_eq_true_eq, decide_eq_false_iff_not] at hc30); have ht39 := hc30
                      refine awp_skip ?_
                      refine awp_seq ?_
                      refine awp_region rfl ?_
                      refine sP (opp_as (v := .int _ _) rfl rfl) rfl rfl ?_
                      refine awp_ret ?_
                      repeat (first | refine athen_ret ?_ | refine ain_ret ?_)
                      first
                        | refine apost_ret (aend1 (r0 := .int _ _) (.tmp .nil) (.noN rfl rfl) ⟨Wk.v ?_, rfl, rfl⟩)
                        | refine apost_ret (aend1s (r0 := .int _ _) (.tmp .nil) shut rfl ⟨Wk.v ?_, rfl, rfl⟩)
                      exfalso; omega
theorem c99 (c : Nat) (h1 : 1 ≤ c) (h20 : c ≤ 20) (hS : Sents cds gl) : APure (V ea cds gl) 99 [.err (.code c)] false (.int .i64 c) := by
  have hS0 := hS
  obtain ⟨hG0, hG11, hG12, hG8, hG1, hG9, hG4, hG13, hG3, hG5, hG6, hG2, hG15, hG7, hG16, hG17, hG18, hG19, hG20, hG21, hT, hall⟩ := hS
  refine acalls_of_body (N := 48) Tryd.func99 rfl rfl (Nat.le_of_ble_eq_true rfl) fun C hV hN hM hO => ?_
  obtain ⟨_, _, w0, G0, σ0, _, own0⟩ := C; dsimp only at hV hN hM hO; subst hV; subst hN; subst hM
  refine awp_seq ?_
  refine awp_region rfl ?_
  refine sP (opp_as (v := .int _ _) rfl rfl) rfl rfl ?_
  refine awp_seq ?_
  refine awp_block ?_
  refine awp_seq ?_
  refine awp_region rfl ?_
  refine sP (opp_mv (v := .err _) rfl rfl) rfl rfl ?_
  refine sP (opp_errNil rfl rfl rfl un29 (.inl ⟨rfl, rfl⟩)) rfl rfl ?_
  refine sP (opp_as (v := .bool _) rfl rfl) rfl rfl ?_
  refine awp_cond _ rfl (fun hc3 => ?_) (fun hc3 => ?_)
  · (try simp only [cmpI, errD_nil, Bool.not_eq_true', Bool.not_eq_false', decide_eq_true_eq, decide_eq_false_iff_not] at hc3); have ht3 := hc3
    cases ht3
  · (try simp only [cmpI, errD_nil, Bool.not_eq_true', Bool.not_eq_false', decide_eq_true_eq, decide_eq_false_iff_not] at hc3); have ht3 := hc3
    refine awp_seq ?_
    refine awp_region rfl ?_
    refine sP (opp_mv (v := .err _) rfl rfl) rfl rfl ?_
    refine sP (opp_loadF rfl (ev_glob hG0) ty29) rfl rfl ?_
    refine sR (opr_call rfl rfl ent133 rfl (c133 c 1 (hall _ (by omega) h20) (hall _ (by omega) (by omega))) (AViews.refl _ rfl)) rfl rfl rfl ?_ -- d=9 t=4
    refine sP (opp_as (v := .bool _) rfl rfl) rfl rfl ?_
    refine awp_cond _ rfl (fun hc5 => ?_) (fun hc5 => ?_)
    · (try simp only [cmpI, errD_nil, Bool.not_eq_true', Bool.not_eq_false', decide_eq_true_eq, decide_eq_false_iff_not] at hc5); have ht6 := hc5
      refine awp_seq ?_
      refine awp_region rfl ?_
      refine sP (opp_as (v := .int _ _) rfl rfl) rfl rfl ?_
      refine awp_ret ?_
      repeat (first | refine athen_ret ?_ | refine ain_ret ?_)
      first
        | refine apost_ret (aend1 (r0 := .int _ _) (.tmp .nil) (.noN rfl rfl) ⟨Wk.v ?_, rfl, rfl⟩)
        | refine apost_ret (aend1s (r0 := .int _ _) (.tmp .nil) shut rfl ⟨Wk.v ?_, rfl, rfl⟩)
      have hk : c = 1 := by omega
      subst hk; exact .refl
    · (try simp only [cmpI, errD_nil, Bool.not_eq_true', Bool.not_eq_false', decide_eq_true_eq, decide_eq_false_iff_not] at hc5); have ht6 := hc5
      refine awp_seq ?_
      refine awp_region rfl ?_
      refine sP (opp_mv (v := .err _) rfl rfl) rfl rfl ?_
      refine sP (opp_loadF rfl (ev_glob hG11) ty29) rfl rfl ?_
      refine sR (opr_call rfl rfl ent133 rfl (c133 c 2 (hall _ (by omega) h20) (hall _ (by omega) (by omega))) (AViews.refl _ rfl)) rfl rfl rfl ?_ -- d=13 t=4
      refine sP (opp_as (v := .bool _) rfl rfl) rfl rfl ?_
      refine awp_cond _ rfl (fun hc8 => ?_) (fun hc8 => ?_)
      · (try simp only [cmpI, errD_nil, Bool.not_eq_true', Bool.not_eq_false', decide_eq_true_eq, decide_eq_false_iff_not] at hc8); have ht10 := hc8
        refine awp_seq ?_
        refine awp_region rfl ?_
        refine sP (opp_as (v := .int _ _) rfl rfl) rfl rfl ?_
        refine awp_ret ?_
        repeat (first | refine athen_ret ?_ | refine ain_ret ?_)
        first
          | refine apost_ret (aend1 (r0 := .int _ _) (.tmp .nil) (.noN rfl rfl) ⟨Wk.v ?_, rfl, rfl⟩)
          | refine apost_ret (aend1s (r0 := .int _ _) (.tmp .nil) shut rfl ⟨Wk.v ?_, rfl, rfl⟩)
        have hk : c = 2 := by omega
        subst hk; exact .refl
      · (try simp only [cmpI, errD_nil, Bool.not_eq_true', Bool.not_eq_false', decide_eq_true_eq, decide_eq_false_iff_not] at hc8); have ht10 := hc8
        refine awp_seq ?_
        refine awp_region rfl ?_
        refine sP (opp_mv (v := .err _) rfl rfl) rfl rfl ?_
        refine sP (opp_loadF rfl (ev_glob hG12) ty29) rfl rfl ?_
        refine sR (opr_call rfl rfl ent133 rfl (c133 c 3 (hall _ (by omega) h20) (hall _ (by omega) (by omega))) (AViews.refl _ rfl)) rfl rfl rfl ?_ -- d=17 t=4
        refine sP (opp_as (v := .bool _) rfl rfl) rfl rfl ?_
        refine awp_cond _ rfl (fun hc11 => ?_) (fun hc11 => ?_)
        · (try simp only [cmpI, errD_nil, Bool.not_eq_true', Bool.not_eq_false', decide_eq_true_eq, decide_eq_false_iff_not] at hc11); have ht14 := hc11
          refine awp_seq ?_
          refine awp_region rfl ?_
          refine sP (opp_as (v := .int _ _) rfl rfl) rfl rfl ?_
          refine awp_ret ?_
          repeat (first | refine athen_ret ?_ | refine ain_ret ?_)
          first
            | refine apost_ret (aend1 (r0 := .int _ _) (.tmp .nil) (.noN rfl rfl) ⟨Wk.v ?_, rfl, rfl⟩)
            | refine apost_ret (aend1s (r0 := .int _ _) (.tmp .nil) shut rfl ⟨Wk.v ?_, rfl, rfl⟩)
          have hk : c = 3 := by omega
          subst hk; exact .refl
        · (try simp only [cmpI, errD_nil, Bool.not_eq_true', Bool.not_eq_false', decide_eq_true_eq, decide_eq_false_iff_not] at hc11); have ht14 := hc11
          refine awp_seq ?_
          refine awp_region rfl ?_
          refine sP (opp_mv (v := .err _) rfl rfl) rfl rfl ?_
          refine sP (opp_loadF rfl (ev_glob hG8) ty29) rfl rfl ?_
          refine sR (opr_call rfl rfl ent133 rfl (c133 c 4 (hall _ (by omega) h20) (hall _ (by omega) (by omega))) (AViews.refl _ rfl)) rfl rfl rfl ?_ -- d=21 t=4
          refine sP (opp_as (v := .bool _) rfl rfl) rfl rfl ?_
          refine awp_cond _ rfl (fun hc14 => ?_) (fun hc14 => ?_)
          · (try simp only [cmpI, errD_nil, Bool.not_eq_true', Bool.not_eq_false', decide_eq_true_eq, decide_eq_false_iff_not] at hc14); have ht18 := hc14
            refine awp_seq ?_
            refine awp_region rfl ?_
            refine sP (opp_as (v := .int _ _) rfl rfl) rfl rfl ?_
            refine awp_ret ?_
            repeat (first | refine athen_ret ?_ | refine ain_ret ?_)
            first
              | refine apost_ret (aend1 (r0 := .int _ _) (.tmp .nil) (.noN rfl rfl) ⟨Wk.v ?_, rfl, rfl⟩)
              | refine apost_ret (aend1s (r0 := .int _ _) (.tmp .nil) shut rfl ⟨Wk.v ?_, rfl, rfl⟩)
            have hk : c = 4 := by omega
            subst hk; exact .refl
          · (try simp only [cmpI, errD_nil, Bool.not_eq_true', Bool.not_eq_false', decide_eq_true_eq, decide_eq_false_iff_not] at hc14); have ht18 := hc14
            refine awp_seq ?_
            refine awp_region rfl ?_
            refine sP (opp_mv (v := .err _) rfl rfl) rfl rfl ?_
            refine sP (opp_loadF rfl (ev_glob hG1) ty29) rfl rfl ?_
            refine sR (opr_call rfl rfl ent133 rfl (c133 c 5 (hall _ (by omega) h20) (hall _ (by omega) (by omega))) (AViews.refl _ rfl)) rfl rfl rfl ?_ -- d=25 t=4
            refine sP (opp_as (v := .bool _) rfl rfl) rfl rfl ?_
            refine awp_cond _ rfl (fun hc17 => ?_) (fun hc17 => ?_)
            · (try simp only [cmpI, errD_nil, Bool.not_eq_true', Bool.not_eq_false', decide_eq_true_eq, decide_eq_false_iff_not] at hc17); have ht22 := hc17
              refine awp_seq ?_
              refine awp_region rfl ?_
              refine sP (opp_as (v := .int _ _) rfl rfl) rfl rfl ?_
              refine awp_ret ?_
              repeat (first | refine athen_ret ?_ | refine ain_ret ?_)
              first
                | refine apost_ret (aend1 (r0 := .int _ _) (.tmp .nil) (.noN rfl rfl) ⟨Wk.v ?_, rfl, rfl⟩)
                | refine apost_ret (aend1s (r0 := .int _ _) (.tmp .nil) shut rfl ⟨Wk.v ?_, rfl, rfl⟩)
              have hk : c = 5 := by omega
              subst hk; exact .refl
            · (try simp only [cmpI, errD_nil, Bool.not_eq_true', Bool.not_eq_false', decide_eq_true_eq, decide_eq_false_iff_not] at hc17); have ht22 := hc17
              refine awp_seq ?_
              refine awp_region rfl ?_
              refine sP (opp_mv (v := .err _) rfl rfl) rfl rfl ?_
              refine sP (opp_loadF rfl (ev_glob hG9) ty29) rfl rfl ?_
              refine sR (opr_call rfl rfl ent133 rfl (c133 c 6 (hall _ (by omega) h20) (hall _ (by omega) (by omega))) (AViews.refl _ rfl)) rfl rfl rfl ?_ -- d=29 t=4
              refine sP (opp_as (v := .bool _) rfl rfl) rfl rfl ?_
              refine awp_cond _ rfl (fun hc20 => ?_) (fun hc20 => ?_)
              · (try simp only [cmpI, errD_nil, Bool.not_eq_true', Bool.not_eq_false', decide_eq_true_eq, decide_eq_false_iff_not] at hc20); have ht26 := hc20
                refine awp_seq ?_
                refine awp_region rfl ?_
                refine sP (opp_as (v := .int _ _) rfl rfl) rfl rfl ?_
                refine awp_ret ?_
                repeat (first | refine athen_ret ?_ | refine ain_ret ?_)
                first
                  | refine apost_ret (aend1 (r0 := .int _ _) (.tmp .nil) (.noN rfl rfl) ⟨Wk.v ?_, rfl, rfl⟩)
                  | refine apost_ret (aend1s (r0 := .int _ _) (.tmp .nil) shut rfl ⟨Wk.v ?_, rfl, rfl⟩)
                have hk : c = 6 := by omega
                subst hk; exact .refl
              · (try simp only [cmpI, errD_nil, Bool.not_eq_true', Bool.not_eq_false', decide_eq_true_eq, decide_eq_false_iff_not] at hc20); have ht26 := hc20
                refine awp_seq ?_
                refine awp_region rfl ?_
                refine sP (opp_mv (v := .err _) rfl rfl) rfl rfl ?_
                refine sP (opp_loadF rfl (ev_glob hG4) ty29) rfl rfl ?_
                refine sR (opr_call rfl rfl ent133 rfl (c133 c 7 (hall _ (by omega) h20) (hall _ (by omega) (by omega))) (AViews.refl _ rfl)) rfl rfl rfl ?_ -- d=33 t=4
                refine sP (opp_as (v := .bool _) rfl rfl) rfl rfl ?_
                refine awp_cond _ rfl (fun hc23 => ?_) (fun hc23 => ?_)
                · (try simp only [cmpI, errD_nil, Bool.not_eq_true', Bool.not_eq_false', decide_eq_true_eq, decide_eq_false_iff_not] at hc23); have ht30 := hc23
                  refine awp_seq ?_
                  refine awp_region rfl ?_
                  refine sP (opp_as (v := .int _ _) rfl rfl) rfl rfl ?_
                  refine awp_ret ?_
                  repeat (first | refine athen_ret ?_ | refine ain_ret ?_)
                  first
                    | refine apost_ret (aend1 (r0 := .int _ _) (.tmp .nil) (.noN rfl rfl) ⟨Wk.v ?_, rfl, rfl⟩)
                    | refine apost_ret (aend1s (r0 := .int _ _) (.tmp .nil) shut rfl ⟨Wk.v ?_, rfl, rfl⟩)
                  have hk : c = 7 := by omega
                  subst hk; exact .refl
                · (try simp only [cmpI, errD_nil, Bool.not_eq_true', Bool.not_eq_false', decide_eq_true_eq, decide_eq_false_iff_not] at hc23); have ht30 := hc23
                  refine awp_seq ?_
                  refine awp_region rfl ?_
                  refine sP (opp_mv (v := .err _) rfl rfl) rfl rfl ?_
                  refine sP (opp_loadF rfl (ev_glob hG13) ty29) rfl rfl ?_
                  refine sR (opr_call rfl rfl ent133 rfl (c133 c 8 (hall _ (by omega) h20) (hall _ (by omega) (by omega))) (AViews.refl _ rfl)) rfl rfl rfl ?_ -- d=37 t=4
                  refine sP (opp_as (v := .bool _) rfl rfl) rfl rfl ?_
                  refine awp_cond _ rfl (fun hc26 => ?_) (fun hc26 => ?_)
                  · (try simp only [cmpI, errD_nil, Bool.not_eq_true', Bool.not_eq_false', decide_eq_true_eq, decide_eq_false_iff_not] at hc26); have ht34 := hc26
                    refine awp_seq ?_
                    refine awp_region rfl ?_
                    refine sP (opp_as (v := .int _ _) rfl rfl) rfl rfl ?_
                    refine awp_ret ?_
                    repeat (first | refine athen_ret ?_ | refine ain_ret ?_)
                    first
                      | refine apost_ret (aend1 (r0 := .int _ _) (.tmp .nil) (.noN rfl rfl) ⟨Wk.v ?_, rfl, rfl⟩)
                      | refine apost_ret (aend1s (r0 := .int _ _) (.tmp .nil) shut rfl ⟨Wk.v ?_, rfl, rfl⟩)
                    have hk : c = 8 := by omega
                    subst hk; exact .refl
                  · (try simp only [cmpI, errD_nil, Bool.not_eq_true', Bool.not_eq_false', decide_eq_true_eq, decide_eq_false_iff_not] at hc26); have ht34 := hc26
                    refine awp_seq ?_
                    refine awp_region rfl ?_
                    refine sP (opp_mv (v := .err _) rfl rfl) rfl rfl ?_
                    refine sP (opp_loadF rfl (ev_glob hG3) ty29) rfl rfl ?_
                    refine sR (opr_call rfl rfl ent133 rfl (c133 c 9 (hall _ (by omega) h20) (hall _ (by omega) (by omega))) (AViews.refl _ rfl)) rfl rfl rfl ?_ -- d=41 t=4
                    refine sP (opp_as (v := .bool _) rfl rfl) rfl rfl ?_
                    refine awp_cond _ rfl (fun hc29 => ?_) (fun hc29 => ?_)
                    · (try simp only [cmpI, errD_nil, Bool.not_eq_true', Bool.not_eq_false', decide_eq_true_eq, decide_eq_false_iff_not] at hc29); have ht38 := hc29
                      refine awp_seq ?_
                      refine awp_region rfl ?_
                      refine sP (opp_as (v := .int _ _) rfl rfl) rfl rfl ?_
                      refine awp_ret ?_
                      repeat (first | refine athen_ret ?_ | refine ain_ret ?_)
                      first
                        | refine apost_ret (aend1 (r0 := .int _ _) (.tmp .nil) (.noN rfl rfl) ⟨Wk.v ?_, rfl, rfl⟩)
                        | refine apost_ret (aend1s (r0 := .int _ _) (.tmp .nil) shut rfl ⟨Wk.v ?_, rfl, rfl⟩)
                      have hk : c = 9 := by omega
                      subst hk; exact .refl
                    · (try simp only [cmpI, errD_nil, Bool.not_eq_true', Bool.not_eq_false', decide_eq_true_eq, decide_eq_false_iff_not] at hc29); have ht38 := hc29
                      refine awp_seq ?_
                      refine awp_region rfl ?_
                      refine sP (opp_mv (v := .err _) rfl rfl) rfl rfl ?_
                      refine sP (opp_loadF rfl (ev_glob hG5) ty29) rfl rfl ?_
                      refine sR (opr_call rfl rfl ent133 rfl (c133 c 10 (hall _ (by omega) h20) (hall _ (by omega) (by omega))) (AViews.refl _ rfl)) rfl rfl rfl ?_ -- d=45 t=4
                      refine sP (opp_as (v := .bool _) rfl rfl) rfl rfl ?_
                      refine awp_cond _ rfl (fun hc32 => ?_) (fun hc32 => ?_)
                      · (try simp only [cmpI, errD_nil, Bool.not_eq_true', Bool.not_eq_false', decide_eq_true_eq, decide_eq_false_iff_not] at hc32); have ht42 := hc32
                        refine awp_seq ?_
                        refine awp_region rfl ?_
                        refine sP (opp_as (v := .int _ _) rfl rfl) rfl rfl ?_
                        refine awp_ret ?_
                        repeat (first | refine athen_ret ?_ | refine ain_ret ?_)
                        first
                          | refine apost_ret (aend1 (r0 := .int _ _) (.tmp .nil) (.noN rfl rfl) ⟨Wk.v ?_, rfl, rfl⟩)
                          | refine apost_ret (aend1s (r0 := .int _ _) (.tmp .nil) shut rfl ⟨Wk.v ?_, rfl, rfl⟩)
                        have hk : c = 10 := by omega
                        subst hk; exact .refl
                      · (try simp only [cmpI, errD_nil, Bool.not_eq_true', Bool.not_eq_false', decide_eq_true_eq, decide_eq_false_iff_not] at hc32); have ht42 := hc32
                        refine awp_skip ?_
                        refine awp_seq ?_
                        refine awp_region rfl ?_
                        refine sP (opp_mv (v := .err _) rfl rfl) rfl rfl ?_
                        refine sR (opr_call rfl rfl ent134 rfl (c134 c (by omega) h20 hS0) (AViews.refl _ rfl)) rfl rfl rfl ?_ -- d=47 t=3
                        refine sP (opp_as (v := .int _ _) rfl rfl) rfl rfl ?_
                        refine awp_ret ?_
                        repeat (first | refine athen_ret ?_ | refine ain_ret ?_)
                        first
                          | refine apost_ret (aend1 (r0 := .int _ _) (.tmp .nil) (.noN rfl rfl) ⟨Wk.v ?_, rfl, rfl⟩)
                          | refine apost_ret (aend1s (r0 := .int _ _) (.tmp .nil) shut rfl ⟨Wk.v ?_, rfl, rfl⟩)
                        exact .refl
theorem cn99 (hS : Sents cds gl) : APure (V ea cds gl) 99 [.err .nil] false (.int .i64 0) := by
  have hS0 := hS
  obtain ⟨hG0, hG11, hG12, hG8, hG1, hG9, hG4, hG13, hG3, hG5, hG6, hG2, hG15, hG7, hG16, hG17, hG18, hG19, hG20, hG21, hT, hall⟩ := hS
  refine acalls_of_body (N := 48) Tryd.func99 rfl rfl (Nat.le_of_ble_eq_true rfl) fun C hV hN hM hO => ?_
  obtain ⟨_, _, w0, G0, σ0, _, own0⟩ := C; dsimp only at hV hN hM hO; subst hV; subst hN; subst hM
  refine awp_seq ?_
  refine awp_region rfl ?_
  refine sP (opp_as (v := .int _ _) rfl rfl) rfl rfl ?_
  refine awp_seq ?_
  refine awp_block ?_
  refine awp_seq ?_
  refine awp_region rfl ?_
  refine sP (opp_mv (v := .err _) rfl rfl) rfl rfl ?_
  refine sP (opp_errNil rfl rfl rfl un29 (.inl ⟨rfl, rfl⟩)) rfl rfl ?_
  refine sP (opp_as (v := .bool _) rfl rfl) rfl rfl ?_
  refine awp_cond _ rfl (fun hc3 => ?_) (fun hc3 => ?_)
  · (try simp only [cmpI, errD_nil, Bool.not_eq_true', Bool.not_eq_false', decide_eq_true_eq, decide_eq_false_iff_not] at hc3); have ht3 := hc3
    refine awp_seq ?_
    refine awp_region rfl ?_
    refine sP (opp_as (v := .int _ _) rfl rfl) rfl rfl ?_
    refine awp_ret ?_
    repeat (first | refine athen_ret ?_ | refine ain_ret ?_)
    first
      | refine apost_ret (aend1 (r0 := .int _ _) (.tmp .nil) (.noN rfl rfl) ⟨Wk.v ?_, rfl, rfl⟩)
      | refine apost_ret (aend1s (r0 := .int _ _) (.tmp .nil) shut rfl ⟨Wk.v ?_, rfl, rfl⟩)
    exact .refl
  · (try simp only [cmpI, errD_nil, Bool.not_eq_true', Bool.not_eq_false', decide_eq_true_eq, decide_eq_false_iff_not] at hc3); have ht3 := hc3
    exfalso; simp [ErrD.isNil] at ht3
theorem ck99 (c : Nat) (hc : c ≤ 20) (hS : Sents cds gl) : APure (V ea cds gl) 99 [.err (errD c)] false (.int .i64 c) := by
  by_cases e : c = 0
  · subst e; exact cn99 hS
  · rw [show errD c = .code c from if_neg e]; exact c99 c (by omega) hc hS
theorem c52 (c : Nat) (k : Int) (hc : c ≤ 20) (hS : Sents cds gl) : APure (V ea cds gl) 52 [.err (errD c), .int .i64 k] false (.bool (decide ((c : Int) = k))) := by
  refine acalls_of_body (N := 14) Tryd.func52 rfl rfl (Nat.le_of_ble_eq_true rfl) fun C hV hN hM hO => ?_
  obtain ⟨_, _, w0, G0, σ0, _, own0⟩ := C; dsimp only at hV hN hM hO; subst hV; subst hN; subst hM
  refine awp_seq ?_
  refine awp_region rfl ?_
  refine sP (opp_as (v := .bool _) rfl rfl) rfl rfl ?_
  refine awp_seq ?_
  refine awp_region rfl ?_
  refine sP (opp_mv (v := .err _) rfl rfl) rfl rfl ?_
  refine sR (opr_call rfl rfl ent99 rfl (ck99 c hc hS) (AViews.refl _ rfl)) rfl rfl rfl ?_ -- d=6 t=3
  refine sP (opp_mv (v := .int _ _) rfl rfl) rfl rfl ?_
  refine sP (opp_cmp rfl rfl rfl rfl) rfl rfl ?_
  refine sP (opp_mv (v := .bool _) rfl rfl) rfl rfl ?_
  refine sG _ rfl rfl rfl rfl (fun hg => (And.intro gi (True.intro))) (fun hg => opp_mv (v := .err _) rfl rfl) ?_
  refine sGR _ rfl rfl rfl rfl (fun hg => (And.intro gi (And.intro gi (True.intro)))) (fun hg => (opr_call rfl rfl ent98 rfl (c98 c hc hS) (AViews.refl _ rfl))) ?_
  refine sG _ rfl rfl rfl rfl (fun hg => (And.intro gi (And.intro gi (True.intro)))) (fun hg => opp_cmp rfl rfl rfl rfl) ?_
  refine sPick rfl rfl rfl rfl (by exact True.intro) rfl rfl (fun hg => gi) (fun hg => gi) ?_
  refine sP (opp_as (v := .bool _) rfl rfl) rfl rfl ?_
  refine awp_ret ?_
  repeat (first | refine athen_ret ?_ | refine ain_ret ?_)
  first
    | refine apost_ret (aend1 (r0 := .bool _) (.tmp .nil) (.noN rfl rfl) ⟨Wk.v ?_, rfl, rfl⟩)
    | refine apost_ret (aend1s (r0 := .bool _) (.tmp .nil) shut rfl ⟨Wk.v ?_, rfl, rfl⟩)
  refine .of (congrArg AV.bool ?_)
  by_cases h9 : (c : Int) = k <;> simp [cmpI, h9]
end
end Go.Proofs.YtgaihhimkodmmaaDoor

