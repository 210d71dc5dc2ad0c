/- Layer 22: what has come, whole; the law's fixed fact (walks over this dump). -/
import Derived.Test.YtgaihhimkodmmaaDoorKDx
namespace Go.Proofs.YtgaihhimkodmmaaDoor
attribute [local irreducible] Tryd.prog
open Go.Fy
set_option linter.unusedSimpArgs false
section
variable {ea : Nat → Addr} {cds : List Nat} {gl : Nat → Option AV}
theorem c23 (b : Bool) (r : Recv) (h0 : r.stage.pieces.length ≤ 4611686018427387904) (hG3 : gl 3 = some (.err (.code 9))) : APure (V ea cds gl) 23 [recvAV b r] false
    (.tup [.sl 1 (!(Sp.wholeR r).2.1) (Sp.wholeR r).1.length (bAt (Sp.wholeR r).1), .bool (Sp.wholeR r).2.1, .err (errD (Sp.wholeR r).2.2)]) := by
  refine acalls_of_body (N := 18) Tryd.func23 rfl rfl (Nat.le_of_ble_eq_true rfl) fun C hV hN hM hO => ?_
  obtain ⟨_, _, w0, G0, σ0, _, own0⟩ := C; dsimp only at hV hN hM hO; subst hV; subst hN; subst hM
  refine awp_seq ?_
  refine awp_region rfl ?_
  refine sR (opr_box (y := .agg _) (n := 1) rfl rfl rfl) rfl rfl rfl ?_
  first
    | refine sP (opp_as (v := .sl _ _ _ _) rfl rfl) rfl rfl ?_
    | refine sP (opp_as (v := .osl _ _ _ _ _) rfl rfl) rfl rfl ?_
  refine sP (opp_as (v := .bool _) rfl rfl) rfl rfl ?_
  refine sP (opp_as (v := .err _) rfl rfl) rfl rfl ?_
  refine awp_seq ?_
  refine awp_seq ?_
  refine awp_region rfl ?_
  first
    | refine sP (opp_loadP rfl rfl rfl rfl bi rfl ty55) rfl rfl ?_
    | refine sP (opp_loadF rfl rfl ty55) rfl rfl ?_
  refine sR (opr_call rfl rfl ent78 rfl (c78 _ _ (by first | omega | (simp_all; done))) (AViews.refl _ rfl)) rfl rfl rfl ?_ -- d=6 t=4
  refine sP (opp_not rfl rfl) rfl rfl ?_
  refine awp_cond _ rfl (fun hc3 => ?_) (fun hc3 => ?_)
  · try simp only [cmpI, errD_nil, Bool.not_eq_true', Bool.not_eq_false', decide_eq_true_eq, decide_eq_false_iff_not] at hc3; have ht7 := hc3
    refine awp_seq ?_
    refine awp_draw hmix rfl (by kernel_rfl) ?_
    refine dP (fun _ => false) (opp_loadF rfl (ev_glob hG3) ty29) rfl rfl ?_
    first
      | refine dP (fun _ => false) (opp_as (v := .sl _ _ _ _) rfl rfl) rfl rfl ?_
      | refine dP (fun _ => false) (opp_as (v := .osl _ _ _ _ _) rfl rfl) rfl rfl ?_
    refine dP (fun _ => false) (opp_as (v := .bool _) rfl rfl) rfl rfl ?_
    refine dP (fun _ => false) (opp_as (v := .err _) rfl rfl) rfl rfl ?_
    refine And.intro (by kernel_rfl) ?_
    refine awp_ret ?_
    repeat (first | refine athen_ret ?_ | refine ain_ret ?_)
    first
      | refine apost_ret (aend (l := [.sl _ _ _ _, .bool _, .err _]) (.tmp (.tmp (.tmp .nil))) (fun h => by cases h) (.cons (.noN rfl rfl) (.cons (.noN rfl rfl) (.cons (.noN rfl rfl) .nil))) ⟨Wk.v ?_, rfl, rfl⟩)
      | refine apost_ret (aends (l := [.sl _ _ _ _, .bool _, .err _]) (.tmp (.tmp (.tmp .nil))) (fun h => by cases h) (.cons shut (fun h => by cases h) (.cons shut (fun h => by cases h) (.cons shut (fun h => by cases h) .nil))) rfl ⟨Wk.v ?_, rfl, rfl⟩)
      | refine apost_ret (aend (l := [.osl _ _ _ _ _, .bool _, .err _]) (.tmp (.tmp (.tmp .nil))) (fun h => by cases h) (.cons (.noN rfl rfl) (.cons (.noN rfl rfl) (.cons (.noN rfl rfl) .nil))) ⟨Wk.v ?_, rfl, rfl⟩)
      | refine apost_ret (aends (l := [.osl _ _ _ _ _, .bool _, .err _]) (.tmp (.tmp (.tmp .nil))) (fun h => by cases h) (.cons shut (fun h => by cases h) (.cons shut (fun h => by cases h) (.cons shut (fun h => by cases h) .nil))) rfl ⟨Wk.v ?_, rfl, rfl⟩)
    rw [show Sp.wholeR r = ([], false, 9) by simp [Sp.wholeR, ht7]]; show Wk _ (.tup [.sl 1 true 0 _, .bool false, .err (.code 9)]); (repeat' (first | exact Wk.refl | exact Wk.sl0 | apply Wk.tup | apply Wk.agg | apply WkL.cons | exact WkL.nil | refine Wk.sl (fun _ _ => ?_)))
  · try simp only [cmpI, errD_nil, Bool.not_eq_true', Bool.not_eq_false', decide_eq_true_eq, decide_eq_false_iff_not] at hc3; have ht7 := hc3
    refine awp_skip ?_
    refine awp_seq ?_
    refine awp_seq ?_
    refine awp_region rfl ?_
    first
      | refine sP (opp_fieldP rfl rfl fld55_0 rfl) rfl rfl ?_
      | refine sP (opp_fieldF rfl rfl rfl fld55_0 rfl rfl) rfl rfl ?_
    first
      | refine sP (opp_loadP rfl rfl rfl rfl bi rfl ty4) rfl rfl ?_
      | refine sP (opp_loadF rfl rfl ty4) rfl rfl ?_
    refine sP (opp_not rfl rfl) rfl rfl ?_
    refine awp_cond _ rfl (fun hc6 => ?_) (fun hc6 => ?_)
    · try simp only [cmpI, errD_nil, Bool.not_eq_true', Bool.not_eq_false', decide_eq_true_eq, decide_eq_false_iff_not] at hc6; have ht11 := hc6
      refine awp_seq ?_
      refine awp_region rfl ?_
      first
        | refine sP (opp_as (v := .sl _ _ _ _) rfl rfl) rfl rfl ?_
        | refine sP (opp_as (v := .osl _ _ _ _ _) rfl rfl) rfl rfl ?_
      refine sP (opp_as (v := .bool _) rfl rfl) rfl rfl ?_
      refine sP (opp_as (v := .err _) rfl rfl) rfl rfl ?_
      refine awp_ret ?_
      repeat (first | refine athen_ret ?_ | refine ain_ret ?_)
      first
        | refine apost_ret (aend (l := [.sl _ _ _ _, .bool _, .err _]) (.tmp (.tmp (.tmp .nil))) (fun h => by cases h) (.cons (.noN rfl rfl) (.cons (.noN rfl rfl) (.cons (.noN rfl rfl) .nil))) ⟨Wk.v ?_, rfl, rfl⟩)
        | refine apost_ret (aends (l := [.sl _ _ _ _, .bool _, .err _]) (.tmp (.tmp (.tmp .nil))) (fun h => by cases h) (.cons shut (fun h => by cases h) (.cons shut (fun h => by cases h) (.cons shut (fun h => by cases h) .nil))) rfl ⟨Wk.v ?_, rfl, rfl⟩)
        | refine apost_ret (aend (l := [.osl _ _ _ _ _, .bool _, .err _]) (.tmp (.tmp (.tmp .nil))) (fun h => by cases h) (.cons (.noN rfl rfl) (.cons (.noN rfl rfl) (.cons (.noN rfl rfl) .nil))) ⟨Wk.v ?_, rfl, rfl⟩)
        | refine apost_ret (aends (l := [.osl _ _ _ _ _, .bool _, .err _]) (.tmp (.tmp (.tmp .nil))) (fun h => by cases h) (.cons shut (fun h => by cases h) (.cons shut (fun h => by cases h) (.cons shut (fun h => by cases h) .nil))) rfl ⟨Wk.v ?_, rfl, rfl⟩)
      rw [show Sp.wholeR r = ([], false, 0) by simp [Sp.wholeR, ht7, ht11]]; show Wk _ (.tup [.sl 1 true 0 _, .bool false, .err .nil]); (repeat' (first | exact Wk.refl | exact Wk.sl0 | apply Wk.tup | apply Wk.agg | apply WkL.cons | exact WkL.nil | refine Wk.sl (fun _ _ => ?_)))
    · try simp only [cmpI, errD_nil, Bool.not_eq_true', Bool.not_eq_false', decide_eq_true_eq, decide_eq_false_iff_not] at hc6; have ht11 := hc6
      refine awp_skip ?_
      refine awp_seq ?_
      refine awp_region rfl ?_
      first
        | refine sP (opp_fieldP rfl rfl fld55_1 rfl) rfl rfl ?_
        | refine sP (opp_fieldF rfl rfl rfl fld55_1 rfl rfl) rfl rfl ?_
      first
        | refine sP (opp_loadP rfl rfl rfl rfl bi rfl ty53) rfl rfl ?_
        | refine sP (opp_loadF rfl rfl ty53) rfl rfl ?_
      refine sR (opr_call rfl rfl ent44 rfl (c44 _ _ hG3) (AViews.refl _ rfl)) rfl rfl rfl ?_ -- d=14 t=58
      refine sP (opp_extract rfl rfl rfl) rfl rfl ?_
      refine sP (opp_extract rfl rfl rfl) rfl rfl ?_
      refine sP (opp_extract rfl rfl rfl) rfl rfl ?_
      first
        | refine sP (opp_as (v := .sl _ _ _ _) rfl rfl) rfl rfl ?_
        | refine sP (opp_as (v := .osl _ _ _ _ _) rfl rfl) rfl rfl ?_
      refine sP (opp_as (v := .bool _) rfl rfl) rfl rfl ?_
      refine sP (opp_as (v := .err _) rfl rfl) rfl rfl ?_
      refine awp_ret ?_
      repeat (first | refine athen_ret ?_ | refine ain_ret ?_)
      first
        | refine apost_ret (aend (l := [.sl _ _ _ _, .bool _, .err _]) (.tmp (.tmp (.tmp .nil))) (fun h => by cases h) (.cons (.noN rfl rfl) (.cons (.noN rfl rfl) (.cons (.noN rfl rfl) .nil))) ⟨Wk.v ?_, rfl, rfl⟩)
        | refine apost_ret (aends (l := [.sl _ _ _ _, .bool _, .err _]) (.tmp (.tmp (.tmp .nil))) (fun h => by cases h) (.cons shut (fun h => by cases h) (.cons shut (fun h => by cases h) (.cons shut (fun h => by cases h) .nil))) rfl ⟨Wk.v ?_, rfl, rfl⟩)
        | refine apost_ret (aend (l := [.osl _ _ _ _ _, .bool _, .err _]) (.tmp (.tmp (.tmp .nil))) (fun h => by cases h) (.cons (.noN rfl rfl) (.cons (.noN rfl rfl) (.cons (.noN rfl rfl) .nil))) ⟨Wk.v ?_, rfl, rfl⟩)
        | refine apost_ret (aends (l := [.osl _ _ _ _ _, .bool _, .err _]) (.tmp (.tmp (.tmp .nil))) (fun h => by cases h) (.cons shut (fun h => by cases h) (.cons shut (fun h => by cases h) (.cons shut (fun h => by cases h) .nil))) rfl ⟨Wk.v ?_, rfl, rfl⟩)
      rw [show Sp.wholeR r = Sp.whole r.stage by simp [Sp.wholeR, ht7, ht11]]; exact .refl
theorem c76 (n : Nat) (h0 : n ≤ 1099511627776) : APure (V ea cds gl) 76 [.int .i64 n] true (.sl 1 (decide (n = 0)) (Sp.dataL n).length (bAt (Sp.dataL n))) := by
  refine acalls_of_body (N := 16) Tryd.func76 rfl rfl (Nat.le_of_ble_eq_true rfl) fun C hV hN hM hO => ?_
  obtain ⟨_, _, w0, G0, σ0, _, own0⟩ := C; dsimp only at hV hN hM hO; subst hV; subst hN; subst hM
  refine awp_seq ?_
  refine awp_region rfl ?_
  first
    | refine sP (opp_as (v := .sl _ _ _ _) rfl rfl) rfl rfl ?_
    | refine sP (opp_as (v := .osl _ _ _ _ _) rfl rfl) rfl rfl ?_
  refine awp_seq ?_
  refine awp_region rfl ?_
  first
    | refine sP (opp_as (v := .sl _ _ _ _) rfl rfl) rfl rfl ?_
    | refine sP (opp_as (v := .osl _ _ _ _ _) rfl rfl) rfl rfl ?_
  refine awp_seq ?_
  refine awp_seq ?_
  refine awp_region rfl ?_
  refine sP (opp_as (v := .int _ _) rfl rfl) rfl rfl ?_
  refine awp_block ?_
  refine awp_loopK (ι := Nat × Bool) (fun p => p.1 ≤ n ∧ (p.2 = true ↔ p.1 = 0)) (fun p => [(3, cond p.2 (.sl 1 true 0 (fun _ => .top)) (.osl 1003 1 0 (Sp.dataL p.1).length (Sp.dataL p.1).length)), (4, .int .i64 p.1), (5, .top), (6, .top), (7, .top), (8, .top), (9, .top), (10, .top), (11, .top), (12, .top), (13, .top), (14, .top)]) (fun p => [(1003, cond p.2 none (some (.arr 1 (Sp.dataL p.1).length (bAt (Sp.dataL p.1)))))]) [1003] (fun p => n - p.1) ((0, true)) (⟨Nat.zero_le _, by simp⟩) (by
    refine imp_over [] rfl rfl (by kernel_rfl) ?_ ?_
    · refine And.intro wkv ?_
      refine And.intro wkv ?_
      refine And.intro wkv ?_
      refine And.intro wkv ?_
      refine And.intro wkv ?_
      refine And.intro wkv ?_
      refine And.intro wkv ?_
      refine And.intro wkv ?_
      refine And.intro wkv ?_
      refine And.intro wkv ?_
      refine And.intro wkv ?_
      refine And.intro wkv ?_
      exact True.intro
    · exact True.intro
    ) ?_
  intro p hi1; obtain ⟨i, e⟩ := p; rcases e with _ | _
  · dsimp only [cond] at hi1 ⊢; have hdl := Sp.dataL_len i
    refine awp_seq ?_
    refine awp_seq ?_
    refine awp_region rfl ?_
    refine sP (opp_mv (v := .int _ _) rfl rfl) rfl rfl ?_
    refine sP (opp_mv (v := .int _ _) rfl rfl) rfl rfl ?_
    refine sP (opp_cmp rfl rfl rfl rfl) rfl rfl ?_
    refine awp_cond _ rfl (fun hc5 => ?_) (fun hc5 => ?_)
    · try simp only [cmpI, errD_nil, Bool.not_eq_true', Bool.not_eq_false', decide_eq_true_eq, decide_eq_false_iff_not] at hc5; have ht7 := hc5
      refine awp_skip ?_
      refine awp_seq ?_
      refine awp_block ?_
      refine awp_region rfl ?_
      first
        | refine sP (opp_mv (v := .sl _ _ _ _) rfl rfl) rfl rfl ?_
        | refine sP (opp_mv (v := .osl _ _ _ _ _) rfl rfl) rfl rfl ?_
      refine sP (opp_mv (v := .int _ _) rfl rfl) rfl rfl ?_
      first
        | refine sP (opp_convInt rfl rfl un3s un5 (wu8 (by omega))) rfl rfl ?_
        | refine sP (opp_convInt rfl rfl un3s un5 rfl) rfl rfl ?_
      refine sR (opr_buildSlice (n := 13) (g := fun j => if j = 0 then .int _ _ else .int .u8 0) rfl eb36 z5 (by decide) rfl rfl) rfl rfl rfl ?_
      first
        | refine sR (opr_append (d := 14) rfl rfl rfl (by omega) (.osl0 rfl (by omega)) eb36 z5 (by omega) (by omega)) rfl rfl rfl ?_
        | refine sR (opr_append (d := 14) rfl rfl rfl (by omega) .sl eb36 z5 (by omega) (by omega)) rfl rfl rfl ?_
        | refine sR (opr_append (d := 14) rfl rfl rfl (by omega) (.osl rfl (by omega) (fun _ _ => rfl)) eb36 z5 (by omega) (by omega)) rfl rfl rfl ?_
        | refine sR (opr_appendNil (d := 14) rfl rfl (.osl0 rfl (by omega)) eb36 z5 (by omega) (by omega) (by omega)) rfl rfl rfl ?_
        | refine sR (opr_appendNil (d := 14) rfl rfl .sl eb36 z5 (by omega) (by omega) (by omega)) rfl rfl rfl ?_
        | refine sR (opr_appendNil (d := 14) rfl rfl (.osl rfl (by omega) (fun _ _ => rfl)) eb36 z5 (by omega) (by omega) (by omega)) rfl rfl rfl ?_
      first
        | refine sP (opp_as (v := .sl _ _ _ _) rfl rfl) rfl rfl ?_
        | refine sP (opp_as (v := .osl _ _ _ _ _) rfl rfl) rfl rfl ?_
      refine awp_region rfl ?_
      refine sP (opp_mv (v := .int _ _) rfl rfl) rfl rfl ?_
      first
        | refine sP (opp_arith rfl rfl rfl (.inl ⟨rfl, w64 (by omega)⟩)) rfl rfl ?_
        | refine sP (opp_arith rfl rfl rfl (.inl ⟨rfl, rfl⟩)) rfl rfl ?_
      refine sP (opp_as (v := .int _ _) rfl rfl) rfl rfl ?_
      refine Exists.intro ((i + 1, false)) (And.intro (And.intro (And.intro (by show i + 1 ≤ n; omega) (by simp)) (by omega)) (by
        refine imp_over [(1003, 14)] rfl rfl (by kernel_rfl) ?_ ?_
        · refine And.intro (by exact Or.inr (And.intro rfl (WkV.of (by show AV.osl 14 1 0 _ _ = AV.osl 14 1 0 _ _; rw [Sp.dataL_len, Sp.dataL_len])))) ?_
          refine And.intro wkv ?_
          refine And.intro wkv ?_
          refine And.intro wkv ?_
          refine And.intro wkv ?_
          refine And.intro wkv ?_
          refine And.intro wkv ?_
          refine And.intro wkv ?_
          refine And.intro wkv ?_
          refine And.intro wkv ?_
          refine And.intro wkv ?_
          refine And.intro wkv ?_
          exact True.intro
        · refine And.intro (And.intro rfl (And.intro rfl (Exists.intro _ (And.intro rfl (by show WkC (AV.arr 1 _ _) (AV.arr 1 _ _); rw [Sp.dataL_succ, List.length_append, u8_wrap]; exact WkC.arr (fun j hj => b_append _ _ j _ rfl _ hj)))))) ?_
          exact True.intro
        ))
    · try simp only [cmpI, errD_nil, Bool.not_eq_true', Bool.not_eq_false', decide_eq_true_eq, decide_eq_false_iff_not] at hc5; have ht7 := hc5
      refine awp_exit ?_
      refine awp_seq ?_
      refine awp_region rfl ?_
      first
        | refine sP (opp_mv (v := .sl _ _ _ _) rfl rfl) rfl rfl ?_
        | refine sP (opp_mv (v := .osl _ _ _ _ _) rfl rfl) rfl rfl ?_
      first
        | refine sP (opp_as (v := .sl _ _ _ _) rfl rfl) rfl rfl ?_
        | refine sP (opp_as (v := .osl _ _ _ _ _) rfl rfl) rfl rfl ?_
      refine awp_ret ?_
      repeat (first | refine athen_ret ?_ | refine ain_ret ?_)
      first
        | refine apost_ret (aend1 (r0 := .sl _ _ _ _) (.tmp .nil) (.noN rfl rfl) ⟨Wk.v ?_, rfl, rfl⟩)
        | refine apost_ret (aend1s (r0 := .sl _ _ _ _) (.tmp .nil) shut rfl ⟨Wk.v ?_, rfl, rfl⟩)
        | refine apost_ret (aend1 (r0 := .osl _ _ _ _ _) (.tmp .nil) (.noN rfl rfl) ⟨Wk.v ?_, rfl, rfl⟩)
        | refine apost_ret (aend1s (r0 := .osl _ _ _ _ _) (.tmp .nil) shut rfl ⟨Wk.v ?_, rfl, rfl⟩)
      have hi2 : i = n := by omega
      subst hi2
      have hne : ¬ i = 0 := fun h => by have := hi1.2.2 h; cases this
      simp only [decide_eq_false hne]; exact .refl
  · dsimp only [cond] at hi1 ⊢; have hdl := Sp.dataL_len i
    refine awp_seq ?_
    refine awp_seq ?_
    refine awp_region rfl ?_
    refine sP (opp_mv (v := .int _ _) rfl rfl) rfl rfl ?_
    refine sP (opp_mv (v := .int _ _) rfl rfl) rfl rfl ?_
    refine sP (opp_cmp rfl rfl rfl rfl) rfl rfl ?_
    refine awp_cond _ rfl (fun hc10 => ?_) (fun hc10 => ?_)
    · try simp only [cmpI, errD_nil, Bool.not_eq_true', Bool.not_eq_false', decide_eq_true_eq, decide_eq_false_iff_not] at hc10; have ht7 := hc10
      refine awp_skip ?_
      refine awp_seq ?_
      refine awp_block ?_
      refine awp_region rfl ?_
      first
        | refine sP (opp_mv (v := .sl _ _ _ _) rfl rfl) rfl rfl ?_
        | refine sP (opp_mv (v := .osl _ _ _ _ _) rfl rfl) rfl rfl ?_
      refine sP (opp_mv (v := .int _ _) rfl rfl) rfl rfl ?_
      first
        | refine sP (opp_convInt rfl rfl un3s un5 (wu8 (by omega))) rfl rfl ?_
        | refine sP (opp_convInt rfl rfl un3s un5 rfl) rfl rfl ?_
      refine sR (opr_buildSlice (n := 13) (g := fun j => if j = 0 then .int _ _ else .int .u8 0) rfl eb36 z5 (by decide) rfl rfl) rfl rfl rfl ?_
      first
        | refine sR (opr_append (d := 14) rfl rfl rfl (by omega) (.osl0 rfl (by omega)) eb36 z5 (by omega) (by omega)) rfl rfl rfl ?_
        | refine sR (opr_append (d := 14) rfl rfl rfl (by omega) .sl eb36 z5 (by omega) (by omega)) rfl rfl rfl ?_
        | refine sR (opr_append (d := 14) rfl rfl rfl (by omega) (.osl rfl (by omega) (fun _ _ => rfl)) eb36 z5 (by omega) (by omega)) rfl rfl rfl ?_
        | refine sR (opr_appendNil (d := 14) rfl rfl (.osl0 rfl (by omega)) eb36 z5 (by omega) (by omega) (by omega)) rfl rfl rfl ?_
        | refine sR (opr_appendNil (d := 14) rfl rfl .sl eb36 z5 (by omega) (by omega) (by omega)) rfl rfl rfl ?_
        | refine sR (opr_appendNil (d := 14) rfl rfl (.osl rfl (by omega) (fun _ _ => rfl)) eb36 z5 (by omega) (by omega) (by omega)) rfl rfl rfl ?_
      first
        | refine sP (opp_as (v := .sl _ _ _ _) rfl rfl) rfl rfl ?_
        | refine sP (opp_as (v := .osl _ _ _ _ _) rfl rfl) rfl rfl ?_
      refine awp_region rfl ?_
      refine sP (opp_mv (v := .int _ _) rfl rfl) rfl rfl ?_
      first
        | refine sP (opp_arith rfl rfl rfl (.inl ⟨rfl, w64 (by omega)⟩)) rfl rfl ?_
        | refine sP (opp_arith rfl rfl rfl (.inl ⟨rfl, rfl⟩)) rfl rfl ?_
      refine sP (opp_as (v := .int _ _) rfl rfl) rfl rfl ?_
      have hi0 : i = 0 := hi1.2.1 rfl
      refine Exists.intro ((i + 1, false)) (And.intro (And.intro (And.intro (by show i + 1 ≤ n; omega) (by simp)) (by omega)) (by
        refine imp_over [(1003, 14)] rfl rfl (by kernel_rfl) ?_ ?_
        · refine And.intro (by exact Or.inr (And.intro rfl (WkV.of (by show AV.osl 14 1 0 _ _ = AV.osl 14 1 0 _ _; rw [Sp.dataL_len, hi0])))) ?_
          refine And.intro wkv ?_
          refine And.intro wkv ?_
          refine And.intro wkv ?_
          refine And.intro wkv ?_
          refine And.intro wkv ?_
          refine And.intro wkv ?_
          refine And.intro wkv ?_
          refine And.intro wkv ?_
          refine And.intro wkv ?_
          refine And.intro wkv ?_
          refine And.intro wkv ?_
          exact True.intro
        · refine And.intro (And.intro rfl (And.intro rfl (Exists.intro _ (And.intro rfl (by show WkC (AV.arr 1 _ _) (AV.arr 1 _ _); rw [hi0]; exact WkC.arr (fun j hj => by have h0 : j = 0 := (by simpa using hj); subst h0; rfl)))))) ?_
          exact True.intro
        ))
    · try simp only [cmpI, errD_nil, Bool.not_eq_true', Bool.not_eq_false', decide_eq_true_eq, decide_eq_false_iff_not] at hc10; have ht7 := hc10
      refine awp_exit ?_
      refine awp_seq ?_
      refine awp_region rfl ?_
      first
        | refine sP (opp_mv (v := .sl _ _ _ _) rfl rfl) rfl rfl ?_
        | refine sP (opp_mv (v := .osl _ _ _ _ _) rfl rfl) rfl rfl ?_
      first
        | refine sP (opp_as (v := .sl _ _ _ _) rfl rfl) rfl rfl ?_
        | refine sP (opp_as (v := .osl _ _ _ _ _) rfl rfl) rfl rfl ?_
      refine awp_ret ?_
      repeat (first | refine athen_ret ?_ | refine ain_ret ?_)
      first
        | refine apost_ret (aend1 (r0 := .sl _ _ _ _) (.tmp .nil) (.noN rfl rfl) ⟨Wk.v ?_, rfl, rfl⟩)
        | refine apost_ret (aend1s (r0 := .sl _ _ _ _) (.tmp .nil) shut rfl ⟨Wk.v ?_, rfl, rfl⟩)
        | refine apost_ret (aend1 (r0 := .osl _ _ _ _ _) (.tmp .nil) (.noN rfl rfl) ⟨Wk.v ?_, rfl, rfl⟩)
        | refine apost_ret (aend1s (r0 := .osl _ _ _ _ _) (.tmp .nil) shut rfl ⟨Wk.v ?_, rfl, rfl⟩)
      have hi2 : i = n := by omega
      subst hi2
      have hne : i = 0 := hi1.2.1 rfl
      subst hne
      show Wk _ (.sl 1 true 0 _); (repeat' (first | exact Wk.refl | exact Wk.sl0 | apply Wk.tup | apply Wk.agg | apply WkL.cons | exact WkL.nil | refine Wk.sl (fun _ _ => ?_)))
end
end Go.Proofs.YtgaihhimkodmmaaDoor

