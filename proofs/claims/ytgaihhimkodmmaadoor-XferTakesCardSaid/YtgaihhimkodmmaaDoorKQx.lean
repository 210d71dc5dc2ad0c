/- The document's answers for layer 20: stages (walks over this dump). -/
import Derived.Test.YtgaihhimkodmmaaDoorKNx
namespace Go.Proofs.YtgaihhimkodmmaaDoor
attribute [local irreducible] Tryd.prog
open Go.Fy
set_option linter.unusedSimpArgs false
set_option linter.unusedVariables false
section
variable {ea : Nat → Addr} {cds : List Nat} {gl : Nat → Option AV}
theorem c122 (n : Note) : APure (V ea cds gl) 122 [noteAV n] false (.int .i64 (Sp.chunk n : Nat)) := by
  refine acalls_of_body (N := 12) Tryd.func122 rfl rfl (Nat.le_of_ble_eq_true rfl) fun C hV hN hM hO => ?_
  obtain ⟨_, _, w0, G0, σ0, _, own0⟩ := C; dsimp only at hV hN hM hO; subst hV; subst hN; subst hM
  refine awp_seq ?_
  refine awp_region rfl ?_
  refine sR (opr_box (y := .agg _) (n := 1) rfl rfl rfl) rfl rfl rfl ?_
  refine sP (opp_as (v := .int _ _) rfl rfl) rfl rfl ?_
  refine awp_seq ?_
  refine awp_region rfl ?_
  first
    | refine sP (opp_loadP rfl rfl rfl rfl bi rfl ty26) rfl rfl ?_
    | refine sP (opp_loadF rfl rfl ty26) rfl rfl ?_
  refine sR (opr_call rfl rfl ent16 rfl (c16 n) (AViews.refl _ rfl)) rfl rfl rfl ?_ -- d=5 t=3
  refine sP (opp_as (v := .int _ _) rfl rfl) rfl rfl ?_
  refine awp_seq ?_
  refine awp_seq ?_
  refine awp_region rfl ?_
  refine sP (opp_mv (v := .int _ _) rfl rfl) rfl rfl ?_
  refine sP (opp_cmp rfl rfl rfl rfl) rfl rfl ?_
  refine awp_cond _ rfl (fun hc4 => ?_) (fun hc4 => ?_)
  · (try simp only [cmpI, errD_nil, Bool.not_eq_true', Bool.not_eq_false', decide_eq_true_eq, decide_eq_false_iff_not] at hc4); have ht7 := hc4
    refine awp_seq ?_
    refine awp_region rfl ?_
    refine sP (opp_mv (v := .int _ _) rfl rfl) rfl rfl ?_
    refine sP (opp_as (v := .int _ _) rfl rfl) rfl rfl ?_
    refine awp_ret ?_
    repeat (first | refine athen_ret ?_ | refine ain_ret ?_)
    first
      | refine apost_ret (aend1 (r0 := .int _ _) (.tmp .nil) (.noN rfl rfl) ⟨Wk.v ?_, rfl, rfl⟩)
      | refine apost_ret (aend1s (r0 := .int _ _) (.tmp .nil) shut rfl ⟨Wk.v ?_, rfl, rfl⟩)
    have hk : ¬ Sp.check n = 0 := by simpa using ht7
    exact .of (by simp [Sp.chunk, hk])
  · (try simp only [cmpI, errD_nil, Bool.not_eq_true', Bool.not_eq_false', decide_eq_true_eq, decide_eq_false_iff_not] at hc4); have ht7 := hc4
    refine awp_skip ?_
    refine awp_seq ?_
    refine awp_seq ?_
    refine awp_region rfl ?_
    first
      | refine sP (opp_fieldP rfl rfl fld26_0 rfl) rfl rfl ?_
      | refine sP (opp_fieldF rfl rfl rfl fld26_0 rfl rfl) rfl rfl ?_
    first
      | refine sP (opp_loadP rfl rfl rfl rfl bi rfl ty3) rfl rfl ?_
      | refine sP (opp_loadF rfl rfl ty3) rfl rfl ?_
    refine sP (opp_cmp rfl rfl rfl rfl) rfl rfl ?_
    refine awp_cond _ rfl (fun hc7 => ?_) (fun hc7 => ?_)
    · (try simp only [cmpI, errD_nil, Bool.not_eq_true', Bool.not_eq_false', decide_eq_true_eq, decide_eq_false_iff_not] at hc7); have ht11 := hc7
      refine awp_seq ?_
      refine awp_region rfl ?_
      refine sP (opp_as (v := .int _ _) rfl rfl) rfl rfl ?_
      refine awp_ret ?_
      repeat (first | refine athen_ret ?_ | refine ain_ret ?_)
      first
        | refine apost_ret (aend1 (r0 := .int _ _) (.tmp .nil) (.noN rfl rfl) ⟨Wk.v ?_, rfl, rfl⟩)
        | refine apost_ret (aend1s (r0 := .int _ _) (.tmp .nil) shut rfl ⟨Wk.v ?_, rfl, rfl⟩)
      have hk : Sp.check n = 0 := by simpa using ht7
      have hk2 : ¬ n.kind = 1 := by simpa using ht11
      exact .of (by simp [Sp.chunk, hk, hk2])
    · (try simp only [cmpI, errD_nil, Bool.not_eq_true', Bool.not_eq_false', decide_eq_true_eq, decide_eq_false_iff_not] at hc7); have ht11 := hc7
      refine awp_skip ?_
      refine awp_seq ?_
      refine awp_region rfl ?_
      refine sP (opp_as (v := .int _ _) rfl rfl) rfl rfl ?_
      refine awp_ret ?_
      repeat (first | refine athen_ret ?_ | refine ain_ret ?_)
      first
        | refine apost_ret (aend1 (r0 := .int _ _) (.tmp .nil) (.noN rfl rfl) ⟨Wk.v ?_, rfl, rfl⟩)
        | refine apost_ret (aend1s (r0 := .int _ _) (.tmp .nil) shut rfl ⟨Wk.v ?_, rfl, rfl⟩)
      have hk : Sp.check n = 0 := by simpa using ht7
      have hk2 : n.kind = 1 := by simpa using ht11
      exact .of (by simp [Sp.chunk, hk, hk2])
theorem c83 (n : Note) : APure (V ea cds gl) 83 [noteAV n] false (.tup [stageAV (decide ((Sp.begin_ n).2 ≠ 0)) (Sp.begin_ n).1, .int .i64 ((Sp.begin_ n).2 : Nat)]) := by
  refine acalls_of_body (N := 32) Tryd.func83 rfl rfl (Nat.le_of_ble_eq_true rfl) fun C hV hN hM hO => ?_
  obtain ⟨_, _, w0, G0, σ0, _, own0⟩ := C; dsimp only at hV hN hM hO; subst hV; subst hN; subst hM
  refine awp_seq ?_
  refine awp_region rfl ?_
  refine sR (opr_box (y := .agg _) (n := 1) rfl rfl rfl) rfl rfl rfl ?_
  refine sR (opr_alloc (n := 2) rfl z74) rfl rfl rfl ?_
  refine sP (opp_as (v := .int _ _) rfl rfl) rfl rfl ?_
  refine awp_seq ?_
  refine awp_region rfl ?_
  first
    | refine sP (opp_loadP rfl rfl rfl rfl bi rfl ty26) rfl rfl ?_
    | refine sP (opp_loadF rfl rfl ty26) rfl rfl ?_
  refine sR (opr_call rfl rfl ent122 rfl (c122 n) (AViews.refl _ rfl)) rfl rfl rfl ?_ -- d=7 t=3
  refine sP (opp_as (v := .int _ _) rfl rfl) rfl rfl ?_
  refine awp_seq ?_
  refine awp_seq ?_
  refine awp_region rfl ?_
  refine sP (opp_mv (v := .int _ _) rfl rfl) rfl rfl ?_
  refine sP (opp_cmp rfl rfl rfl rfl) rfl rfl ?_
  refine awp_cond _ rfl (fun hc4 => ?_) (fun hc4 => ?_)
  · (try simp only [cmpI, errD_nil, Bool.not_eq_true', Bool.not_eq_false', decide_eq_true_eq, decide_eq_false_iff_not] at hc4); have ht9 := hc4
    refine awp_seq ?_
    refine awp_region rfl ?_
    refine sP (opp_build rfl z74 bld74 rfl [.int .i64 0, .int .i64 0, .int .i64 0, .agg [.int .i64 0, .int .i64 0, .int .i64 0], .sl 1 true 0 (fun _ => .top)] rfl) rfl rfl ?_
    refine sP (opp_mv (v := .int _ _) rfl rfl) rfl rfl ?_
    refine sR0 (opr_store (v := .agg _) (trn := (.agg _)) rfl rfl rfl rfl bi rfl rfl rfl rfl fr2 ty74 (fun _ _ h => h)) rfl rfl rfl ?_
    refine sP (opp_as (v := .int _ _) rfl rfl) rfl rfl ?_
    refine awp_ret ?_
    repeat (first | refine athen_ret ?_ | refine ain_ret ?_)
    first
      | refine apost_ret (aend (l := [.agg _, .int _ _]) (.cell rfl rfl rfl (by exact True.intro) rfl ty74 (.tmp .nil)) (fun h => by cases h) (.cons (.noN rfl rfl) (.cons (.noN rfl rfl) .nil)) ⟨Wk.v ?_, rfl, rfl⟩)
      | refine apost_ret (aends (l := [.agg _, .int _ _]) (.cell rfl rfl rfl (by exact True.intro) rfl ty74 (.tmp .nil)) (fun h => by cases h) (.cons shut (fun h => by cases h) (.cons shut (fun h => by cases h) .nil)) rfl ⟨Wk.v ?_, rfl, rfl⟩)
    have hc : Sp.chunk n ≠ 0 := by simpa using ht9
    have e : Sp.begin_ n = (Sp.zeroS, Sp.chunk n) := if_pos hc
    rw [e]; simp only [hc, ne_eq, not_false_eq_true, decide_true, stageAV, Sp.zeroS, xidAV, List.length_nil]; (repeat' (first | exact Wk.refl | exact Wk.sl0 | apply Wk.tup | apply Wk.agg | apply WkL.cons | exact WkL.nil | refine Wk.sl (fun _ _ => ?_)))
  · (try simp only [cmpI, errD_nil, Bool.not_eq_true', Bool.not_eq_false', decide_eq_true_eq, decide_eq_false_iff_not] at hc4); have ht9 := hc4
    refine awp_skip ?_
    refine awp_seq ?_
    have hch : Sp.chunk n = 0 := by simpa using ht9
    have hb := Sp.chunk_bounds hch
    refine awp_draw hmix rfl (by kernel_rfl) ?_
    first
      | refine dP (fun _ => false) (opp_fieldP rfl rfl fld26_1 rfl) rfl rfl ?_
      | refine dP (fun _ => false) (opp_fieldF rfl rfl rfl fld26_1 rfl rfl) rfl rfl ?_
    first
      | refine dP (fun n => Nat.beq n 1) (opp_loadP rfl rfl rfl rfl bi rfl ty3) rfl rfl ?_
      | refine dP (fun n => Nat.beq n 1) (opp_loadF rfl rfl ty3) rfl rfl ?_
    first
      | refine dP (fun _ => false) (opp_fieldP rfl rfl fld26_3 rfl) rfl rfl ?_
      | refine dP (fun _ => false) (opp_fieldF rfl rfl rfl fld26_3 rfl rfl) rfl rfl ?_
    first
      | refine dP (fun n => Nat.beq n 1) (opp_loadP rfl rfl rfl rfl bi rfl ty3) rfl rfl ?_
      | refine dP (fun n => Nat.beq n 1) (opp_loadF rfl rfl ty3) rfl rfl ?_
    first
      | refine dP (fun _ => false) (opp_fieldP rfl rfl fld26_5 rfl) rfl rfl ?_
      | refine dP (fun _ => false) (opp_fieldF rfl rfl rfl fld26_5 rfl rfl) rfl rfl ?_
    first
      | refine dP (fun n => Nat.beq n 1) (opp_loadP rfl rfl rfl rfl bi rfl ty3) rfl rfl ?_
      | refine dP (fun n => Nat.beq n 1) (opp_loadF rfl rfl ty3) rfl rfl ?_
    first
      | refine dP (fun _ => false) (opp_fieldP rfl rfl fld26_2 rfl) rfl rfl ?_
      | refine dP (fun _ => false) (opp_fieldF rfl rfl rfl fld26_2 rfl rfl) rfl rfl ?_
    first
      | refine dP (fun n => Nat.beq n 1) (opp_loadP rfl rfl rfl rfl bi rfl ty23) rfl rfl ?_
      | refine dP (fun n => Nat.beq n 1) (opp_loadF rfl rfl ty23) rfl rfl ?_
    first
      | refine dP (fun _ => false) (opp_fieldP rfl rfl fld26_5 rfl) rfl rfl ?_
      | refine dP (fun _ => false) (opp_fieldF rfl rfl rfl fld26_5 rfl rfl) rfl rfl ?_
    first
      | refine dP (fun n => Nat.beq n 1) (opp_loadP rfl rfl rfl rfl bi rfl ty3) rfl rfl ?_
      | refine dP (fun n => Nat.beq n 1) (opp_loadF rfl rfl ty3) rfl rfl ?_
    refine dR (fun _ => false) (opr_make (n := 22) rfl rfl rfl eb51 z9 (by omega) (by omega) (by omega) (by omega)) rfl rfl rfl ?_
    first
      | refine dP (fun _ => false) (opp_build rfl z74 bld74 rfl [.int _ _, .int _ _, .int _ _, .agg _, .sl _ _ _ _] rfl) rfl rfl ?_
      | refine dP (fun _ => false) (opp_build rfl z74 bld74 rfl [.int _ _, .int _ _, .int _ _, .agg _, .osl _ _ _ _ _] rfl) rfl rfl ?_
    refine dR (fun _ => false) (opr_alloc (n := 5) rfl z74) rfl rfl rfl ?_
    refine dR0 (fun n => Nat.beq n 5) (opr_store (v := .agg _) (trn := (.agg _)) rfl rfl rfl rfl bi rfl rfl rfl rfl fr2 ty74 (fun _ _ h => h)) rfl rfl rfl ?_
    refine And.intro (by kernel_rfl) ?_
    refine awp_seq ?_
    refine awp_region rfl ?_
    first
      | refine sP (opp_fieldP rfl rfl fld74_4 rfl) rfl rfl ?_
      | refine sP (opp_fieldF rfl rfl rfl fld74_4 rfl rfl) rfl rfl ?_
    first
      | refine sP (opp_loadP rfl rfl rfl rfl bi rfl ty51) rfl rfl ?_
      | refine sP (opp_loadF rfl rfl ty51) rfl rfl ?_
    first
      | refine sP (opp_fieldP rfl rfl fld26_4 rfl) rfl rfl ?_
      | refine sP (opp_fieldF rfl rfl rfl fld26_4 rfl rfl) rfl rfl ?_
    first
      | refine sP (opp_loadP rfl rfl rfl rfl bi rfl ty3) rfl rfl ?_
      | refine sP (opp_loadF rfl rfl ty3) rfl rfl ?_
    first
      | refine sP (opp_fieldP rfl rfl fld26_7 rfl) rfl rfl ?_
      | refine sP (opp_fieldF rfl rfl rfl fld26_7 rfl rfl) rfl rfl ?_
    first
      | refine sP (opp_loadP rfl rfl rfl rfl bi rfl ty9) rfl rfl ?_
      | refine sP (opp_loadF rfl rfl ty9) rfl rfl ?_
    first
      | refine sP (opp_indexSl rfl rfl rfl el51 (by omega) (by omega)) rfl rfl ?_
      | refine sP (opp_indexOsl0 rfl rfl rfl el51 (by omega) (by omega)) rfl rfl ?_
      | refine sP (opp_indexOsl rfl rfl rfl el51 (by omega) (by omega)) rfl rfl ?_
    refine sR0 (opr_storeA (v := .str _) rfl rfl rfl (by omega) rfl rfl rfl rfl rfl ty9) rfl rfl rfl ?_
    refine awp_seq ?_
    refine awp_region rfl ?_
    first
      | refine sP (opp_loadP rfl rfl rfl rfl bi rfl ty74) rfl rfl ?_
      | refine sP (opp_loadF rfl rfl ty74) rfl rfl ?_
    refine sR0 (opr_store (v := .agg _) (trn := (.agg _)) rfl rfl rfl rfl bi rfl rfl rfl rfl fr2 ty74 (fun _ _ h => h)) rfl rfl rfl ?_
    refine sP (opp_as (v := .int _ _) rfl rfl) rfl rfl ?_
    refine awp_ret ?_
    repeat (first | refine athen_ret ?_ | refine ain_ret ?_)
    first
      | refine apost_ret (aend (l := [.agg _, .int _ _]) (.cell rfl rfl rfl (by exact True.intro) rfl ty74 (.tmp .nil)) (fun h => by cases h) (.cons (.noN rfl rfl) (.cons (.noN rfl rfl) .nil)) ⟨Wk.v ?_, rfl, rfl⟩)
      | refine apost_ret (aends (l := [.agg _, .int _ _]) (.cell rfl rfl rfl (by exact True.intro) rfl ty74 (.tmp .nil)) (fun h => by cases h) (.cons shut (fun h => by cases h) (.cons shut (fun h => by cases h) .nil)) rfl ⟨Wk.v ?_, rfl, rfl⟩)
    have e : Sp.begin_ n = (⟨n.part, n.stage, n.total, n.xid, (List.replicate n.total.toNat []).set n.index.toNat n.data⟩, 0) := if_neg (by simp [hch])
    rw [e]; simp only [ne_eq, not_true_eq_false, decide_false, stageAV, xidAV, List.length_set, List.length_replicate]; (repeat' (first | exact Wk.refl | exact Wk.sl0 | apply Wk.tup | apply Wk.agg | apply WkL.cons | exact WkL.nil | refine Wk.sl (fun _ _ => ?_)))
    rename_i j hj; simp only [strAt, List.getD_eq_getElem?_getD, List.getElem?_set, List.length_replicate]
    by_cases hj2 : j = n.index.toNat
    · subst hj2; simp [hj]
    · rw [if_neg hj2, if_neg (Ne.symm hj2)]; simp [hj]
theorem c123 (b : Bool) (s : Stage) : APure (V ea cds gl) 123 [stageAV b s] false (.bool (Sp.goodS s)) := by
  refine acalls_of_body (N := 67) Tryd.func123 rfl rfl (Nat.le_of_ble_eq_true rfl) fun C hV hN hM hO => ?_
  obtain ⟨_, _, w0, G0, σ0, _, own0⟩ := C; dsimp only at hV hN hM hO; subst hV; subst hN; subst hM
  refine awp_seq ?_
  refine awp_region rfl ?_
  refine sR (opr_box (y := .agg _) (n := 1) rfl rfl rfl) rfl rfl rfl ?_
  refine sP (opp_as (v := .bool _) rfl rfl) rfl rfl ?_
  refine awp_seq ?_
  refine awp_seq ?_
  refine awp_region rfl ?_
  first
    | refine sP (opp_fieldP rfl rfl fld74_0 rfl) rfl rfl ?_
    | refine sP (opp_fieldF rfl rfl rfl fld74_0 rfl rfl) rfl rfl ?_
  first
    | refine sP (opp_loadP rfl rfl rfl rfl bi rfl ty3) rfl rfl ?_
    | refine sP (opp_loadF rfl rfl ty3) rfl rfl ?_
  refine sR (opr_call rfl rfl ent104 rfl (c104 _) (AViews.refl _ rfl)) rfl rfl rfl ?_ -- d=6 t=4
  refine sP (opp_not rfl rfl) rfl rfl ?_
  refine sP (opp_mv (v := .bool _) rfl rfl) rfl rfl ?_
  first
    | refine sG _ rfl rfl rfl rfl (fun hg => (And.intro gi (True.intro))) (fun hg => opp_fieldP rfl rfl fld74_3 rfl) ?_
    | refine sG _ rfl rfl rfl rfl (fun hg => (And.intro gi (True.intro))) (fun hg => opp_fieldF rfl rfl rfl fld74_3 rfl rfl) ?_
  first
    | refine sG _ rfl rfl rfl rfl (fun hg => (And.intro gi (True.intro))) (fun hg => opp_loadP rfl rfl rfl rfl bi rfl ty23) ?_
    | refine sG _ rfl rfl rfl rfl (fun hg => (And.intro gi (True.intro))) (fun hg => opp_loadF rfl rfl ty23) ?_
  refine sGR _ rfl rfl rfl rfl (fun hg => (And.intro gi (And.intro gi (True.intro)))) (fun hg => (opr_call rfl rfl ent105 rfl (c105 _) (AViews.refl _ rfl))) ?_
  refine sG _ rfl rfl rfl rfl (fun hg => (And.intro gi (True.intro))) (fun hg => opp_not rfl rfl) ?_
  refine sPick rfl rfl rfl rfl (by exact True.intro) rfl rfl (fun hg => gi) (fun hg => gi) ?_
  refine sP (opp_mv (v := .bool _) rfl rfl) rfl rfl ?_
  first
    | refine sG _ rfl rfl rfl rfl (fun hg => (And.intro gi (True.intro))) (fun hg => opp_fieldP rfl rfl fld74_1 rfl) ?_
    | refine sG _ rfl rfl rfl rfl (fun hg => (And.intro gi (True.intro))) (fun hg => opp_fieldF rfl rfl rfl fld74_1 rfl rfl) ?_
  first
    | refine sG _ rfl rfl rfl rfl (fun hg => (And.intro gi (True.intro))) (fun hg => opp_loadP rfl rfl rfl rfl bi rfl ty3) ?_
    | refine sG _ rfl rfl rfl rfl (fun hg => (And.intro gi (True.intro))) (fun hg => opp_loadF rfl rfl ty3) ?_
  refine sG _ rfl rfl rfl rfl (fun hg => (And.intro gi (And.intro gi (True.intro)))) (fun hg => opp_cmp rfl rfl rfl rfl) ?_
  refine sG _ rfl rfl rfl rfl (fun hg => (And.intro gi (True.intro))) (fun hg => opp_mv (v := .bool _) rfl rfl) ?_
  first
    | refine sG _ rfl rfl rfl rfl (fun hg => (And.intro gi (True.intro))) (fun hg => opp_fieldP rfl rfl fld74_1 rfl) ?_
    | refine sG _ rfl rfl rfl rfl (fun hg => (And.intro gi (True.intro))) (fun hg => opp_fieldF rfl rfl rfl fld74_1 rfl rfl) ?_
  first
    | refine sG _ rfl rfl rfl rfl (fun hg => (And.intro gi (True.intro))) (fun hg => opp_loadP rfl rfl rfl rfl bi rfl ty3) ?_
    | refine sG _ rfl rfl rfl rfl (fun hg => (And.intro gi (True.intro))) (fun hg => opp_loadF rfl rfl ty3) ?_
  refine sG _ rfl rfl rfl rfl (fun hg => (And.intro gi (And.intro gi (True.intro)))) (fun hg => opp_cmp rfl rfl rfl rfl) ?_
  refine sPickG _ rfl rfl rfl rfl rfl rfl (fun hg => by first | exact True.intro | exact And.intro hg True.intro | (refine And.intro ?_ True.intro; simp_all; done)) rfl rfl (fun h0 hg => g2) (fun h0 hg => g2) ?_
  refine sPick rfl rfl rfl rfl (by exact True.intro) rfl rfl (fun hg => gi) (fun hg => gi) ?_
  refine sP (opp_mv (v := .bool _) rfl rfl) rfl rfl ?_
  first
    | refine sG _ rfl rfl rfl rfl (fun hg => (And.intro gi (True.intro))) (fun hg => opp_fieldP rfl rfl fld74_2 rfl) ?_
    | refine sG _ rfl rfl rfl rfl (fun hg => (And.intro gi (True.intro))) (fun hg => opp_fieldF rfl rfl rfl fld74_2 rfl rfl) ?_
  first
    | refine sG _ rfl rfl rfl rfl (fun hg => (And.intro gi (True.intro))) (fun hg => opp_loadP rfl rfl rfl rfl bi rfl ty3) ?_
    | refine sG _ rfl rfl rfl rfl (fun hg => (And.intro gi (True.intro))) (fun hg => opp_loadF rfl rfl ty3) ?_
  refine sG _ rfl rfl rfl rfl (fun hg => (And.intro gi (And.intro gi (True.intro)))) (fun hg => opp_cmp rfl rfl rfl rfl) ?_
  refine sPick rfl rfl rfl rfl (by exact True.intro) rfl rfl (fun hg => gi) (fun hg => gi) ?_
  refine sP (opp_mv (v := .bool _) rfl rfl) rfl rfl ?_
  first
    | refine sG _ rfl rfl rfl rfl (fun hg => (And.intro gi (True.intro))) (fun hg => opp_fieldP rfl rfl fld74_2 rfl) ?_
    | refine sG _ rfl rfl rfl rfl (fun hg => (And.intro gi (True.intro))) (fun hg => opp_fieldF rfl rfl rfl fld74_2 rfl rfl) ?_
  first
    | refine sG _ rfl rfl rfl rfl (fun hg => (And.intro gi (True.intro))) (fun hg => opp_loadP rfl rfl rfl rfl bi rfl ty3) ?_
    | refine sG _ rfl rfl rfl rfl (fun hg => (And.intro gi (True.intro))) (fun hg => opp_loadF rfl rfl ty3) ?_
  refine sG _ rfl rfl rfl rfl (fun hg => (And.intro gi (And.intro gi (True.intro)))) (fun hg => opp_cmp rfl rfl rfl rfl) ?_
  refine sPick rfl rfl rfl rfl (by exact True.intro) rfl rfl (fun hg => gi) (fun hg => gi) ?_
  refine sP (opp_mv (v := .bool _) rfl rfl) rfl rfl ?_
  first
    | refine sG _ rfl rfl rfl rfl (fun hg => (And.intro gi (True.intro))) (fun hg => opp_fieldP rfl rfl fld74_4 rfl) ?_
    | refine sG _ rfl rfl rfl rfl (fun hg => (And.intro gi (True.intro))) (fun hg => opp_fieldF rfl rfl rfl fld74_4 rfl rfl) ?_
  first
    | refine sG _ rfl rfl rfl rfl (fun hg => (And.intro gi (True.intro))) (fun hg => opp_loadP rfl rfl rfl rfl bi rfl ty51) ?_
    | refine sG _ rfl rfl rfl rfl (fun hg => (And.intro gi (True.intro))) (fun hg => opp_loadF rfl rfl ty51) ?_
  first
    | refine sG _ rfl rfl rfl rfl (fun hg => (And.intro gi (True.intro))) (fun hg => opp_lenSl rfl rfl un51) ?_
    | refine sG _ rfl rfl rfl rfl (fun hg => (And.intro gi (True.intro))) (fun hg => opp_lenOsl rfl rfl un51) ?_
  first
    | refine sG _ rfl rfl rfl rfl (fun hg => (And.intro gi (True.intro))) (fun hg => opp_fieldP rfl rfl fld74_2 rfl) ?_
    | refine sG _ rfl rfl rfl rfl (fun hg => (And.intro gi (True.intro))) (fun hg => opp_fieldF rfl rfl rfl fld74_2 rfl rfl) ?_
  first
    | refine sG _ rfl rfl rfl rfl (fun hg => (And.intro gi (True.intro))) (fun hg => opp_loadP rfl rfl rfl rfl bi rfl ty3) ?_
    | refine sG _ rfl rfl rfl rfl (fun hg => (And.intro gi (True.intro))) (fun hg => opp_loadF rfl rfl ty3) ?_
  refine sG _ rfl rfl rfl rfl (fun hg => (And.intro gi (And.intro gi (True.intro)))) (fun hg => opp_cmp rfl rfl rfl rfl) ?_
  refine sPick rfl rfl rfl rfl (by exact True.intro) rfl rfl (fun hg => gi) (fun hg => gi) ?_
  refine awp_cond _ rfl (fun hc3 => ?_) (fun hc3 => ?_)
  · (try simp only [cmpI, errD_nil, Bool.not_eq_true', Bool.not_eq_false', decide_eq_true_eq, decide_eq_false_iff_not] at hc3); have ht41 := hc3
    refine awp_seq ?_
    refine awp_region rfl ?_
    refine sP (opp_as (v := .bool _) rfl rfl) rfl rfl ?_
    refine awp_ret ?_
    repeat (first | refine athen_ret ?_ | refine ain_ret ?_)
    first
      | refine apost_ret (aend1 (r0 := .bool _) (.tmp .nil) (.noN rfl rfl) ⟨Wk.v ?_, rfl, rfl⟩)
      | refine apost_ret (aend1s (r0 := .bool _) (.tmp .nil) shut rfl ⟨Wk.v ?_, rfl, rfl⟩)
    refine .of (congrArg AV.bool ?_)
    symm; cases hq : Sp.goodS s with
    | false => rfl
    | true =>
      exfalso; simp only [Sp.goodS, Bool.and_eq_true, decide_eq_true_eq, Sp.goodStage, Sp.within, Bool.or_eq_true] at hq
      obtain ⟨⟨⟨⟨⟨q1, q2⟩, q3⟩, q4⟩, q5⟩, -⟩ := hq
      revert ht41; rw [q1, q2]; by_cases h1 : s.stage = 1 <;> by_cases h2 : s.stage = 2 <;> simp [cmpI, h1, h2] <;> intros <;> omega
  · (try simp only [cmpI, errD_nil, Bool.not_eq_true', Bool.not_eq_false', decide_eq_true_eq, decide_eq_false_iff_not] at hc3); have ht41 := hc3
    refine awp_skip ?_
    refine awp_seq ?_
    refine awp_seq ?_
    have hg : (((Sp.goodPart s.part = true ∧ Sp.goodXid s.xid = true) ∧ Sp.goodStage s.stage = true) ∧ Sp.within s.total 1 32 = true) ∧ (s.pieces.length : Int) = s.total := by
      revert ht41; simp only [Sp.goodStage, Sp.within]; cases Sp.goodPart s.part <;> cases Sp.goodXid s.xid <;> by_cases h1 : s.stage = 1 <;> by_cases h2 : s.stage = 2 <;> by_cases h3 : s.total < 1 <;> by_cases h4 : 32 < s.total <;> by_cases h5 : (s.pieces.length : Int) = s.total <;> simp [cmpI, h1, h2, h3, h4, h5] <;> omega
    have hw : 1 ≤ s.total ∧ s.total ≤ 32 := by simpa [Sp.within] using hg.1.2
    have hlt := hg.2
    refine awp_region rfl ?_
    refine sP (opp_as (v := .int _ _) rfl rfl) rfl rfl ?_
    refine awp_block ?_
    refine awp_loopK (ι := Nat) (fun i => i ≤ s.pieces.length ∧ ∀ j, j < i → s.pieces.getD j [] = [] ∨ Sp.goodLen (s.pieces.getD j []).length j s.total = true) (fun i => [(2, .top), (3, .int .i64 i), (42, .top), (43, .top), (44, .top), (45, .top), (46, .top), (47, .top), (48, .top), (49, .top), (50, .top), (51, .top), (52, .top), (53, .top), (54, .top), (55, .top), (56, .top), (57, .top), (58, .top), (59, .top), (60, .top), (61, .top), (62, .top), (63, .top), (64, .top), (65, .top), (66, .top)]) (fun i => []) [] (fun i => s.pieces.length - i) (0) (⟨Nat.zero_le _, fun j hj => absurd hj (by omega)⟩) (by
      refine imp_over [] rfl rfl (by kernel_rfl) ?_ ?_
      · refine And.intro wkv ?_
        refine And.intro wkv ?_
        refine And.intro wkv ?_
        refine And.intro wkv ?_
        refine And.intro wkv ?_
        refine And.intro wkv ?_
        refine And.intro wkv ?_
        refine And.intro wkv ?_
        refine And.intro wkv ?_
        refine And.intro wkv ?_
        refine And.intro wkv ?_
        refine And.intro wkv ?_
        refine And.intro wkv ?_
        refine And.intro wkv ?_
        refine And.intro wkv ?_
        refine And.intro wkv ?_
        refine And.intro wkv ?_
        refine And.intro wkv ?_
        refine And.intro wkv ?_
        refine And.intro wkv ?_
        refine And.intro wkv ?_
        refine And.intro wkv ?_
        refine And.intro wkv ?_
        refine And.intro wkv ?_
        refine And.intro wkv ?_
        refine And.intro wkv ?_
        refine And.intro wkv ?_
        exact True.intro
      · exact True.intro
      ) ?_
    intro i hi1
    refine awp_seq ?_
    refine awp_seq ?_
    refine awp_region rfl ?_
    refine sP (opp_mv (v := .int _ _) rfl rfl) rfl rfl ?_
    first
      | refine sP (opp_fieldP rfl rfl fld74_2 rfl) rfl rfl ?_
      | refine sP (opp_fieldF rfl rfl rfl fld74_2 rfl rfl) rfl rfl ?_
    first
      | refine sP (opp_loadP rfl rfl rfl rfl bi rfl ty3) rfl rfl ?_
      | refine sP (opp_loadF rfl rfl ty3) rfl rfl ?_
    refine sP (opp_cmp rfl rfl rfl rfl) rfl rfl ?_
    refine awp_cond _ rfl (fun hc7 => ?_) (fun hc7 => ?_)
    · (try simp only [cmpI, errD_nil, Bool.not_eq_true', Bool.not_eq_false', decide_eq_true_eq, decide_eq_false_iff_not] at hc7); have ht45 := hc7
      refine awp_skip ?_
      refine awp_seq ?_
      refine awp_block ?_
      refine awp_seq ?_
      refine awp_draw hmix rfl (by kernel_rfl) ?_
      first
        | refine dP (fun _ => false) (opp_fieldP rfl rfl fld74_4 rfl) rfl rfl ?_
        | refine dP (fun _ => false) (opp_fieldF rfl rfl rfl fld74_4 rfl rfl) rfl rfl ?_
      first
        | refine dP (fun n => Nat.beq n 1) (opp_loadP rfl rfl rfl rfl bi rfl ty51) rfl rfl ?_
        | refine dP (fun n => Nat.beq n 1) (opp_loadF rfl rfl ty51) rfl rfl ?_
      refine dP (fun _ => false) (opp_mv (v := .int _ _) rfl rfl) rfl rfl ?_
      first
        | refine dP (fun _ => false) (opp_indexSl rfl rfl rfl el51 (by omega) (by omega)) rfl rfl ?_
        | refine dP (fun _ => false) (opp_indexOsl0 rfl rfl rfl el51 (by omega) (by omega)) rfl rfl ?_
        | refine dP (fun _ => false) (opp_indexOsl rfl rfl rfl el51 (by omega) (by omega)) rfl rfl ?_
      first
        | refine dP (fun n => !([] : List Nat).contains n) (opp_loadP rfl rfl rfl rfl bi rfl ty9) rfl rfl ?_
        | refine dP (fun n => !([] : List Nat).contains n) (opp_loadF rfl rfl ty9) rfl rfl ?_
      refine dP (fun _ => false) (opp_strEq (b := []) rfl rfl rfl (.inr ⟨rfl, rfl⟩)) rfl rfl ?_
      refine dP (fun _ => false) (opp_mv (v := .bool _) rfl rfl) rfl rfl ?_
      refine dG _ (fun _ => false) rfl rfl rfl rfl (fun hg => (And.intro gi (True.intro))) (fun hg => opp_mv (v := .int _ _) rfl rfl) ?_
      first
        | refine dG _ (fun _ => false) rfl rfl rfl rfl (fun hg => (And.intro gi (True.intro))) (fun hg => opp_fieldP rfl rfl fld74_2 rfl) ?_
        | refine dG _ (fun _ => false) rfl rfl rfl rfl (fun hg => (And.intro gi (True.intro))) (fun hg => opp_fieldF rfl rfl rfl fld74_2 rfl rfl) ?_
      first
        | refine dG _ (fun n => Nat.beq n 1) rfl rfl rfl rfl (fun hg => (And.intro gi (True.intro))) (fun hg => opp_loadP rfl rfl rfl rfl bi rfl ty3) ?_
        | refine dG _ (fun n => Nat.beq n 1) rfl rfl rfl rfl (fun hg => (And.intro gi (True.intro))) (fun hg => opp_loadF rfl rfl ty3) ?_
      first
        | refine dG _ (fun _ => false) rfl rfl rfl rfl (fun hg => (And.intro gi (True.intro))) (fun hg => opp_fieldP rfl rfl fld74_4 rfl) ?_
        | refine dG _ (fun _ => false) rfl rfl rfl rfl (fun hg => (And.intro gi (True.intro))) (fun hg => opp_fieldF rfl rfl rfl fld74_4 rfl rfl) ?_
      first
        | refine dG _ (fun n => Nat.beq n 1) rfl rfl rfl rfl (fun hg => (And.intro gi (True.intro))) (fun hg => opp_loadP rfl rfl rfl rfl bi rfl ty51) ?_
        | refine dG _ (fun n => Nat.beq n 1) rfl rfl rfl rfl (fun hg => (And.intro gi (True.intro))) (fun hg => opp_loadF rfl rfl ty51) ?_
      refine dG _ (fun _ => false) rfl rfl rfl rfl (fun hg => (And.intro gi (True.intro))) (fun hg => opp_mv (v := .int _ _) rfl rfl) ?_
      first
        | refine dG _ (fun _ => false) rfl rfl rfl rfl (fun hg => (And.intro gi (And.intro gi (True.intro)))) (fun hg => opp_indexSl rfl rfl rfl el51 (by omega) (by omega)) ?_
        | refine dG _ (fun _ => false) rfl rfl rfl rfl (fun hg => (And.intro gi (And.intro gi (True.intro)))) (fun hg => opp_indexOsl0 rfl rfl rfl el51 (by omega) (by omega)) ?_
        | refine dG _ (fun _ => false) rfl rfl rfl rfl (fun hg => (And.intro gi (And.intro gi (True.intro)))) (fun hg => opp_indexOsl rfl rfl rfl el51 (by omega) (by omega)) ?_
      first
        | refine dG _ (fun n => !([] : List Nat).contains n) rfl rfl rfl rfl (fun hg => (And.intro gi (True.intro))) (fun hg => opp_loadP rfl rfl rfl rfl bi rfl ty9) ?_
        | refine dG _ (fun n => !([] : List Nat).contains n) rfl rfl rfl rfl (fun hg => (And.intro gi (True.intro))) (fun hg => opp_loadF rfl rfl ty9) ?_
      refine dG _ (fun n => !([] : List Nat).contains n) rfl rfl rfl rfl (fun hg => (And.intro gi (True.intro))) (fun hg => opp_lenStr rfl rfl un9) ?_
      refine dGR _ (fun n => !([] : List Nat).contains n) rfl rfl rfl rfl (fun hg => (And.intro gi (And.intro gi (And.intro gi (And.intro gi (True.intro)))))) (fun hg => (opr_call rfl rfl ent116 rfl (c116 _ _ _) (AViews.refl _ rfl))) ?_
      refine dG _ (fun _ => false) rfl rfl rfl rfl (fun hg => (And.intro gi (True.intro))) (fun hg => opp_not rfl rfl) ?_
      refine dPick (fun _ => false) rfl rfl rfl rfl (by exact True.intro) rfl rfl (fun hg => gi) (fun hg => gi) ?_
      refine And.intro (by kernel_rfl) ?_
      refine awp_cond _ rfl (fun hc9 => ?_) (fun hc9 => ?_)
      · (try simp only [cmpI, errD_nil, Bool.not_eq_true', Bool.not_eq_false', decide_eq_true_eq, decide_eq_false_iff_not] at hc9); have ht66 := hc9
        refine awp_seq ?_
        refine awp_region rfl ?_
        refine sP (opp_as (v := .bool _) rfl rfl) rfl rfl ?_
        refine awp_ret ?_
        repeat (first | refine athen_ret ?_ | refine ain_ret ?_)
        first
          | refine apost_ret (aend1 (r0 := .bool _) (.tmp .nil) (.noN rfl rfl) ⟨Wk.v ?_, rfl, rfl⟩)
          | refine apost_ret (aend1s (r0 := .bool _) (.tmp .nil) shut rfl ⟨Wk.v ?_, rfl, rfl⟩)
        refine .of (congrArg AV.bool ?_)
        symm; cases hq : Sp.goodS s with
        | false => rfl
        | true =>
          simp only [Sp.goodS, Bool.and_eq_true, List.all_eq_true, List.mem_range] at hq
          have := hq.2 i (by omega)
          rw [Int.toNat_natCast, Sp.goodLenW_eq _ _ _ hg.1.2] at ht66
          generalize s.pieces.getD i [] = y at ht66 this
          simp only [Bool.or_eq_true, decide_eq_true_eq] at this
          rcases this with h | h <;> simp [h] at ht66
      · (try simp only [cmpI, errD_nil, Bool.not_eq_true', Bool.not_eq_false', decide_eq_true_eq, decide_eq_false_iff_not] at hc9); have ht66 := hc9
        refine awp_skip ?_
        refine awp_region rfl ?_
        refine sP (opp_mv (v := .int _ _) rfl rfl) rfl rfl ?_
        first
          | refine sP (opp_arith rfl rfl rfl (.inl ⟨rfl, w64 (by omega)⟩)) rfl rfl ?_
          | refine sP (opp_arith rfl rfl rfl (.inl ⟨rfl, rfl⟩)) rfl rfl ?_
        refine sP (opp_as (v := .int _ _) rfl rfl) rfl rfl ?_
        have hnx : ∀ j, j < i + 1 → s.pieces.getD j [] = [] ∨ Sp.goodLen (s.pieces.getD j []).length j s.total = true := by
          intro j hj
          by_cases e : j = i
          · subst e
            simp only [Int.toNat_natCast, Sp.goodLenW_eq _ _ _ hg.1.2] at ht66
            by_cases e2 : s.pieces.getD j [] = []
            · exact .inl e2
            · right; simp only [e2, decide_false, Bool.not_false, cond_true, Bool.not_eq_false'] at ht66; exact ht66
          · exact hi1.2 j (by omega)
        refine Exists.intro (i + 1) (And.intro (And.intro (⟨by show i + 1 ≤ s.pieces.length; omega, hnx⟩) (by omega)) (by
          refine imp_over [] rfl rfl (by kernel_rfl) ?_ ?_
          · refine And.intro wkv ?_
            refine And.intro wkv ?_
            refine And.intro wkv ?_
            refine And.intro wkv ?_
            refine And.intro wkv ?_
            refine And.intro wkv ?_
            refine And.intro wkv ?_
            refine And.intro wkv ?_
            refine And.intro wkv ?_
            refine And.intro wkv ?_
            refine And.intro wkv ?_
            refine And.intro wkv ?_
            refine And.intro wkv ?_
            refine And.intro wkv ?_
            refine And.intro wkv ?_
            refine And.intro wkv ?_
            refine And.intro wkv ?_
            refine And.intro wkv ?_
            refine And.intro wkv ?_
            refine And.intro wkv ?_
            refine And.intro wkv ?_
            refine And.intro wkv ?_
            refine And.intro wkv ?_
            refine And.intro wkv ?_
            refine And.intro wkv ?_
            refine And.intro wkv ?_
            refine And.intro wkv ?_
            exact True.intro
          · exact True.intro
          ))
    · (try simp only [cmpI, errD_nil, Bool.not_eq_true', Bool.not_eq_false', decide_eq_true_eq, decide_eq_false_iff_not] at hc7); have ht45 := hc7
      refine awp_exit ?_
      refine awp_seq ?_
      refine awp_region rfl ?_
      refine sP (opp_as (v := .bool _) rfl rfl) rfl rfl ?_
      refine awp_ret ?_
      repeat (first | refine athen_ret ?_ | refine ain_ret ?_)
      first
        | refine apost_ret (aend1 (r0 := .bool _) (.tmp .nil) (.noN rfl rfl) ⟨Wk.v ?_, rfl, rfl⟩)
        | refine apost_ret (aend1s (r0 := .bool _) (.tmp .nil) shut rfl ⟨Wk.v ?_, rfl, rfl⟩)
      refine .of (congrArg AV.bool ?_)
      have : i = s.pieces.length := by omega
      subst this
      symm; simp only [Sp.goodS, hg, Bool.and_eq_true, List.all_eq_true, List.mem_range, decide_eq_true_eq, Bool.or_eq_true, true_and]
      exact fun j hj => hi1.2 j hj
theorem c121 (b : Bool) (s : Stage) : APure (V ea cds gl) 121 [stageAV b s] false (.tup [.sl 1 (decide ((Sp.missing s).1 = [])) (Sp.missing s).1.length (fun j => .int .i64 ((Sp.missing s).1.getD j 0)), .int .i64 ((Sp.missing s).2 : Nat)]) := by
  refine acalls_of_body (N := 26) Tryd.func121 rfl rfl (Nat.le_of_ble_eq_true rfl) fun C hV hN hM hO => ?_
  obtain ⟨_, _, w0, G0, σ0, _, own0⟩ := C; dsimp only at hV hN hM hO; subst hV; subst hN; subst hM
  refine awp_seq ?_
  refine awp_region rfl ?_
  refine sR (opr_box (y := .agg _) (n := 1) rfl rfl rfl) rfl rfl rfl ?_
  first
    | refine sP (opp_as (v := .sl _ _ _ _) rfl rfl) rfl rfl ?_
    | refine sP (opp_as (v := .osl _ _ _ _ _) rfl rfl) rfl rfl ?_
  refine sP (opp_as (v := .int _ _) rfl rfl) rfl rfl ?_
  refine awp_seq ?_
  refine awp_seq ?_
  refine awp_region rfl ?_
  first
    | refine sP (opp_loadP rfl rfl rfl rfl bi rfl ty74) rfl rfl ?_
    | refine sP (opp_loadF rfl rfl ty74) rfl rfl ?_
  refine sR (opr_call rfl rfl ent123 rfl (c123 b s) (AViews.refl _ rfl)) rfl rfl rfl ?_ -- d=7 t=4
  refine sP (opp_not rfl rfl) rfl rfl ?_
  refine awp_cond _ rfl (fun hc3 => ?_) (fun hc3 => ?_)
  · (try simp only [cmpI, errD_nil, Bool.not_eq_true', Bool.not_eq_false', decide_eq_true_eq, decide_eq_false_iff_not] at hc3); have ht8 := hc3
    refine awp_seq ?_
    refine awp_region rfl ?_
    first
      | refine sP (opp_as (v := .sl _ _ _ _) rfl rfl) rfl rfl ?_
      | refine sP (opp_as (v := .osl _ _ _ _ _) rfl rfl) rfl rfl ?_
    refine sP (opp_as (v := .int _ _) rfl rfl) rfl rfl ?_
    refine awp_ret ?_
    repeat (first | refine athen_ret ?_ | refine ain_ret ?_)
    first
      | refine apost_ret (aend (l := [.sl _ _ _ _, .int _ _]) (.tmp (.tmp .nil)) (fun h => by cases h) (.cons (.noN rfl rfl) (.cons (.noN rfl rfl) .nil)) ⟨Wk.v ?_, rfl, rfl⟩)
      | refine apost_ret (aends (l := [.sl _ _ _ _, .int _ _]) (.tmp (.tmp .nil)) (fun h => by cases h) (.cons shut (fun h => by cases h) (.cons shut (fun h => by cases h) .nil)) rfl ⟨Wk.v ?_, rfl, rfl⟩)
      | refine apost_ret (aend (l := [.osl _ _ _ _ _, .int _ _]) (.tmp (.tmp .nil)) (fun h => by cases h) (.cons (.noN rfl rfl) (.cons (.noN rfl rfl) .nil)) ⟨Wk.v ?_, rfl, rfl⟩)
      | refine apost_ret (aends (l := [.osl _ _ _ _ _, .int _ _]) (.tmp (.tmp .nil)) (fun h => by cases h) (.cons shut (fun h => by cases h) (.cons shut (fun h => by cases h) .nil)) rfl ⟨Wk.v ?_, rfl, rfl⟩)
    rw [show Sp.missing s = ([], 9) by simp [Sp.missing, show Sp.goodS s = false by simpa using ht8]]; show Wk _ (.tup [.sl 1 true 0 _, .int .i64 9]); (repeat' (first | exact Wk.refl | exact Wk.sl0 | apply Wk.tup | apply Wk.agg | apply WkL.cons | exact WkL.nil | refine Wk.sl (fun _ _ => ?_)))
  · (try simp only [cmpI, errD_nil, Bool.not_eq_true', Bool.not_eq_false', decide_eq_true_eq, decide_eq_false_iff_not] at hc3); have ht8 := hc3
    refine awp_skip ?_
    refine awp_seq ?_
    have hgs : Sp.goodS s = true := by simpa using ht8
    have hgb := Sp.goodS_bounds hgs
    refine awp_region rfl ?_
    first
      | refine sP (opp_as (v := .sl _ _ _ _) rfl rfl) rfl rfl ?_
      | refine sP (opp_as (v := .osl _ _ _ _ _) rfl rfl) rfl rfl ?_
    refine awp_seq ?_
    refine awp_seq ?_
    refine awp_region rfl ?_
    refine sP (opp_as (v := .int _ _) rfl rfl) rfl rfl ?_
    refine awp_block ?_
    refine awp_loopK (ι := Nat × Bool) (fun p => p.1 ≤ s.pieces.length ∧ (p.2 = true ↔ (Sp.gone s p.1) = [])) (fun p => [(4, cond p.2 (.sl 1 true 0 (fun _ => .top)) (.osl 1004 1 0 (Sp.gone s p.1).length (Sp.gone s p.1).length)), (5, .int .i64 p.1), (9, .top), (10, .top), (11, .top), (12, .top), (13, .top), (14, .top), (15, .top), (16, .top), (17, .top), (18, .top), (19, .top), (20, .top), (21, .top), (22, .top), (23, .top), (24, .top)]) (fun p => [(1004, cond p.2 none (some (.arr 1 (Sp.gone s p.1).length (fun j => .int .i64 ((Sp.gone s p.1).getD j 0)))))]) [1004] (fun p => s.pieces.length - p.1) ((0, true)) (⟨Nat.zero_le _, by simp [Sp.gone]⟩) (by
      refine imp_over [] rfl rfl (by kernel_rfl) ?_ ?_
      · refine And.intro wkv ?_
        refine And.intro wkv ?_
        refine And.intro wkv ?_
        refine And.intro wkv ?_
        refine And.intro wkv ?_
        refine And.intro wkv ?_
        refine And.intro wkv ?_
        refine And.intro wkv ?_
        refine And.intro wkv ?_
        refine And.intro wkv ?_
        refine And.intro wkv ?_
        refine And.intro wkv ?_
        refine And.intro wkv ?_
        refine And.intro wkv ?_
        refine And.intro wkv ?_
        refine And.intro wkv ?_
        refine And.intro wkv ?_
        refine And.intro wkv ?_
        exact True.intro
      · exact True.intro
      ) ?_
    intro p hi1; obtain ⟨i, e⟩ := p; rcases e with _ | _
    · dsimp only [cond] at hi1 ⊢
      refine awp_seq ?_
      refine awp_seq ?_
      refine awp_region rfl ?_
      refine sP (opp_mv (v := .int _ _) rfl rfl) rfl rfl ?_
      first
        | refine sP (opp_fieldP rfl rfl fld74_2 rfl) rfl rfl ?_
        | refine sP (opp_fieldF rfl rfl rfl fld74_2 rfl rfl) rfl rfl ?_
      first
        | refine sP (opp_loadP rfl rfl rfl rfl bi rfl ty3) rfl rfl ?_
        | refine sP (opp_loadF rfl rfl ty3) rfl rfl ?_
      refine sP (opp_cmp rfl rfl rfl rfl) rfl rfl ?_
      refine awp_cond _ rfl (fun hc8 => ?_) (fun hc8 => ?_)
      · (try simp only [cmpI, errD_nil, Bool.not_eq_true', Bool.not_eq_false', decide_eq_true_eq, decide_eq_false_iff_not] at hc8); have ht12 := hc8
        refine awp_skip ?_
        refine awp_seq ?_
        refine awp_block ?_
        refine awp_seq ?_
        refine awp_region rfl ?_
        first
          | refine sP (opp_fieldP rfl rfl fld74_4 rfl) rfl rfl ?_
          | refine sP (opp_fieldF rfl rfl rfl fld74_4 rfl rfl) rfl rfl ?_
        first
          | refine sP (opp_loadP rfl rfl rfl rfl bi rfl ty51) rfl rfl ?_
          | refine sP (opp_loadF rfl rfl ty51) rfl rfl ?_
        refine sP (opp_mv (v := .int _ _) rfl rfl) rfl rfl ?_
        first
          | refine sP (opp_indexSl rfl rfl rfl el51 (by omega) (by omega)) rfl rfl ?_
          | refine sP (opp_indexOsl0 rfl rfl rfl el51 (by omega) (by omega)) rfl rfl ?_
          | refine sP (opp_indexOsl rfl rfl rfl el51 (by omega) (by omega)) rfl rfl ?_
        first
          | refine sP (opp_loadP rfl rfl rfl rfl bi rfl ty9) rfl rfl ?_
          | refine sP (opp_loadF rfl rfl ty9) rfl rfl ?_
        refine sP (opp_strEq (b := []) rfl rfl rfl (.inl ⟨rfl, rfl⟩)) rfl rfl ?_
        refine awp_cond _ rfl (fun hc10 => ?_) (fun hc10 => ?_)
        · (try simp only [cmpI, errD_nil, Bool.not_eq_true', Bool.not_eq_false', decide_eq_true_eq, decide_eq_false_iff_not] at hc10); have ht20 := hc10
          have hgl := Sp.gone_len s i
          refine awp_region rfl ?_
          first
            | refine sP (opp_mv (v := .sl _ _ _ _) rfl rfl) rfl rfl ?_
            | refine sP (opp_mv (v := .osl _ _ _ _ _) rfl rfl) rfl rfl ?_
          refine sP (opp_mv (v := .int _ _) rfl rfl) rfl rfl ?_
          refine sR (opr_buildSlice (n := 23) (g := fun j => if j = 0 then .int _ _ else .int .i64 0) rfl eb42 z3 (by decide) rfl rfl) rfl rfl rfl ?_
          first
            | refine sR (opr_append (d := 24) rfl rfl rfl (by omega) (.osl0 rfl (by omega)) eb42 z3 (by omega) (by omega)) rfl rfl rfl ?_
            | refine sR (opr_append (d := 24) rfl rfl rfl (by omega) .sl eb42 z3 (by omega) (by omega)) rfl rfl rfl ?_
            | refine sR (opr_append (d := 24) rfl rfl rfl (by omega) (.osl rfl (by omega) (fun _ _ => rfl)) eb42 z3 (by omega) (by omega)) rfl rfl rfl ?_
            | refine sR (opr_appendNil (d := 24) rfl rfl (.osl0 rfl (by omega)) eb42 z3 (by omega) (by omega) (by omega)) rfl rfl rfl ?_
            | refine sR (opr_appendNil (d := 24) rfl rfl .sl eb42 z3 (by omega) (by omega) (by omega)) rfl rfl rfl ?_
            | refine sR (opr_appendNil (d := 24) rfl rfl (.osl rfl (by omega) (fun _ _ => rfl)) eb42 z3 (by omega) (by omega) (by omega)) rfl rfl rfl ?_
          first
            | refine sP (opp_as (v := .sl _ _ _ _) rfl rfl) rfl rfl ?_
            | refine sP (opp_as (v := .osl _ _ _ _ _) rfl rfl) rfl rfl ?_
          refine awp_region rfl ?_
          refine sP (opp_mv (v := .int _ _) rfl rfl) rfl rfl ?_
          first
            | refine sP (opp_arith rfl rfl rfl (.inl ⟨rfl, w64 (by omega)⟩)) rfl rfl ?_
            | refine sP (opp_arith rfl rfl rfl (.inl ⟨rfl, rfl⟩)) rfl rfl ?_
          refine sP (opp_as (v := .int _ _) rfl rfl) rfl rfl ?_
          have hs1 : Sp.gone s (i + 1) = Sp.gone s i ++ [(i : Int)] := by rw [Sp.gone_succ, if_pos (by simpa using ht20)]
          refine Exists.intro ((i + 1, false)) (And.intro (And.intro (And.intro (by show i + 1 ≤ s.pieces.length; omega) (by rw [hs1]; simp)) (by omega)) (by
            refine imp_over [(1004, 24)] rfl rfl (by kernel_rfl) ?_ ?_
            · refine And.intro (by exact Or.inr (And.intro rfl (WkV.of (by show AV.osl 24 1 0 _ _ = AV.osl 24 1 0 _ _; rw [hs1]; simp)))) ?_
              refine And.intro wkv ?_
              refine And.intro wkv ?_
              refine And.intro wkv ?_
              refine And.intro wkv ?_
              refine And.intro wkv ?_
              refine And.intro wkv ?_
              refine And.intro wkv ?_
              refine And.intro wkv ?_
              refine And.intro wkv ?_
              refine And.intro wkv ?_
              refine And.intro wkv ?_
              refine And.intro wkv ?_
              refine And.intro wkv ?_
              refine And.intro wkv ?_
              refine And.intro wkv ?_
              refine And.intro wkv ?_
              refine And.intro wkv ?_
              exact True.intro
            · refine And.intro (And.intro rfl (And.intro rfl (Exists.intro _ (And.intro rfl (by show WkC (AV.arr 1 _ _) (AV.arr 1 _ _); rw [hs1, List.length_append]; exact WkC.arr (fun j hj => by exact Sp.int_append _ _ j (by simpa using hj))))))) ?_
              exact True.intro
            ))
        · (try simp only [cmpI, errD_nil, Bool.not_eq_true', Bool.not_eq_false', decide_eq_true_eq, decide_eq_false_iff_not] at hc10); have ht20 := hc10
          refine awp_skip ?_
          refine awp_region rfl ?_
          refine sP (opp_mv (v := .int _ _) rfl rfl) rfl rfl ?_
          first
            | refine sP (opp_arith rfl rfl rfl (.inl ⟨rfl, w64 (by omega)⟩)) rfl rfl ?_
            | refine sP (opp_arith rfl rfl rfl (.inl ⟨rfl, rfl⟩)) rfl rfl ?_
          refine sP (opp_as (v := .int _ _) rfl rfl) rfl rfl ?_
          have hs1 : Sp.gone s (i + 1) = Sp.gone s i := by rw [Sp.gone_succ, if_neg (by simpa using ht20)]
          refine Exists.intro ((i + 1, false)) (And.intro (And.intro (And.intro (by show i + 1 ≤ s.pieces.length; omega) (by rw [hs1]; exact hi1.2)) (by omega)) (by
            refine imp_over [] rfl rfl (by kernel_rfl) ?_ ?_
            · refine And.intro (by rw [hs1]; exact Or.inr (And.intro rfl (WkV.refl _))) ?_
              refine And.intro wkv ?_
              refine And.intro wkv ?_
              refine And.intro wkv ?_
              refine And.intro wkv ?_
              refine And.intro wkv ?_
              refine And.intro wkv ?_
              refine And.intro wkv ?_
              refine And.intro wkv ?_
              refine And.intro wkv ?_
              refine And.intro wkv ?_
              refine And.intro wkv ?_
              refine And.intro wkv ?_
              refine And.intro wkv ?_
              refine And.intro wkv ?_
              refine And.intro wkv ?_
              refine And.intro wkv ?_
              refine And.intro wkv ?_
              exact True.intro
            · refine And.intro (And.intro rfl (And.intro rfl (Exists.intro _ (And.intro rfl (by rw [hs1]; exact WkC.refl _))))) ?_
              exact True.intro
            ))
      · (try simp only [cmpI, errD_nil, Bool.not_eq_true', Bool.not_eq_false', decide_eq_true_eq, decide_eq_false_iff_not] at hc8); have ht12 := hc8
        refine awp_exit ?_
        refine awp_seq ?_
        refine awp_region rfl ?_
        first
          | refine sP (opp_mv (v := .sl _ _ _ _) rfl rfl) rfl rfl ?_
          | refine sP (opp_mv (v := .osl _ _ _ _ _) rfl rfl) rfl rfl ?_
        first
          | refine sP (opp_as (v := .sl _ _ _ _) rfl rfl) rfl rfl ?_
          | refine sP (opp_as (v := .osl _ _ _ _ _) rfl rfl) rfl rfl ?_
        refine sP (opp_as (v := .int _ _) rfl rfl) rfl rfl ?_
        refine awp_ret ?_
        repeat (first | refine athen_ret ?_ | refine ain_ret ?_)
        first
          | refine apost_ret (aend (l := [.sl _ _ _ _, .int _ _]) (.tmp (.tmp .nil)) (fun h => by cases h) (.cons (.noN rfl rfl) (.cons (.noN rfl rfl) .nil)) ⟨Wk.v ?_, rfl, rfl⟩)
          | refine apost_ret (aends (l := [.sl _ _ _ _, .int _ _]) (.tmp (.tmp .nil)) (fun h => by cases h) (.cons shut (fun h => by cases h) (.cons shut (fun h => by cases h) .nil)) rfl ⟨Wk.v ?_, rfl, rfl⟩)
          | refine apost_ret (aend (l := [.osl _ _ _ _ _, .int _ _]) (.tmp (.tmp .nil)) (fun h => by cases h) (.cons (.noN rfl rfl) (.cons (.noN rfl rfl) .nil)) ⟨Wk.v ?_, rfl, rfl⟩)
          | refine apost_ret (aends (l := [.osl _ _ _ _ _, .int _ _]) (.tmp (.tmp .nil)) (fun h => by cases h) (.cons shut (fun h => by cases h) (.cons shut (fun h => by cases h) .nil)) rfl ⟨Wk.v ?_, rfl, rfl⟩)
        have hi2 : i = s.pieces.length := by omega
        subst hi2
        have hne : Sp.gone s s.pieces.length ≠ [] := fun h => by have := hi1.2.2 h; cases this
        rw [show Sp.missing s = (Sp.gone s s.pieces.length, 0) by simp [Sp.missing, hgs, Sp.gone]]
        simp only [decide_eq_false hne]; (repeat' (first | exact Wk.refl | exact Wk.sl0 | apply Wk.tup | apply Wk.agg | apply WkL.cons | exact WkL.nil | refine Wk.sl (fun _ _ => ?_)))
    · dsimp only [cond] at hi1 ⊢
      refine awp_seq ?_
      refine awp_seq ?_
      refine awp_region rfl ?_
      refine sP (opp_mv (v := .int _ _) rfl rfl) rfl rfl ?_
      first
        | refine sP (opp_fieldP rfl rfl fld74_2 rfl) rfl rfl ?_
        | refine sP (opp_fieldF rfl rfl rfl fld74_2 rfl rfl) rfl rfl ?_
      first
        | refine sP (opp_loadP rfl rfl rfl rfl bi rfl ty3) rfl rfl ?_
        | refine sP (opp_loadF rfl rfl ty3) rfl rfl ?_
      refine sP (opp_cmp rfl rfl rfl rfl) rfl rfl ?_
      refine awp_cond _ rfl (fun hc16 => ?_) (fun hc16 => ?_)
      · (try simp only [cmpI, errD_nil, Bool.not_eq_true', Bool.not_eq_false', decide_eq_true_eq, decide_eq_false_iff_not] at hc16); have ht12 := hc16
        refine awp_skip ?_
        refine awp_seq ?_
        refine awp_block ?_
        refine awp_seq ?_
        refine awp_region rfl ?_
        first
          | refine sP (opp_fieldP rfl rfl fld74_4 rfl) rfl rfl ?_
          | refine sP (opp_fieldF rfl rfl rfl fld74_4 rfl rfl) rfl rfl ?_
        first
          | refine sP (opp_loadP rfl rfl rfl rfl bi rfl ty51) rfl rfl ?_
          | refine sP (opp_loadF rfl rfl ty51) rfl rfl ?_
        refine sP (opp_mv (v := .int _ _) rfl rfl) rfl rfl ?_
        first
          | refine sP (opp_indexSl rfl rfl rfl el51 (by omega) (by omega)) rfl rfl ?_
          | refine sP (opp_indexOsl0 rfl rfl rfl el51 (by omega) (by omega)) rfl rfl ?_
          | refine sP (opp_indexOsl rfl rfl rfl el51 (by omega) (by omega)) rfl rfl ?_
        first
          | refine sP (opp_loadP rfl rfl rfl rfl bi rfl ty9) rfl rfl ?_
          | refine sP (opp_loadF rfl rfl ty9) rfl rfl ?_
        refine sP (opp_strEq (b := []) rfl rfl rfl (.inl ⟨rfl, rfl⟩)) rfl rfl ?_
        refine awp_cond _ rfl (fun hc18 => ?_) (fun hc18 => ?_)
        · (try simp only [cmpI, errD_nil, Bool.not_eq_true', Bool.not_eq_false', decide_eq_true_eq, decide_eq_false_iff_not] at hc18); have ht20 := hc18
          have hgl := Sp.gone_len s i
          refine awp_region rfl ?_
          first
            | refine sP (opp_mv (v := .sl _ _ _ _) rfl rfl) rfl rfl ?_
            | refine sP (opp_mv (v := .osl _ _ _ _ _) rfl rfl) rfl rfl ?_
          refine sP (opp_mv (v := .int _ _) rfl rfl) rfl rfl ?_
          refine sR (opr_buildSlice (n := 23) (g := fun j => if j = 0 then .int _ _ else .int .i64 0) rfl eb42 z3 (by decide) rfl rfl) rfl rfl rfl ?_
          first
            | refine sR (opr_append (d := 24) rfl rfl rfl (by omega) (.osl0 rfl (by omega)) eb42 z3 (by omega) (by omega)) rfl rfl rfl ?_
            | refine sR (opr_append (d := 24) rfl rfl rfl (by omega) .sl eb42 z3 (by omega) (by omega)) rfl rfl rfl ?_
            | refine sR (opr_append (d := 24) rfl rfl rfl (by omega) (.osl rfl (by omega) (fun _ _ => rfl)) eb42 z3 (by omega) (by omega)) rfl rfl rfl ?_
            | refine sR (opr_appendNil (d := 24) rfl rfl (.osl0 rfl (by omega)) eb42 z3 (by omega) (by omega) (by omega)) rfl rfl rfl ?_
            | refine sR (opr_appendNil (d := 24) rfl rfl .sl eb42 z3 (by omega) (by omega) (by omega)) rfl rfl rfl ?_
            | refine sR (opr_appendNil (d := 24) rfl rfl (.osl rfl (by omega) (fun _ _ => rfl)) eb42 z3 (by omega) (by omega) (by omega)) rfl rfl rfl ?_
          first
            | refine sP (opp_as (v := .sl _ _ _ _) rfl rfl) rfl rfl ?_
            | refine sP (opp_as (v := .osl _ _ _ _ _) rfl rfl) rfl rfl ?_
          refine awp_region rfl ?_
          refine sP (opp_mv (v := .int _ _) rfl rfl) rfl rfl ?_
          first
            | refine sP (opp_arith rfl rfl rfl (.inl ⟨rfl, w64 (by omega)⟩)) rfl rfl ?_
            | refine sP (opp_arith rfl rfl rfl (.inl ⟨rfl, rfl⟩)) rfl rfl ?_
          refine sP (opp_as (v := .int _ _) rfl rfl) rfl rfl ?_
          have hs1 : Sp.gone s (i + 1) = Sp.gone s i ++ [(i : Int)] := by rw [Sp.gone_succ, if_pos (by simpa using ht20)]
          have hs0 : Sp.gone s i = [] := hi1.2.1 rfl
          refine Exists.intro ((i + 1, false)) (And.intro (And.intro (And.intro (by show i + 1 ≤ s.pieces.length; omega) (by rw [hs1]; simp)) (by omega)) (by
            refine imp_over [(1004, 24)] rfl rfl (by kernel_rfl) ?_ ?_
            · refine And.intro (by exact Or.inr (And.intro rfl (WkV.of (by show AV.osl 24 1 0 _ _ = AV.osl 24 1 0 _ _; rw [hs1, hs0]; simp)))) ?_
              refine And.intro wkv ?_
              refine And.intro wkv ?_
              refine And.intro wkv ?_
              refine And.intro wkv ?_
              refine And.intro wkv ?_
              refine And.intro wkv ?_
              refine And.intro wkv ?_
              refine And.intro wkv ?_
              refine And.intro wkv ?_
              refine And.intro wkv ?_
              refine And.intro wkv ?_
              refine And.intro wkv ?_
              refine And.intro wkv ?_
              refine And.intro wkv ?_
              refine And.intro wkv ?_
              refine And.intro wkv ?_
              refine And.intro wkv ?_
              exact True.intro
            · refine And.intro (And.intro rfl (And.intro rfl (Exists.intro _ (And.intro rfl (by show WkC (AV.arr 1 _ _) (AV.arr 1 _ _); rw [hs1, hs0]; exact WkC.arr (fun j hj => by have h0 : j = 0 := (by simpa using hj); subst h0; rfl)))))) ?_
              exact True.intro
            ))
        · (try simp only [cmpI, errD_nil, Bool.not_eq_true', Bool.not_eq_false', decide_eq_true_eq, decide_eq_false_iff_not] at hc18); have ht20 := hc18
          refine awp_skip ?_
          refine awp_region rfl ?_
          refine sP (opp_mv (v := .int _ _) rfl rfl) rfl rfl ?_
          first
            | refine sP (opp_arith rfl rfl rfl (.inl ⟨rfl, w64 (by omega)⟩)) rfl rfl ?_
            | refine sP (opp_arith rfl rfl rfl (.inl ⟨rfl, rfl⟩)) rfl rfl ?_
          refine sP (opp_as (v := .int _ _) rfl rfl) rfl rfl ?_
          have hs1 : Sp.gone s (i + 1) = Sp.gone s i := by rw [Sp.gone_succ, if_neg (by simpa using ht20)]
          refine Exists.intro ((i + 1, true)) (And.intro (And.intro (And.intro (by show i + 1 ≤ s.pieces.length; omega) (by rw [hs1]; exact hi1.2)) (by omega)) (by
            refine imp_over [] rfl rfl (by kernel_rfl) ?_ ?_
            · refine And.intro wkv ?_
              refine And.intro wkv ?_
              refine And.intro wkv ?_
              refine And.intro wkv ?_
              refine And.intro wkv ?_
              refine And.intro wkv ?_
              refine And.intro wkv ?_
              refine And.intro wkv ?_
              refine And.intro wkv ?_
              refine And.intro wkv ?_
              refine And.intro wkv ?_
              refine And.intro wkv ?_
              refine And.intro wkv ?_
              refine And.intro wkv ?_
              refine And.intro wkv ?_
              refine And.intro wkv ?_
              refine And.intro wkv ?_
              refine And.intro wkv ?_
              exact True.intro
            · exact True.intro
            ))
      · (try simp only [cmpI, errD_nil, Bool.not_eq_true', Bool.not_eq_false', decide_eq_true_eq, decide_eq_false_iff_not] at hc16); have ht12 := hc16
        refine awp_exit ?_
        refine awp_seq ?_
        refine awp_region rfl ?_
        first
          | refine sP (opp_mv (v := .sl _ _ _ _) rfl rfl) rfl rfl ?_
          | refine sP (opp_mv (v := .osl _ _ _ _ _) rfl rfl) rfl rfl ?_
        first
          | refine sP (opp_as (v := .sl _ _ _ _) rfl rfl) rfl rfl ?_
          | refine sP (opp_as (v := .osl _ _ _ _ _) rfl rfl) rfl rfl ?_
        refine sP (opp_as (v := .int _ _) rfl rfl) rfl rfl ?_
        refine awp_ret ?_
        repeat (first | refine athen_ret ?_ | refine ain_ret ?_)
        first
          | refine apost_ret (aend (l := [.sl _ _ _ _, .int _ _]) (.tmp (.tmp .nil)) (fun h => by cases h) (.cons (.noN rfl rfl) (.cons (.noN rfl rfl) .nil)) ⟨Wk.v ?_, rfl, rfl⟩)
          | refine apost_ret (aends (l := [.sl _ _ _ _, .int _ _]) (.tmp (.tmp .nil)) (fun h => by cases h) (.cons shut (fun h => by cases h) (.cons shut (fun h => by cases h) .nil)) rfl ⟨Wk.v ?_, rfl, rfl⟩)
          | refine apost_ret (aend (l := [.osl _ _ _ _ _, .int _ _]) (.tmp (.tmp .nil)) (fun h => by cases h) (.cons (.noN rfl rfl) (.cons (.noN rfl rfl) .nil)) ⟨Wk.v ?_, rfl, rfl⟩)
          | refine apost_ret (aends (l := [.osl _ _ _ _ _, .int _ _]) (.tmp (.tmp .nil)) (fun h => by cases h) (.cons shut (fun h => by cases h) (.cons shut (fun h => by cases h) .nil)) rfl ⟨Wk.v ?_, rfl, rfl⟩)
        have hi2 : i = s.pieces.length := by omega
        subst hi2
        have hne : Sp.gone s s.pieces.length = [] := hi1.2.1 rfl
        rw [show Sp.missing s = (Sp.gone s s.pieces.length, 0) by simp [Sp.missing, hgs, Sp.gone], hne]
        show Wk _ (.tup [.sl 1 true 0 _, .int .i64 0]); (repeat' (first | exact Wk.refl | exact Wk.sl0 | apply Wk.tup | apply Wk.agg | apply WkL.cons | exact WkL.nil | refine Wk.sl (fun _ _ => ?_)))
theorem c85 (b1 b2 : Bool) (s t : Stage) (h0 : s.pieces.length ≤ 4611686018427387904) : APure (V ea cds gl) 85 [stageAV b1 s, stageAV b2 t] false (.bool (decide (s = t))) := by
  refine acalls_of_body (N := 59) Tryd.func85 rfl rfl (Nat.le_of_ble_eq_true rfl) fun C hV hN hM hO => ?_
  obtain ⟨_, _, w0, G0, σ0, _, own0⟩ := C; dsimp only at hV hN hM hO; subst hV; subst hN; subst hM
  refine awp_seq ?_
  refine awp_region rfl ?_
  refine sR (opr_box (y := .agg _) (n := 2) rfl rfl rfl) rfl rfl rfl ?_
  refine sR (opr_box (y := .agg _) (n := 3) rfl rfl rfl) rfl rfl rfl ?_
  refine sP (opp_as (v := .bool _) rfl rfl) rfl rfl ?_
  refine awp_seq ?_
  refine awp_seq ?_
  refine awp_region rfl ?_
  first
    | refine sP (opp_fieldP rfl rfl fld74_0 rfl) rfl rfl ?_
    | refine sP (opp_fieldF rfl rfl rfl fld74_0 rfl rfl) rfl rfl ?_
  first
    | refine sP (opp_loadP rfl rfl rfl rfl bi rfl ty3) rfl rfl ?_
    | refine sP (opp_loadF rfl rfl ty3) rfl rfl ?_
  first
    | refine sP (opp_fieldP rfl rfl fld74_0 rfl) rfl rfl ?_
    | refine sP (opp_fieldF rfl rfl rfl fld74_0 rfl rfl) rfl rfl ?_
  first
    | refine sP (opp_loadP rfl rfl rfl rfl bi rfl ty3) rfl rfl ?_
    | refine sP (opp_loadF rfl rfl ty3) rfl rfl ?_
  refine sP (opp_cmp rfl rfl rfl rfl) rfl rfl ?_
  refine sP (opp_mv (v := .bool _) rfl rfl) rfl rfl ?_
  first
    | refine sG _ rfl rfl rfl rfl (fun hg => (And.intro gi (True.intro))) (fun hg => opp_fieldP rfl rfl fld74_1 rfl) ?_
    | refine sG _ rfl rfl rfl rfl (fun hg => (And.intro gi (True.intro))) (fun hg => opp_fieldF rfl rfl rfl fld74_1 rfl rfl) ?_
  first
    | refine sG _ rfl rfl rfl rfl (fun hg => (And.intro gi (True.intro))) (fun hg => opp_loadP rfl rfl rfl rfl bi rfl ty3) ?_
    | refine sG _ rfl rfl rfl rfl (fun hg => (And.intro gi (True.intro))) (fun hg => opp_loadF rfl rfl ty3) ?_
  first
    | refine sG _ rfl rfl rfl rfl (fun hg => (And.intro gi (True.intro))) (fun hg => opp_fieldP rfl rfl fld74_1 rfl) ?_
    | refine sG _ rfl rfl rfl rfl (fun hg => (And.intro gi (True.intro))) (fun hg => opp_fieldF rfl rfl rfl fld74_1 rfl rfl) ?_
  first
    | refine sG _ rfl rfl rfl rfl (fun hg => (And.intro gi (True.intro))) (fun hg => opp_loadP rfl rfl rfl rfl bi rfl ty3) ?_
    | refine sG _ rfl rfl rfl rfl (fun hg => (And.intro gi (True.intro))) (fun hg => opp_loadF rfl rfl ty3) ?_
  refine sG _ rfl rfl rfl rfl (fun hg => (And.intro gi (And.intro gi (True.intro)))) (fun hg => opp_cmp rfl rfl rfl rfl) ?_
  refine sPick rfl rfl rfl rfl (by exact True.intro) rfl rfl (fun hg => gi) (fun hg => gi) ?_
  refine sP (opp_mv (v := .bool _) rfl rfl) rfl rfl ?_
  first
    | refine sG _ rfl rfl rfl rfl (fun hg => (And.intro gi (True.intro))) (fun hg => opp_fieldP rfl rfl fld74_2 rfl) ?_
    | refine sG _ rfl rfl rfl rfl (fun hg => (And.intro gi (True.intro))) (fun hg => opp_fieldF rfl rfl rfl fld74_2 rfl rfl) ?_
  first
    | refine sG _ rfl rfl rfl rfl (fun hg => (And.intro gi (True.intro))) (fun hg => opp_loadP rfl rfl rfl rfl bi rfl ty3) ?_
    | refine sG _ rfl rfl rfl rfl (fun hg => (And.intro gi (True.intro))) (fun hg => opp_loadF rfl rfl ty3) ?_
  first
    | refine sG _ rfl rfl rfl rfl (fun hg => (And.intro gi (True.intro))) (fun hg => opp_fieldP rfl rfl fld74_2 rfl) ?_
    | refine sG _ rfl rfl rfl rfl (fun hg => (And.intro gi (True.intro))) (fun hg => opp_fieldF rfl rfl rfl fld74_2 rfl rfl) ?_
  first
    | refine sG _ rfl rfl rfl rfl (fun hg => (And.intro gi (True.intro))) (fun hg => opp_loadP rfl rfl rfl rfl bi rfl ty3) ?_
    | refine sG _ rfl rfl rfl rfl (fun hg => (And.intro gi (True.intro))) (fun hg => opp_loadF rfl rfl ty3) ?_
  refine sG _ rfl rfl rfl rfl (fun hg => (And.intro gi (And.intro gi (True.intro)))) (fun hg => opp_cmp rfl rfl rfl rfl) ?_
  refine sPick rfl rfl rfl rfl (by exact True.intro) rfl rfl (fun hg => gi) (fun hg => gi) ?_
  refine sP (opp_mv (v := .bool _) rfl rfl) rfl rfl ?_
  first
    | refine sG _ rfl rfl rfl rfl (fun hg => (And.intro gi (True.intro))) (fun hg => opp_fieldP rfl rfl fld74_3 rfl) ?_
    | refine sG _ rfl rfl rfl rfl (fun hg => (And.intro gi (True.intro))) (fun hg => opp_fieldF rfl rfl rfl fld74_3 rfl rfl) ?_
  first
    | refine sG _ rfl rfl rfl rfl (fun hg => (And.intro gi (True.intro))) (fun hg => opp_loadP rfl rfl rfl rfl bi rfl ty23) ?_
    | refine sG _ rfl rfl rfl rfl (fun hg => (And.intro gi (True.intro))) (fun hg => opp_loadF rfl rfl ty23) ?_
  first
    | refine sG _ rfl rfl rfl rfl (fun hg => (And.intro gi (True.intro))) (fun hg => opp_fieldP rfl rfl fld74_3 rfl) ?_
    | refine sG _ rfl rfl rfl rfl (fun hg => (And.intro gi (True.intro))) (fun hg => opp_fieldF rfl rfl rfl fld74_3 rfl rfl) ?_
  first
    | refine sG _ rfl rfl rfl rfl (fun hg => (And.intro gi (True.intro))) (fun hg => opp_loadP rfl rfl rfl rfl bi rfl ty23) ?_
    | refine sG _ rfl rfl rfl rfl (fun hg => (And.intro gi (True.intro))) (fun hg => opp_loadF rfl rfl ty23) ?_
  refine sG _ rfl rfl rfl rfl (fun hg => (And.intro gi (And.intro gi (True.intro)))) (fun hg => opp_eqAgg rfl rfl rfl (eq23 ..) eg23 rfl (.inr ⟨rfl, rfl⟩)) ?_
  refine sPick rfl rfl rfl rfl (by exact True.intro) rfl rfl (fun hg => gi) (fun hg => gi) ?_
  refine sP (opp_mv (v := .bool _) rfl rfl) rfl rfl ?_
  first
    | refine sG _ rfl rfl rfl rfl (fun hg => (And.intro gi (True.intro))) (fun hg => opp_fieldP rfl rfl fld74_4 rfl) ?_
    | refine sG _ rfl rfl rfl rfl (fun hg => (And.intro gi (True.intro))) (fun hg => opp_fieldF rfl rfl rfl fld74_4 rfl rfl) ?_
  first
    | refine sG _ rfl rfl rfl rfl (fun hg => (And.intro gi (True.intro))) (fun hg => opp_loadP rfl rfl rfl rfl bi rfl ty51) ?_
    | refine sG _ rfl rfl rfl rfl (fun hg => (And.intro gi (True.intro))) (fun hg => opp_loadF rfl rfl ty51) ?_
  first
    | refine sG _ rfl rfl rfl rfl (fun hg => (And.intro gi (True.intro))) (fun hg => opp_lenSl rfl rfl un51) ?_
    | refine sG _ rfl rfl rfl rfl (fun hg => (And.intro gi (True.intro))) (fun hg => opp_lenOsl rfl rfl un51) ?_
  first
    | refine sG _ rfl rfl rfl rfl (fun hg => (And.intro gi (True.intro))) (fun hg => opp_fieldP rfl rfl fld74_4 rfl) ?_
    | refine sG _ rfl rfl rfl rfl (fun hg => (And.intro gi (True.intro))) (fun hg => opp_fieldF rfl rfl rfl fld74_4 rfl rfl) ?_
  first
    | refine sG _ rfl rfl rfl rfl (fun hg => (And.intro gi (True.intro))) (fun hg => opp_loadP rfl rfl rfl rfl bi rfl ty51) ?_
    | refine sG _ rfl rfl rfl rfl (fun hg => (And.intro gi (True.intro))) (fun hg => opp_loadF rfl rfl ty51) ?_
  first
    | refine sG _ rfl rfl rfl rfl (fun hg => (And.intro gi (True.intro))) (fun hg => opp_lenSl rfl rfl un51) ?_
    | refine sG _ rfl rfl rfl rfl (fun hg => (And.intro gi (True.intro))) (fun hg => opp_lenOsl rfl rfl un51) ?_
  refine sG _ rfl rfl rfl rfl (fun hg => (And.intro gi (And.intro gi (True.intro)))) (fun hg => opp_cmp rfl rfl rfl rfl) ?_
  refine sPick rfl rfl rfl rfl (by exact True.intro) rfl rfl (fun hg => gi) (fun hg => gi) ?_
  refine awp_cond _ rfl (fun hc3 => ?_) (fun hc3 => ?_)
  · (try simp only [cmpI, errD_nil, Bool.not_eq_true', Bool.not_eq_false', decide_eq_true_eq, decide_eq_false_iff_not] at hc3); have ht40 := hc3
    refine awp_seq ?_
    refine awp_region rfl ?_
    refine sP (opp_as (v := .bool _) rfl rfl) rfl rfl ?_
    refine awp_ret ?_
    repeat (first | refine athen_ret ?_ | refine ain_ret ?_)
    first
      | refine apost_ret (aend1 (r0 := .bool _) (.tmp .nil) (.noN rfl rfl) ⟨Wk.v ?_, rfl, rfl⟩)
      | refine apost_ret (aend1s (r0 := .bool _) (.tmp .nil) shut rfl ⟨Wk.v ?_, rfl, rfl⟩)
    have hq : ¬ s = t := by intro e; subst e; simp [cmpI] at ht40
    exact .of (by simp [hq])
  · (try simp only [cmpI, errD_nil, Bool.not_eq_true', Bool.not_eq_false', decide_eq_true_eq, decide_eq_false_iff_not] at hc3); have ht40 := hc3
    refine awp_skip ?_
    refine awp_seq ?_
    refine awp_seq ?_
    have hq : s.part = t.part ∧ s.stage = t.stage ∧ s.total = t.total ∧ s.xid = t.xid ∧ s.pieces.length = t.pieces.length := by
      rw [Xid.eq_iff]; simpa [and_assoc, cmpI, Int.natCast_inj] using ht40
    have hql := hq.2.2.2.2
    refine awp_region rfl ?_
    refine sP (opp_as (v := .int _ _) rfl rfl) rfl rfl ?_
    refine awp_block ?_
    refine awp_loopK (ι := Nat) (fun i => i ≤ s.pieces.length ∧ ∀ j, j < i → s.pieces.getD j [] = t.pieces.getD j []) (fun i => [(4, .top), (5, .int .i64 i), (41, .top), (42, .top), (43, .top), (44, .top), (45, .top), (46, .top), (47, .top), (48, .top), (49, .top), (50, .top), (51, .top), (52, .top), (53, .top), (54, .top), (55, .top), (56, .top), (57, .top), (58, .top)]) (fun i => []) [] (fun i => s.pieces.length - i) (0) (⟨Nat.zero_le _, fun j hj => absurd hj (Nat.not_lt_zero _)⟩) (by
      refine imp_over [] rfl rfl (by kernel_rfl) ?_ ?_
      · refine And.intro wkv ?_
        refine And.intro wkv ?_
        refine And.intro wkv ?_
        refine And.intro wkv ?_
        refine And.intro wkv ?_
        refine And.intro wkv ?_
        refine And.intro wkv ?_
        refine And.intro wkv ?_
        refine And.intro wkv ?_
        refine And.intro wkv ?_
        refine And.intro wkv ?_
        refine And.intro wkv ?_
        refine And.intro wkv ?_
        refine And.intro wkv ?_
        refine And.intro wkv ?_
        refine And.intro wkv ?_
        refine And.intro wkv ?_
        refine And.intro wkv ?_
        refine And.intro wkv ?_
        refine And.intro wkv ?_
        exact True.intro
      · exact True.intro
      ) ?_
    intro i hi1
    refine awp_seq ?_
    refine awp_seq ?_
    refine awp_region rfl ?_
    refine sP (opp_mv (v := .int _ _) rfl rfl) rfl rfl ?_
    first
      | refine sP (opp_fieldP rfl rfl fld74_4 rfl) rfl rfl ?_
      | refine sP (opp_fieldF rfl rfl rfl fld74_4 rfl rfl) rfl rfl ?_
    first
      | refine sP (opp_loadP rfl rfl rfl rfl bi rfl ty51) rfl rfl ?_
      | refine sP (opp_loadF rfl rfl ty51) rfl rfl ?_
    first
      | refine sP (opp_lenSl rfl rfl un51) rfl rfl ?_
      | refine sP (opp_lenOsl rfl rfl un51) rfl rfl ?_
    refine sP (opp_cmp rfl rfl rfl rfl) rfl rfl ?_
    refine awp_cond _ rfl (fun hc7 => ?_) (fun hc7 => ?_)
    · (try simp only [cmpI, errD_nil, Bool.not_eq_true', Bool.not_eq_false', decide_eq_true_eq, decide_eq_false_iff_not] at hc7); have ht45 := hc7
      refine awp_skip ?_
      refine awp_seq ?_
      refine awp_block ?_
      refine awp_seq ?_
      refine awp_draw hmix rfl (by kernel_rfl) ?_
      first
        | refine dP (fun _ => false) (opp_fieldP rfl rfl fld74_4 rfl) rfl rfl ?_
        | refine dP (fun _ => false) (opp_fieldF rfl rfl rfl fld74_4 rfl rfl) rfl rfl ?_
      first
        | refine dP (fun n => Nat.beq n 2) (opp_loadP rfl rfl rfl rfl bi rfl ty51) rfl rfl ?_
        | refine dP (fun n => Nat.beq n 2) (opp_loadF rfl rfl ty51) rfl rfl ?_
      refine dP (fun _ => false) (opp_mv (v := .int _ _) rfl rfl) rfl rfl ?_
      first
        | refine dP (fun _ => false) (opp_indexSl rfl rfl rfl el51 (by omega) (by omega)) rfl rfl ?_
        | refine dP (fun _ => false) (opp_indexOsl0 rfl rfl rfl el51 (by omega) (by omega)) rfl rfl ?_
        | refine dP (fun _ => false) (opp_indexOsl rfl rfl rfl el51 (by omega) (by omega)) rfl rfl ?_
      first
        | refine dP (fun n => !([] : List Nat).contains n) (opp_loadP rfl rfl rfl rfl bi rfl ty9) rfl rfl ?_
        | refine dP (fun n => !([] : List Nat).contains n) (opp_loadF rfl rfl ty9) rfl rfl ?_
      first
        | refine dP (fun _ => false) (opp_fieldP rfl rfl fld74_4 rfl) rfl rfl ?_
        | refine dP (fun _ => false) (opp_fieldF rfl rfl rfl fld74_4 rfl rfl) rfl rfl ?_
      first
        | refine dP (fun n => Nat.beq n 3) (opp_loadP rfl rfl rfl rfl bi rfl ty51) rfl rfl ?_
        | refine dP (fun n => Nat.beq n 3) (opp_loadF rfl rfl ty51) rfl rfl ?_
      refine dP (fun _ => false) (opp_mv (v := .int _ _) rfl rfl) rfl rfl ?_
      first
        | refine dP (fun _ => false) (opp_indexSl rfl rfl rfl el51 (by omega) (by omega)) rfl rfl ?_
        | refine dP (fun _ => false) (opp_indexOsl0 rfl rfl rfl el51 (by omega) (by omega)) rfl rfl ?_
        | refine dP (fun _ => false) (opp_indexOsl rfl rfl rfl el51 (by omega) (by omega)) rfl rfl ?_
      first
        | refine dP (fun n => !([] : List Nat).contains n) (opp_loadP rfl rfl rfl rfl bi rfl ty9) rfl rfl ?_
        | refine dP (fun n => !([] : List Nat).contains n) (opp_loadF rfl rfl ty9) rfl rfl ?_
      refine dP (fun _ => false) (opp_strEq rfl rfl rfl (.inr ⟨rfl, rfl⟩)) rfl rfl ?_
      refine And.intro (by kernel_rfl) ?_
      refine awp_cond _ rfl (fun hc9 => ?_) (fun hc9 => ?_)
      · (try simp only [cmpI, errD_nil, Bool.not_eq_true', Bool.not_eq_false', decide_eq_true_eq, decide_eq_false_iff_not] at hc9); have ht58 := hc9
        refine awp_seq ?_
        refine awp_region rfl ?_
        refine sP (opp_as (v := .bool _) rfl rfl) rfl rfl ?_
        refine awp_ret ?_
        repeat (first | refine athen_ret ?_ | refine ain_ret ?_)
        first
          | refine apost_ret (aend1 (r0 := .bool _) (.tmp .nil) (.noN rfl rfl) ⟨Wk.v ?_, rfl, rfl⟩)
          | refine apost_ret (aend1s (r0 := .bool _) (.tmp .nil) shut rfl ⟨Wk.v ?_, rfl, rfl⟩)
        have hq : ¬ s = t := by intro e; subst e; simp at ht58
        exact .of (by simp [hq])
      · (try simp only [cmpI, errD_nil, Bool.not_eq_true', Bool.not_eq_false', decide_eq_true_eq, decide_eq_false_iff_not] at hc9); have ht58 := hc9
        refine awp_skip ?_
        refine awp_region rfl ?_
        refine sP (opp_mv (v := .int _ _) rfl rfl) rfl rfl ?_
        first
          | refine sP (opp_arith rfl rfl rfl (.inl ⟨rfl, w64 (by omega)⟩)) rfl rfl ?_
          | refine sP (opp_arith rfl rfl rfl (.inl ⟨rfl, rfl⟩)) rfl rfl ?_
        refine sP (opp_as (v := .int _ _) rfl rfl) rfl rfl ?_
        refine Exists.intro (i + 1) (And.intro (And.intro (⟨by show i + 1 ≤ s.pieces.length; omega, fun j hj => by by_cases e : j = i; (subst e; simpa using ht58); exact hi1.2 j (by omega)⟩) (by omega)) (by
          refine imp_over [] rfl rfl (by kernel_rfl) ?_ ?_
          · refine And.intro wkv ?_
            refine And.intro wkv ?_
            refine And.intro wkv ?_
            refine And.intro wkv ?_
            refine And.intro wkv ?_
            refine And.intro wkv ?_
            refine And.intro wkv ?_
            refine And.intro wkv ?_
            refine And.intro wkv ?_
            refine And.intro wkv ?_
            refine And.intro wkv ?_
            refine And.intro wkv ?_
            refine And.intro wkv ?_
            refine And.intro wkv ?_
            refine And.intro wkv ?_
            refine And.intro wkv ?_
            refine And.intro wkv ?_
            refine And.intro wkv ?_
            refine And.intro wkv ?_
            refine And.intro wkv ?_
            exact True.intro
          · exact True.intro
          ))
    · (try simp only [cmpI, errD_nil, Bool.not_eq_true', Bool.not_eq_false', decide_eq_true_eq, decide_eq_false_iff_not] at hc7); have ht45 := hc7
      refine awp_exit ?_
      refine awp_seq ?_
      refine awp_region rfl ?_
      refine sP (opp_as (v := .bool _) rfl rfl) rfl rfl ?_
      refine awp_ret ?_
      repeat (first | refine athen_ret ?_ | refine ain_ret ?_)
      first
        | refine apost_ret (aend1 (r0 := .bool _) (.tmp .nil) (.noN rfl rfl) ⟨Wk.v ?_, rfl, rfl⟩)
        | refine apost_ret (aend1s (r0 := .bool _) (.tmp .nil) shut rfl ⟨Wk.v ?_, rfl, rfl⟩)
      have hq2 : s = t := by
        have hi2 : i = s.pieces.length := by omega
        have ha : s.pieces = t.pieces := by
          apply List.ext_getElem?
          intro j
          rcases Nat.lt_or_ge j s.pieces.length with hj | hj
          · have := hi1.2 j (by omega)
            simp only [List.getD_eq_getElem?_getD, List.getElem?_eq_getElem hj, List.getElem?_eq_getElem (show j < t.pieces.length by omega), Option.getD_some] at this
            rw [List.getElem?_eq_getElem hj, List.getElem?_eq_getElem (show j < t.pieces.length by omega), this]
          · rw [List.getElem?_eq_none hj, List.getElem?_eq_none (by omega)]
        obtain ⟨a1, a2, a3, a4, -⟩ := hq
        cases s; cases t; simp_all
      exact .of (by simp [hq2])
end
end Go.Proofs.YtgaihhimkodmmaaDoor
namespace Go.Proofs.YtgaihhimkodmmaaDoor
attribute [local irreducible] Tryd.prog
open Go.Fy
set_option linter.unusedSimpArgs false
set_option linter.unusedVariables false
theorem begin_chunk (n : Note) : (Sp.begin_ n).2 = Sp.chunk n := by
  unfold Sp.begin_; split <;> simp_all
theorem add_base {s : Stage} {n : Note} (hg : Sp.goodS s = true) (hc : Sp.chunk n = 0) : (Sp.add s n).2.2 = 10 ↔ (n.part ≠ s.part ∨ n.xid ≠ s.xid ∨ n.stage ≠ s.stage ∨ n.total ≠ s.total) := by
  unfold Sp.add
  rw [if_neg (by simp [hg]), if_neg (by simp [hc])]
  by_cases h : n.part ≠ s.part ∨ n.xid ≠ s.xid ∨ n.stage ≠ s.stage ∨ n.total ≠ s.total
  · rw [if_pos h]; simp [h]
  · rw [if_neg h]; simp only [h, iff_false]; split <;> simp
theorem take_ref (r : Recv) (n : Note) : Sp.take r n = if Sp.goodR r = false then (Sp.zeroR, Sp.zero, 9) else if (Sp.begin_ n).2 ≠ 0 then (Sp.zeroR, Sp.zero, (Sp.begin_ n).2)
    else if r.on = false ∨ (Sp.add r.stage n).2.2 = 10 then (⟨true, (Sp.begin_ n).1⟩, (Sp.answer n 7 0).1, 0) else if (Sp.add r.stage n).2.2 ≠ 0 then (Sp.zeroR, Sp.zero, (Sp.add r.stage n).2.2) else (⟨true, (Sp.add r.stage n).1⟩, (Sp.answer n 7 0).1, 0) := by
  unfold Sp.take
  by_cases hg : Sp.goodR r = false
  · rw [if_pos hg, if_pos hg]
  · rw [if_neg hg, if_neg hg, begin_chunk]
    by_cases hc : Sp.check n = 0
    · rw [if_neg (show ¬ Sp.check n ≠ 0 by simp [hc])]
      by_cases hk : n.kind = 1
      · have hch : Sp.chunk n = 0 := by simp [Sp.chunk, hc, hk]
        have ha := Sp.answer_ack hc hk
        rw [if_neg (show ¬ n.kind ≠ 1 by simp [hk]), if_neg (show ¬ Sp.chunk n ≠ 0 by simp [hch])]
        have hbg : ¬ (Sp.begin_ n).2 ≠ 0 := by rw [begin_chunk]; simp [hch]
        by_cases ho : r.on = false
        · have hco : Sp.come r n = Sp.begin_ n := if_neg (by simp [ho])
          rw [if_pos (show r.on = false ∨ (Sp.add r.stage n).2.2 = 10 from Or.inl ho), hco, if_neg hbg, ha]
        · have hgs : Sp.goodS r.stage = true := by
            have : Sp.goodR r = true := by simpa using hg
            simp only [Sp.goodR, if_neg ho, Bool.and_eq_true] at this; exact this.1
          have hb := add_base hgs hch
          by_cases hm : n.part ≠ r.stage.part ∨ n.xid ≠ r.stage.xid ∨ n.stage ≠ r.stage.stage ∨ n.total ≠ r.stage.total
          · have hco : Sp.come r n = Sp.begin_ n := if_neg (by
              rintro ⟨-, h1, h2, h3, h4⟩
              rcases hm with h | h | h | h
              · exact h h1.symm
              · exact h h2.symm
              · exact h h3.symm
              · exact h h4.symm)
            rw [if_pos (show r.on = false ∨ (Sp.add r.stage n).2.2 = 10 from Or.inr (hb.2 hm)), hco, if_neg hbg, ha]
          · have hno : ¬ (r.on = false ∨ (Sp.add r.stage n).2.2 = 10) := fun h => h.elim ho (fun h => hm (hb.1 h))
            have hco : Sp.come r n = ((Sp.add r.stage n).1, (Sp.add r.stage n).2.2) := if_pos (by
              simp only [not_or, Decidable.not_not, ne_eq] at hm
              exact ⟨by simpa using ho, hm.1.symm, hm.2.1.symm, hm.2.2.1.symm, hm.2.2.2.symm⟩)
            rw [if_neg hno, hco]
            dsimp only
            by_cases he : (Sp.add r.stage n).2.2 = 0
            · simp [he, ha]
            · simp [he]
      · have hch : Sp.chunk n = 7 := by simp [Sp.chunk, hc, hk]
        rw [if_pos (show n.kind ≠ 1 from hk), if_pos (show Sp.chunk n ≠ 0 by simp [hch]), hch]
    · have hch : Sp.chunk n = Sp.check n := by simp [Sp.chunk, hc]
      rw [if_pos (show Sp.check n ≠ 0 from hc), if_pos (show Sp.chunk n ≠ 0 by rw [hch]; exact hc), hch]
theorem goodR_off {r : Recv} (h : r.on = false) : Sp.goodR r = decide (r.stage = Sp.zeroS) := by
  rw [Sp.goodR, if_pos h, Bool.eq_iff_iff]
  obtain ⟨on, p, s, t, x, l⟩ := r
  simp only [Bool.and_eq_true, decide_eq_true_eq, Sp.zeroS, Stage.mk.injEq, List.length_eq_zero_iff]
  constructor
  · rintro ⟨⟨⟨⟨a, b⟩, c⟩, d⟩, e⟩; exact ⟨a, b, c, d, e⟩
  · rintro ⟨a, b, c, d, e⟩; exact ⟨⟨⟨⟨a, b⟩, c⟩, d⟩, e⟩
theorem filter_lt {p : Nat → Bool} : ∀ n, ((List.range n).filter p).length < n ↔ (List.range n).any (fun j => !p j) = true
  | 0 => by simp
  | n + 1 => by
    have ih := filter_lt (p := p) n
    have hle := List.length_filter_le p (List.range n)
    rw [List.length_range] at hle
    rw [List.range_succ, List.filter_append, List.any_append, List.length_append]
    cases hp : p n with
    | true => simp only [List.filter_cons, hp, if_true, List.filter_nil, List.length_cons, List.length_nil, List.any_cons, Bool.not_true, List.any_nil, Bool.or_false]; rw [← ih]; omega
    | false => simp only [List.filter_cons, hp, Bool.false_eq_true, if_false, List.filter_nil, List.length_nil, List.any_cons, Bool.not_false, List.any_nil, Bool.or_false, Bool.or_true, iff_true]; omega
theorem goodR_on {r : Recv} (h : ¬ r.on = false) : Sp.goodR r = (decide ((Sp.missing r.stage).2 = 0) && decide (((Sp.missing r.stage).1.length : Int) < r.stage.total)) := by
  rw [Sp.goodR, if_neg h]
  cases hg : Sp.goodS r.stage with
  | false => simp [Sp.missing, hg]
  | true =>
    have hb := Sp.goodS_bounds hg
    have e : Sp.missing r.stage = (Sp.gone r.stage r.stage.pieces.length, 0) := by simp [Sp.missing, hg, Sp.gone]
    rw [e, Bool.eq_iff_iff]
    have := filter_lt (p := fun j => decide (r.stage.pieces.getD j [] = [])) r.stage.pieces.length
    simp only [Bool.true_and, decide_true, decide_eq_true_eq, Sp.gone, List.length_map]
    rw [← this]; omega
section
variable {ea : Nat → Addr} {cds : List Nat} {gl : Nat → Option AV}
theorem c84 (b : Bool) (s : Stage) (n : Note) (h0 : b = true → s.pieces.length = 0) : APure (V ea cds gl) 84 [stageAV b s, noteAV n] false (.tup [stageAV (decide ((Sp.add s n).2.2 ≠ 0)) (Sp.add s n).1, .bool (Sp.add s n).2.1, .int .i64 ((Sp.add s n).2.2 : Nat)]) := by
  refine acalls_of_body (N := 76) Tryd.func84 rfl rfl (Nat.le_of_ble_eq_true rfl) fun C hV hN hM hO => ?_
  obtain ⟨_, _, w0, G0, σ0, _, own0⟩ := C; dsimp only at hV hN hM hO; subst hV; subst hN; subst hM
  refine awp_seq ?_
  refine awp_region rfl ?_
  refine sR (opr_box (y := .agg _) (n := 2) rfl rfl rfl) rfl rfl rfl ?_
  refine sR (opr_box (y := .agg _) (n := 3) rfl rfl rfl) rfl rfl rfl ?_
  refine sR (opr_alloc (n := 4) rfl z74) rfl rfl rfl ?_
  refine sP (opp_as (v := .bool _) rfl rfl) rfl rfl ?_
  refine sP (opp_as (v := .int _ _) rfl rfl) rfl rfl ?_
  refine awp_seq ?_
  refine awp_seq ?_
  refine awp_region rfl ?_
  first
    | refine sP (opp_loadP rfl rfl rfl rfl bi rfl ty74) rfl rfl ?_
    | refine sP (opp_loadF rfl rfl ty74) rfl rfl ?_
  refine sR (opr_call rfl rfl ent123 rfl (c123 b s) (AViews.refl _ rfl)) rfl rfl rfl ?_ -- d=10 t=4
  refine sP (opp_not rfl rfl) rfl rfl ?_
  refine awp_cond _ rfl (fun hc3 => ?_) (fun hc3 => ?_)
  · (try simp only [cmpI, errD_nil, Bool.not_eq_true', Bool.not_eq_false', decide_eq_true_eq, decide_eq_false_iff_not] at hc3); have ht11 := hc3
    refine awp_seq ?_
    refine awp_region rfl ?_
    refine sP (opp_build rfl z74 bld74 rfl [.int .i64 0, .int .i64 0, .int .i64 0, .agg [.int .i64 0, .int .i64 0, .int .i64 0], .sl 1 true 0 (fun _ => .top)] rfl) rfl rfl ?_
    refine sR0 (opr_store (v := .agg _) (trn := (.agg _)) rfl rfl rfl rfl bi rfl rfl rfl rfl fr2 ty74 (fun _ _ h => h)) rfl rfl rfl ?_
    refine sP (opp_as (v := .bool _) rfl rfl) rfl rfl ?_
    refine sP (opp_as (v := .int _ _) rfl rfl) rfl rfl ?_
    refine awp_ret ?_
    repeat (first | refine athen_ret ?_ | refine ain_ret ?_)
    first
      | refine apost_ret (aend (l := [.agg _, .bool _, .int _ _]) (.cell rfl rfl rfl (by exact True.intro) rfl ty74 (.tmp (.tmp .nil))) (fun h => by cases h) (.cons (.noN rfl rfl) (.cons (.noN rfl rfl) (.cons (.noN rfl rfl) .nil))) ⟨Wk.v ?_, rfl, rfl⟩)
      | refine apost_ret (aends (l := [.agg _, .bool _, .int _ _]) (.cell rfl rfl rfl (by exact True.intro) rfl ty74 (.tmp (.tmp .nil))) (fun h => by cases h) (.cons shut (fun h => by cases h) (.cons shut (fun h => by cases h) (.cons shut (fun h => by cases h) .nil))) rfl ⟨Wk.v ?_, rfl, rfl⟩)
    rw [show Sp.add s n = (Sp.zeroS, false, 9) by simp [Sp.add, show Sp.goodS s = false by simpa using ht11]]; show Wk _ (.tup [stageAV true Sp.zeroS, .bool false, .int .i64 9]); simp only [stageAV, Sp.zeroS, xidAV, List.length_nil]; (repeat' (first | exact Wk.refl | exact Wk.sl0 | apply Wk.tup | apply Wk.agg | apply WkL.cons | exact WkL.nil | refine Wk.sl (fun _ _ => ?_)))
  · (try simp only [cmpI, errD_nil, Bool.not_eq_true', Bool.not_eq_false', decide_eq_true_eq, decide_eq_false_iff_not] at hc3); have ht11 := hc3
    refine awp_skip ?_
    refine awp_seq ?_
    have hgs : Sp.goodS s = true := by simpa using ht11
    have hgb := Sp.goodS_bounds hgs
    refine awp_region rfl ?_
    first
      | refine sP (opp_loadP rfl rfl rfl rfl bi rfl ty26) rfl rfl ?_
      | refine sP (opp_loadF rfl rfl ty26) rfl rfl ?_
    refine sR (opr_call rfl rfl ent122 rfl (c122 n) (AViews.refl _ rfl)) rfl rfl rfl ?_ -- d=14 t=3
    refine sP (opp_as (v := .int _ _) rfl rfl) rfl rfl ?_
    refine awp_seq ?_
    refine awp_seq ?_
    refine awp_region rfl ?_
    refine sP (opp_mv (v := .int _ _) rfl rfl) rfl rfl ?_
    refine sP (opp_cmp rfl rfl rfl rfl) rfl rfl ?_
    refine awp_cond _ rfl (fun hc7 => ?_) (fun hc7 => ?_)
    · (try simp only [cmpI, errD_nil, Bool.not_eq_true', Bool.not_eq_false', decide_eq_true_eq, decide_eq_false_iff_not] at hc7); have ht16 := hc7
      refine awp_seq ?_
      refine awp_region rfl ?_
      refine sP (opp_build rfl z74 bld74 rfl [.int .i64 0, .int .i64 0, .int .i64 0, .agg [.int .i64 0, .int .i64 0, .int .i64 0], .sl 1 true 0 (fun _ => .top)] rfl) rfl rfl ?_
      refine sP (opp_mv (v := .int _ _) rfl rfl) rfl rfl ?_
      refine sR0 (opr_store (v := .agg _) (trn := (.agg _)) rfl rfl rfl rfl bi rfl rfl rfl rfl fr2 ty74 (fun _ _ h => h)) rfl rfl rfl ?_
      refine sP (opp_as (v := .bool _) rfl rfl) rfl rfl ?_
      refine sP (opp_as (v := .int _ _) rfl rfl) rfl rfl ?_
      refine awp_ret ?_
      repeat (first | refine athen_ret ?_ | refine ain_ret ?_)
      first
        | refine apost_ret (aend (l := [.agg _, .bool _, .int _ _]) (.cell rfl rfl rfl (by exact True.intro) rfl ty74 (.tmp (.tmp .nil))) (fun h => by cases h) (.cons (.noN rfl rfl) (.cons (.noN rfl rfl) (.cons (.noN rfl rfl) .nil))) ⟨Wk.v ?_, rfl, rfl⟩)
        | refine apost_ret (aends (l := [.agg _, .bool _, .int _ _]) (.cell rfl rfl rfl (by exact True.intro) rfl ty74 (.tmp (.tmp .nil))) (fun h => by cases h) (.cons shut (fun h => by cases h) (.cons shut (fun h => by cases h) (.cons shut (fun h => by cases h) .nil))) rfl ⟨Wk.v ?_, rfl, rfl⟩)
      have hch : ¬ Sp.chunk n = 0 := by simpa using ht16
      rw [show Sp.add s n = (Sp.zeroS, false, Sp.chunk n) by simp [Sp.add, hgs, hch]]; simp only [ne_eq, hch, not_false_eq_true, decide_true, stageAV, Sp.zeroS, xidAV, List.length_nil]; (repeat' (first | exact Wk.refl | exact Wk.sl0 | apply Wk.tup | apply Wk.agg | apply WkL.cons | exact WkL.nil | refine Wk.sl (fun _ _ => ?_)))
    · (try simp only [cmpI, errD_nil, Bool.not_eq_true', Bool.not_eq_false', decide_eq_true_eq, decide_eq_false_iff_not] at hc7); have ht16 := hc7
      refine awp_skip ?_
      refine awp_seq ?_
      refine awp_seq ?_
      have hch : Sp.chunk n = 0 := by simpa using ht16
      have hb := Sp.chunk_bounds hch
      refine awp_region rfl ?_
      first
        | refine sP (opp_fieldP rfl rfl fld26_1 rfl) rfl rfl ?_
        | refine sP (opp_fieldF rfl rfl rfl fld26_1 rfl rfl) rfl rfl ?_
      first
        | refine sP (opp_loadP rfl rfl rfl rfl bi rfl ty3) rfl rfl ?_
        | refine sP (opp_loadF rfl rfl ty3) rfl rfl ?_
      first
        | refine sP (opp_fieldP rfl rfl fld74_0 rfl) rfl rfl ?_
        | refine sP (opp_fieldF rfl rfl rfl fld74_0 rfl rfl) rfl rfl ?_
      first
        | refine sP (opp_loadP rfl rfl rfl rfl bi rfl ty3) rfl rfl ?_
        | refine sP (opp_loadF rfl rfl ty3) rfl rfl ?_
      refine sP (opp_cmp rfl rfl rfl rfl) rfl rfl ?_
      refine sP (opp_mv (v := .bool _) rfl rfl) rfl rfl ?_
      first
        | refine sG _ rfl rfl rfl rfl (fun hg => (And.intro gi (True.intro))) (fun hg => opp_fieldP rfl rfl fld26_2 rfl) ?_
        | refine sG _ rfl rfl rfl rfl (fun hg => (And.intro gi (True.intro))) (fun hg => opp_fieldF rfl rfl rfl fld26_2 rfl rfl) ?_
      first
        | refine sG _ rfl rfl rfl rfl (fun hg => (And.intro gi (True.intro))) (fun hg => opp_loadP rfl rfl rfl rfl bi rfl ty23) ?_
        | refine sG _ rfl rfl rfl rfl (fun hg => (And.intro gi (True.intro))) (fun hg => opp_loadF rfl rfl ty23) ?_
      first
        | refine sG _ rfl rfl rfl rfl (fun hg => (And.intro gi (True.intro))) (fun hg => opp_fieldP rfl rfl fld74_3 rfl) ?_
        | refine sG _ rfl rfl rfl rfl (fun hg => (And.intro gi (True.intro))) (fun hg => opp_fieldF rfl rfl rfl fld74_3 rfl rfl) ?_
      first
        | refine sG _ rfl rfl rfl rfl (fun hg => (And.intro gi (True.intro))) (fun hg => opp_loadP rfl rfl rfl rfl bi rfl ty23) ?_
        | refine sG _ rfl rfl rfl rfl (fun hg => (And.intro gi (True.intro))) (fun hg => opp_loadF rfl rfl ty23) ?_
      refine sG _ rfl rfl rfl rfl (fun hg => (And.intro gi (And.intro gi (True.intro)))) (fun hg => opp_eqAgg rfl rfl rfl (eq23 ..) eg23 rfl (.inr ⟨rfl, rfl⟩)) ?_
      refine sPick rfl rfl rfl rfl (by exact True.intro) rfl rfl (fun hg => gi) (fun hg => gi) ?_
      refine sP (opp_mv (v := .bool _) rfl rfl) rfl rfl ?_
      first
        | refine sG _ rfl rfl rfl rfl (fun hg => (And.intro gi (True.intro))) (fun hg => opp_fieldP rfl rfl fld26_3 rfl) ?_
        | refine sG _ rfl rfl rfl rfl (fun hg => (And.intro gi (True.intro))) (fun hg => opp_fieldF rfl rfl rfl fld26_3 rfl rfl) ?_
      first
        | refine sG _ rfl rfl rfl rfl (fun hg => (And.intro gi (True.intro))) (fun hg => opp_loadP rfl rfl rfl rfl bi rfl ty3) ?_
        | refine sG _ rfl rfl rfl rfl (fun hg => (And.intro gi (True.intro))) (fun hg => opp_loadF rfl rfl ty3) ?_
      first
        | refine sG _ rfl rfl rfl rfl (fun hg => (And.intro gi (True.intro))) (fun hg => opp_fieldP rfl rfl fld74_1 rfl) ?_
        | refine sG _ rfl rfl rfl rfl (fun hg => (And.intro gi (True.intro))) (fun hg => opp_fieldF rfl rfl rfl fld74_1 rfl rfl) ?_
      first
        | refine sG _ rfl rfl rfl rfl (fun hg => (And.intro gi (True.intro))) (fun hg => opp_loadP rfl rfl rfl rfl bi rfl ty3) ?_
        | refine sG _ rfl rfl rfl rfl (fun hg => (And.intro gi (True.intro))) (fun hg => opp_loadF rfl rfl ty3) ?_
      refine sG _ rfl rfl rfl rfl (fun hg => (And.intro gi (And.intro gi (True.intro)))) (fun hg => opp_cmp rfl rfl rfl rfl) ?_
      refine sPick rfl rfl rfl rfl (by exact True.intro) rfl rfl (fun hg => gi) (fun hg => gi) ?_
      refine sP (opp_mv (v := .bool _) rfl rfl) rfl rfl ?_
      first
        | refine sG _ rfl rfl rfl rfl (fun hg => (And.intro gi (True.intro))) (fun hg => opp_fieldP rfl rfl fld26_5 rfl) ?_
        | refine sG _ rfl rfl rfl rfl (fun hg => (And.intro gi (True.intro))) (fun hg => opp_fieldF rfl rfl rfl fld26_5 rfl rfl) ?_
      first
        | refine sG _ rfl rfl rfl rfl (fun hg => (And.intro gi (True.intro))) (fun hg => opp_loadP rfl rfl rfl rfl bi rfl ty3) ?_
        | refine sG _ rfl rfl rfl rfl (fun hg => (And.intro gi (True.intro))) (fun hg => opp_loadF rfl rfl ty3) ?_
      first
        | refine sG _ rfl rfl rfl rfl (fun hg => (And.intro gi (True.intro))) (fun hg => opp_fieldP rfl rfl fld74_2 rfl) ?_
        | refine sG _ rfl rfl rfl rfl (fun hg => (And.intro gi (True.intro))) (fun hg => opp_fieldF rfl rfl rfl fld74_2 rfl rfl) ?_
      first
        | refine sG _ rfl rfl rfl rfl (fun hg => (And.intro gi (True.intro))) (fun hg => opp_loadP rfl rfl rfl rfl bi rfl ty3) ?_
        | refine sG _ rfl rfl rfl rfl (fun hg => (And.intro gi (True.intro))) (fun hg => opp_loadF rfl rfl ty3) ?_
      refine sG _ rfl rfl rfl rfl (fun hg => (And.intro gi (And.intro gi (True.intro)))) (fun hg => opp_cmp rfl rfl rfl rfl) ?_
      refine sPick rfl rfl rfl rfl (by exact True.intro) rfl rfl (fun hg => gi) (fun hg => gi) ?_
      refine awp_cond _ rfl (fun hc10 => ?_) (fun hc10 => ?_)
      · (try simp only [cmpI, errD_nil, Bool.not_eq_true', Bool.not_eq_false', decide_eq_true_eq, decide_eq_false_iff_not] at hc10); have ht44 := hc10
        refine awp_seq ?_
        refine awp_region rfl ?_
        refine sP (opp_build rfl z74 bld74 rfl [.int .i64 0, .int .i64 0, .int .i64 0, .agg [.int .i64 0, .int .i64 0, .int .i64 0], .sl 1 true 0 (fun _ => .top)] rfl) rfl rfl ?_
        refine sR0 (opr_store (v := .agg _) (trn := (.agg _)) rfl rfl rfl rfl bi rfl rfl rfl rfl fr2 ty74 (fun _ _ h => h)) rfl rfl rfl ?_
        refine sP (opp_as (v := .bool _) rfl rfl) rfl rfl ?_
        refine sP (opp_as (v := .int _ _) rfl rfl) rfl rfl ?_
        refine awp_ret ?_
        repeat (first | refine athen_ret ?_ | refine ain_ret ?_)
        first
          | refine apost_ret (aend (l := [.agg _, .bool _, .int _ _]) (.cell rfl rfl rfl (by exact True.intro) rfl ty74 (.tmp (.tmp .nil))) (fun h => by cases h) (.cons (.noN rfl rfl) (.cons (.noN rfl rfl) (.cons (.noN rfl rfl) .nil))) ⟨Wk.v ?_, rfl, rfl⟩)
          | refine apost_ret (aends (l := [.agg _, .bool _, .int _ _]) (.cell rfl rfl rfl (by exact True.intro) rfl ty74 (.tmp (.tmp .nil))) (fun h => by cases h) (.cons shut (fun h => by cases h) (.cons shut (fun h => by cases h) (.cons shut (fun h => by cases h) .nil))) rfl ⟨Wk.v ?_, rfl, rfl⟩)
        have hq : n.part ≠ s.part ∨ n.xid ≠ s.xid ∨ n.stage ≠ s.stage ∨ n.total ≠ s.total := by
          refine Classical.byContradiction fun hne => ?_
          simp only [not_or, Decidable.not_not, ne_eq] at hne
          obtain ⟨h1, h2, h3, h4⟩ := hne
          simp [h1, h2, h3, h4] at ht44
        rw [show Sp.add s n = (Sp.zeroS, false, 10) by simp only [Sp.add, hgs, hch]; simp [if_pos hq]]; show Wk _ (.tup [stageAV true Sp.zeroS, .bool false, .int .i64 10]); simp only [stageAV, Sp.zeroS, xidAV, List.length_nil]; (repeat' (first | exact Wk.refl | exact Wk.sl0 | apply Wk.tup | apply Wk.agg | apply WkL.cons | exact WkL.nil | refine Wk.sl (fun _ _ => ?_)))
      · (try simp only [cmpI, errD_nil, Bool.not_eq_true', Bool.not_eq_false', decide_eq_true_eq, decide_eq_false_iff_not] at hc10); have ht44 := hc10
        refine awp_skip ?_
        refine awp_seq ?_
        have hq : n.part = s.part ∧ n.xid = s.xid ∧ n.stage = s.stage ∧ n.total = s.total := by
          rw [Xid.eq_iff]; simpa [and_assoc] using ht44
        refine awp_region rfl ?_
        first
          | refine sP (opp_fieldP rfl rfl fld74_4 rfl) rfl rfl ?_
          | refine sP (opp_fieldF rfl rfl rfl fld74_4 rfl rfl) rfl rfl ?_
        first
          | refine sP (opp_loadP rfl rfl rfl rfl bi rfl ty51) rfl rfl ?_
          | refine sP (opp_loadF rfl rfl ty51) rfl rfl ?_
        first
          | refine sP (opp_fieldP rfl rfl fld26_4 rfl) rfl rfl ?_
          | refine sP (opp_fieldF rfl rfl rfl fld26_4 rfl rfl) rfl rfl ?_
        first
          | refine sP (opp_loadP rfl rfl rfl rfl bi rfl ty3) rfl rfl ?_
          | refine sP (opp_loadF rfl rfl ty3) rfl rfl ?_
        first
          | refine sP (opp_indexSl rfl rfl rfl el51 (by omega) (by omega)) rfl rfl ?_
          | refine sP (opp_indexOsl0 rfl rfl rfl el51 (by omega) (by omega)) rfl rfl ?_
          | refine sP (opp_indexOsl rfl rfl rfl el51 (by omega) (by omega)) rfl rfl ?_
        first
          | refine sP (opp_loadP rfl rfl rfl rfl bi rfl ty9) rfl rfl ?_
          | refine sP (opp_loadF rfl rfl ty9) rfl rfl ?_
        refine sP (opp_as (v := .str _) rfl rfl) rfl rfl ?_
        refine awp_seq ?_
        refine awp_seq ?_
        refine awp_region rfl ?_
        refine sP (opp_mv (v := .str _) rfl rfl) rfl rfl ?_
        refine sP (opp_strEq (b := []) rfl rfl rfl (.inr ⟨rfl, rfl⟩)) rfl rfl ?_
        refine sP (opp_mv (v := .bool _) rfl rfl) rfl rfl ?_
        refine sG _ rfl rfl rfl rfl (fun hg => (And.intro gi (True.intro))) (fun hg => opp_mv (v := .str _) rfl rfl) ?_
        first
          | refine sG _ rfl rfl rfl rfl (fun hg => (And.intro gi (True.intro))) (fun hg => opp_fieldP rfl rfl fld26_7 rfl) ?_
          | refine sG _ rfl rfl rfl rfl (fun hg => (And.intro gi (True.intro))) (fun hg => opp_fieldF rfl rfl rfl fld26_7 rfl rfl) ?_
        first
          | refine sG _ rfl rfl rfl rfl (fun hg => (And.intro gi (True.intro))) (fun hg => opp_loadP rfl rfl rfl rfl bi rfl ty9) ?_
          | refine sG _ rfl rfl rfl rfl (fun hg => (And.intro gi (True.intro))) (fun hg => opp_loadF rfl rfl ty9) ?_
        refine sG _ rfl rfl rfl rfl (fun hg => (And.intro gi (And.intro gi (True.intro)))) (fun hg => opp_strEq rfl rfl rfl (.inr ⟨rfl, rfl⟩)) ?_
        refine sPick rfl rfl rfl rfl (by exact True.intro) rfl rfl (fun hg => gi) (fun hg => gi) ?_
        refine awp_cond _ rfl (fun hc14 => ?_) (fun hc14 => ?_)
        · (try simp only [cmpI, errD_nil, Bool.not_eq_true', Bool.not_eq_false', decide_eq_true_eq, decide_eq_false_iff_not] at hc14); have ht59 := hc14
          refine awp_seq ?_
          refine awp_region rfl ?_
          refine sP (opp_build rfl z74 bld74 rfl [.int .i64 0, .int .i64 0, .int .i64 0, .agg [.int .i64 0, .int .i64 0, .int .i64 0], .sl 1 true 0 (fun _ => .top)] rfl) rfl rfl ?_
          refine sR0 (opr_store (v := .agg _) (trn := (.agg _)) rfl rfl rfl rfl bi rfl rfl rfl rfl fr2 ty74 (fun _ _ h => h)) rfl rfl rfl ?_
          refine sP (opp_as (v := .bool _) rfl rfl) rfl rfl ?_
          refine sP (opp_as (v := .int _ _) rfl rfl) rfl rfl ?_
          refine awp_ret ?_
          repeat (first | refine athen_ret ?_ | refine ain_ret ?_)
          first
            | refine apost_ret (aend (l := [.agg _, .bool _, .int _ _]) (.cell rfl rfl rfl (by exact True.intro) rfl ty74 (.tmp (.tmp .nil))) (fun h => by cases h) (.cons (.noN rfl rfl) (.cons (.noN rfl rfl) (.cons (.noN rfl rfl) .nil))) ⟨Wk.v ?_, rfl, rfl⟩)
            | refine apost_ret (aends (l := [.agg _, .bool _, .int _ _]) (.cell rfl rfl rfl (by exact True.intro) rfl ty74 (.tmp (.tmp .nil))) (fun h => by cases h) (.cons shut (fun h => by cases h) (.cons shut (fun h => by cases h) (.cons shut (fun h => by cases h) .nil))) rfl ⟨Wk.v ?_, rfl, rfl⟩)
          have hd : s.pieces.getD n.index.toNat [] ≠ [] ∧ s.pieces.getD n.index.toNat [] ≠ n.data := by
            generalize s.pieces.getD n.index.toNat [] = y at ht59
            by_cases h1 : y = [] <;> by_cases h2 : y = n.data <;> simp_all
          rw [show Sp.add s n = (Sp.zeroS, false, 14) by simp only [Sp.add, hgs, hch, hq, if_pos hd]; simp]; show Wk _ (.tup [stageAV true Sp.zeroS, .bool false, .int .i64 14]); simp only [stageAV, Sp.zeroS, xidAV, List.length_nil]; (repeat' (first | exact Wk.refl | exact Wk.sl0 | apply Wk.tup | apply Wk.agg | apply WkL.cons | exact WkL.nil | refine Wk.sl (fun _ _ => ?_)))
        · (try simp only [cmpI, errD_nil, Bool.not_eq_true', Bool.not_eq_false', decide_eq_true_eq, decide_eq_false_iff_not] at hc14); have ht59 := hc14
          refine awp_skip ?_
          refine awp_seq ?_
          refine awp_region rfl ?_
          refine sR (opr_buildSlice (n := 61) (g := fun _ => .str []) rfl eb51 z9 (by decide) rfl rfl) rfl rfl rfl ?_
          first
            | refine sP (opp_fieldP rfl rfl fld74_4 rfl) rfl rfl ?_
            | refine sP (opp_fieldF rfl rfl rfl fld74_4 rfl rfl) rfl rfl ?_
          first
            | refine sP (opp_loadP rfl rfl rfl rfl bi rfl ty51) rfl rfl ?_
            | refine sP (opp_loadF rfl rfl ty51) rfl rfl ?_
          first
            | refine sR (opr_append (d := 64) rfl rfl rfl (by omega) (.osl0 rfl (by omega)) eb51 z9 (by omega) (by omega)) rfl rfl rfl ?_
            | refine sR (opr_append (d := 64) rfl rfl rfl (by omega) .sl eb51 z9 (by omega) (by omega)) rfl rfl rfl ?_
            | refine sR (opr_append (d := 64) rfl rfl rfl (by omega) (.osl rfl (by omega) (fun _ _ => rfl)) eb51 z9 (by omega) (by omega)) rfl rfl rfl ?_
            | refine sR (opr_appendNil (d := 64) rfl rfl (.osl0 rfl (by omega)) eb51 z9 (by omega) (by omega) (by omega)) rfl rfl rfl ?_
            | refine sR (opr_appendNil (d := 64) rfl rfl .sl eb51 z9 (by omega) (by omega) (by omega)) rfl rfl rfl ?_
            | refine sR (opr_appendNil (d := 64) rfl rfl (.osl rfl (by omega) (fun _ _ => rfl)) eb51 z9 (by omega) (by omega) (by omega)) rfl rfl rfl ?_
          first
            | refine sP (opp_fieldP rfl rfl fld74_4 rfl) rfl rfl ?_
            | refine sP (opp_fieldF rfl rfl rfl fld74_4 rfl rfl) rfl rfl ?_
          first
            | refine sR0 (opr_store (v := .sl _ _ _ _) (trn := (.agg [_, _, _, _, .sl _ _ _ _])) rfl rfl rfl rfl bi rfl rfl rfl rfl fr2 ty51 (fun _ _ h => h)) rfl rfl rfl ?_
            | refine sR0 (opr_store (v := .osl _ _ _ _ _) (trn := (.agg [_, _, _, _, .osl _ _ _ _ _])) rfl rfl rfl rfl bi rfl rfl rfl rfl fr2 ty51 (fun _ _ h => h)) rfl rfl rfl ?_
          refine awp_seq ?_
          refine awp_region rfl ?_
          first
            | refine sP (opp_fieldP rfl rfl fld74_4 rfl) rfl rfl ?_
            | refine sP (opp_fieldF rfl rfl rfl fld74_4 rfl rfl) rfl rfl ?_
          first
            | refine sP (opp_loadP rfl rfl rfl rfl bi rfl ty51) rfl rfl ?_
            | refine sP (opp_loadF rfl rfl ty51) rfl rfl ?_
          first
            | refine sP (opp_fieldP rfl rfl fld26_4 rfl) rfl rfl ?_
            | refine sP (opp_fieldF rfl rfl rfl fld26_4 rfl rfl) rfl rfl ?_
          first
            | refine sP (opp_loadP rfl rfl rfl rfl bi rfl ty3) rfl rfl ?_
            | refine sP (opp_loadF rfl rfl ty3) rfl rfl ?_
          first
            | refine sP (opp_fieldP rfl rfl fld26_7 rfl) rfl rfl ?_
            | refine sP (opp_fieldF rfl rfl rfl fld26_7 rfl rfl) rfl rfl ?_
          first
            | refine sP (opp_loadP rfl rfl rfl rfl bi rfl ty9) rfl rfl ?_
            | refine sP (opp_loadF rfl rfl ty9) rfl rfl ?_
          first
            | refine sP (opp_indexSl rfl rfl rfl el51 (by omega) (by omega)) rfl rfl ?_
            | refine sP (opp_indexOsl0 rfl rfl rfl el51 (by omega) (by omega)) rfl rfl ?_
            | refine sP (opp_indexOsl rfl rfl rfl el51 (by omega) (by omega)) rfl rfl ?_
          refine sR0 (opr_storeA (v := .str _) rfl rfl rfl (by omega) rfl rfl rfl rfl rfl ty9) rfl rfl rfl ?_
          refine awp_seq ?_
          refine awp_region rfl ?_
          first
            | refine sP (opp_loadP rfl rfl rfl rfl bi rfl ty74) rfl rfl ?_
            | refine sP (opp_loadF rfl rfl ty74) rfl rfl ?_
          refine sP (opp_mv (v := .str _) rfl rfl) rfl rfl ?_
          refine sP (opp_strEq (b := []) rfl rfl rfl (.inl ⟨rfl, rfl⟩)) rfl rfl ?_
          refine sR0 (opr_store (v := .agg _) (trn := (.agg _)) rfl rfl rfl rfl bi rfl rfl rfl rfl fr2 ty74 (fun _ _ h => h)) rfl rfl rfl ?_
          refine sP (opp_as (v := .bool _) rfl rfl) rfl rfl ?_
          refine sP (opp_as (v := .int _ _) rfl rfl) rfl rfl ?_
          refine awp_ret ?_
          repeat (first | refine athen_ret ?_ | refine ain_ret ?_)
          first
            | refine apost_ret (aend (l := [.agg _, .bool _, .int _ _]) (.cell rfl rfl rfl (by exact True.intro) rfl ty74 (.tmp (.tmp .nil))) (fun h => by cases h) (.cons (.noN rfl rfl) (.cons (.noN rfl rfl) (.cons (.noN rfl rfl) .nil))) ⟨Wk.v ?_, rfl, rfl⟩)
            | refine apost_ret (aends (l := [.agg _, .bool _, .int _ _]) (.cell rfl rfl rfl (by exact True.intro) rfl ty74 (.tmp (.tmp .nil))) (fun h => by cases h) (.cons shut (fun h => by cases h) (.cons shut (fun h => by cases h) (.cons shut (fun h => by cases h) .nil))) rfl ⟨Wk.v ?_, rfl, rfl⟩)
          have hd : ¬ (s.pieces.getD n.index.toNat [] ≠ [] ∧ s.pieces.getD n.index.toNat [] ≠ n.data) := by
            generalize s.pieces.getD n.index.toNat [] = y at ht59
            by_cases h1 : y = [] <;> by_cases h2 : y = n.data <;> simp_all
          rw [show Sp.add s n = ({ s with pieces := s.pieces.set n.index.toNat n.data }, decide (s.pieces.getD n.index.toNat [] = []), 0) by simp only [Sp.add, hgs, hch, hq, if_neg hd]; simp]
          show Wk _ (.tup [stageAV false _, .bool _, .int .i64 0]); simp only [stageAV, xidAV, List.length_set, Nat.zero_add]; (repeat' (first | exact Wk.refl | exact Wk.sl0 | apply Wk.tup | apply Wk.agg | apply WkL.cons | exact WkL.nil | refine Wk.sl (fun _ _ => ?_)))
          rename_i j hj; simp only [strAt, List.getD_eq_getElem?_getD, List.getElem?_set]
          by_cases hj2 : j = n.index.toNat
          · subst hj2; simp [hj]
          · rw [if_neg hj2, if_neg (Ne.symm hj2)]; simp
theorem c51 (n : Note) : APure (V ea cds gl) 51 [noteAV n, .int .i64 7, .int .u32 0] false (.tup [noteAV (Sp.answer n 7 0).1, .int .i64 ((Sp.answer n 7 0).2 : Nat)]) := by
  refine acalls_of_body (N := 77) Tryd.func51 rfl rfl (Nat.le_of_ble_eq_true rfl) fun C hV hN hM hO => ?_
  obtain ⟨_, _, w0, G0, σ0, _, own0⟩ := C; dsimp only at hV hN hM hO; subst hV; subst hN; subst hM
  refine awp_seq ?_
  refine awp_region rfl ?_
  refine sR (opr_box (y := .agg _) (n := 3) rfl rfl rfl) rfl rfl rfl ?_
  refine sR (opr_alloc (n := 6) rfl z26) rfl rfl rfl ?_
  refine sP (opp_as (v := .int _ _) rfl rfl) rfl rfl ?_
  refine awp_seq ?_
  refine awp_region rfl ?_
  first
    | refine sP (opp_loadP rfl rfl rfl rfl bi rfl ty26) rfl rfl ?_
    | refine sP (opp_loadF rfl rfl ty26) rfl rfl ?_
  refine sR (opr_call rfl rfl ent16 rfl (c16 n) (AViews.refl _ rfl)) rfl rfl rfl ?_ -- d=11 t=3
  refine sP (opp_as (v := .int _ _) rfl rfl) rfl rfl ?_
  refine awp_seq ?_
  refine awp_seq ?_
  refine awp_region rfl ?_
  refine sP (opp_mv (v := .int _ _) rfl rfl) rfl rfl ?_
  refine sP (opp_cmp rfl rfl rfl rfl) rfl rfl ?_
  refine awp_cond _ rfl (fun hc4 => ?_) (fun hc4 => ?_)
  · (try simp only [cmpI, errD_nil, Bool.not_eq_true', Bool.not_eq_false', decide_eq_true_eq, decide_eq_false_iff_not] at hc4); have ht13 := hc4
    refine awp_seq ?_
    refine awp_region rfl ?_
    refine sP (opp_build rfl z26 bld26 rfl [.int .i64 0, .int .i64 0, .agg [.int .i64 0, .int .i64 0, .int .i64 0], .int .i64 0, .int .i64 0, .int .i64 0, .int .u32 0, .str []] rfl) rfl rfl ?_
    refine sP (opp_mv (v := .int _ _) rfl rfl) rfl rfl ?_
    refine sR0 (opr_store (v := .agg _) (trn := (.agg _)) rfl rfl rfl rfl bi rfl rfl rfl rfl fr2 ty26 (fun _ _ h => h)) rfl rfl rfl ?_
    refine sP (opp_as (v := .int _ _) rfl rfl) rfl rfl ?_
    refine awp_ret ?_
    repeat (first | refine athen_ret ?_ | refine ain_ret ?_)
    first
      | refine apost_ret (aend (l := [.agg _, .int _ _]) (.cell rfl rfl rfl (by exact True.intro) rfl ty26 (.tmp .nil)) (fun h => by cases h) (.cons (.noN rfl rfl) (.cons (.noN rfl rfl) .nil)) ⟨Wk.v ?_, rfl, rfl⟩)
      | refine apost_ret (aends (l := [.agg _, .int _ _]) (.cell rfl rfl rfl (by exact True.intro) rfl ty26 (.tmp .nil)) (fun h => by cases h) (.cons shut (fun h => by cases h) (.cons shut (fun h => by cases h) .nil)) rfl ⟨Wk.v ?_, rfl, rfl⟩)
    refine .of ?_
    try simp only [cmpI, Bool.not_eq_true', Bool.not_eq_false', decide_eq_true_eq, decide_eq_false_iff_not] at *
    first | (exfalso; omega) | (simp_all [Sp.answer, noteAV, xidAV, Sp.zero]; done) | (simp_all [Sp.answer, noteAV, xidAV, Sp.zero]; omega)
  · (try simp only [cmpI, errD_nil, Bool.not_eq_true', Bool.not_eq_false', decide_eq_true_eq, decide_eq_false_iff_not] at hc4); have ht13 := hc4
    refine awp_skip ?_
    refine awp_seq ?_
    refine awp_seq ?_
    refine awp_region rfl ?_
    refine sP (opp_mv (v := .int _ _) rfl rfl) rfl rfl ?_
    refine sP (opp_cmp rfl rfl rfl rfl) rfl rfl ?_
    refine sP (opp_mv (v := .bool _) rfl rfl) rfl rfl ?_
    refine sG _ rfl rfl rfl rfl (fun hg => (And.intro gi (True.intro))) (fun hg => opp_mv (v := .int _ _) rfl rfl) ?_
    refine sG _ rfl rfl rfl rfl (fun hg => (And.intro gi (And.intro gi (True.intro)))) (fun hg => opp_cmp rfl rfl rfl rfl) ?_
    refine sPick rfl rfl rfl rfl (by exact True.intro) rfl rfl (fun hg => gi) (fun hg => gi) ?_
    refine sP (opp_mv (v := .bool _) rfl rfl) rfl rfl ?_
    refine sG _ rfl rfl rfl rfl (fun hg => (And.intro gi (True.intro))) (fun hg => opp_mv (v := .int _ _) rfl rfl) ?_
    refine sG _ rfl rfl rfl rfl (fun hg => (And.intro gi (And.intro gi (True.intro)))) (fun hg => opp_cmp rfl rfl rfl rfl) ?_
    refine sPick rfl rfl rfl rfl (by exact True.intro) rfl rfl (fun hg => gi) (fun hg => gi) ?_
    refine sP (opp_mv (v := .bool _) rfl rfl) rfl rfl ?_
    refine sG _ rfl rfl rfl rfl (fun hg => (And.intro gi (True.intro))) (fun hg => opp_mv (v := .int _ _) rfl rfl) ?_
    refine sG _ rfl rfl rfl rfl (fun hg => (And.intro gi (And.intro gi (True.intro)))) (fun hg => opp_cmp rfl rfl rfl rfl) ?_
    refine sPick rfl rfl rfl rfl (by exact True.intro) rfl rfl (fun hg => gi) (fun hg => gi) ?_
    refine awp_cond _ rfl (fun hc7 => ?_) (fun hc7 => ?_)
    · (try simp only [cmpI, errD_nil, Bool.not_eq_true', Bool.not_eq_false', decide_eq_true_eq, decide_eq_false_iff_not] at hc7); have ht29 := hc7
      refine awp_seq ?_
      refine awp_region rfl ?_
      refine sP (opp_build rfl z26 bld26 rfl [.int .i64 0, .int .i64 0, .agg [.int .i64 0, .int .i64 0, .int .i64 0], .int .i64 0, .int .i64 0, .int .i64 0, .int .u32 0, .str []] rfl) rfl rfl ?_
      refine sR0 (opr_store (v := .agg _) (trn := (.agg _)) rfl rfl rfl rfl bi rfl rfl rfl rfl fr2 ty26 (fun _ _ h => h)) rfl rfl rfl ?_
      refine sP (opp_as (v := .int _ _) rfl rfl) rfl rfl ?_
      refine awp_ret ?_
      repeat (first | refine athen_ret ?_ | refine ain_ret ?_)
      first
        | refine apost_ret (aend (l := [.agg _, .int _ _]) (.cell rfl rfl rfl (by exact True.intro) rfl ty26 (.tmp .nil)) (fun h => by cases h) (.cons (.noN rfl rfl) (.cons (.noN rfl rfl) .nil)) ⟨Wk.v ?_, rfl, rfl⟩)
        | refine apost_ret (aends (l := [.agg _, .int _ _]) (.cell rfl rfl rfl (by exact True.intro) rfl ty26 (.tmp .nil)) (fun h => by cases h) (.cons shut (fun h => by cases h) (.cons shut (fun h => by cases h) .nil)) rfl ⟨Wk.v ?_, rfl, rfl⟩)
      refine .of ?_
      try simp only [cmpI, Bool.not_eq_true', Bool.not_eq_false', decide_eq_true_eq, decide_eq_false_iff_not] at *
      first | (exfalso; omega) | (simp_all [Sp.answer, noteAV, xidAV, Sp.zero]; done) | (simp_all [Sp.answer, noteAV, xidAV, Sp.zero]; omega)
    · (try simp only [cmpI, errD_nil, Bool.not_eq_true', Bool.not_eq_false', decide_eq_true_eq, decide_eq_false_iff_not] at hc7); have ht29 := hc7
      refine awp_skip ?_
      refine awp_seq ?_
      refine awp_seq ?_
      refine awp_region rfl ?_
      refine sP (opp_mv (v := .int _ _) rfl rfl) rfl rfl ?_
      refine sP (opp_cmp rfl rfl rfl rfl) rfl rfl ?_
      refine sP (opp_mv (v := .bool _) rfl rfl) rfl rfl ?_
      first
        | refine sG _ rfl rfl rfl rfl (fun hg => (And.intro gi (True.intro))) (fun hg => opp_fieldP rfl rfl fld26_0 rfl) ?_
        | refine sG _ rfl rfl rfl rfl (fun hg => (And.intro gi (True.intro))) (fun hg => opp_fieldF rfl rfl rfl fld26_0 rfl rfl) ?_
      first
        | refine sG _ rfl rfl rfl rfl (fun hg => (And.intro gi (True.intro))) (fun hg => opp_loadP rfl rfl rfl rfl bi rfl ty3) ?_
        | refine sG _ rfl rfl rfl rfl (fun hg => (And.intro gi (True.intro))) (fun hg => opp_loadF rfl rfl ty3) ?_
      refine sG _ rfl rfl rfl rfl (fun hg => (And.intro gi (And.intro gi (True.intro)))) (fun hg => opp_cmp rfl rfl rfl rfl) ?_
      refine sPick rfl rfl rfl rfl (by exact True.intro) rfl rfl (fun hg => gi) (fun hg => gi) ?_
      refine sP (opp_mv (v := .bool _) rfl rfl) rfl rfl ?_
      refine sG _ rfl rfl rfl rfl (fun hg => (And.intro gi (True.intro))) (fun hg => opp_mv (v := .int _ _) rfl rfl) ?_
      refine sG _ rfl rfl rfl rfl (fun hg => (And.intro gi (And.intro gi (True.intro)))) (fun hg => opp_cmp rfl rfl rfl rfl) ?_
      refine sG _ rfl rfl rfl rfl (fun hg => (And.intro gi (True.intro))) (fun hg => opp_mv (v := .bool _) rfl rfl) ?_
      first
        | refine sG _ rfl rfl rfl rfl (fun hg => (And.intro gi (True.intro))) (fun hg => opp_fieldP rfl rfl fld26_0 rfl) ?_
        | refine sG _ rfl rfl rfl rfl (fun hg => (And.intro gi (True.intro))) (fun hg => opp_fieldF rfl rfl rfl fld26_0 rfl rfl) ?_
      first
        | refine sG _ rfl rfl rfl rfl (fun hg => (And.intro gi (True.intro))) (fun hg => opp_loadP rfl rfl rfl rfl bi rfl ty3) ?_
        | refine sG _ rfl rfl rfl rfl (fun hg => (And.intro gi (True.intro))) (fun hg => opp_loadF rfl rfl ty3) ?_
      refine sG _ rfl rfl rfl rfl (fun hg => (And.intro gi (And.intro gi (True.intro)))) (fun hg => opp_cmp rfl rfl rfl rfl) ?_
      refine sPickG _ rfl rfl rfl rfl rfl rfl (fun hg => by first | exact True.intro | exact And.intro hg True.intro | (refine And.intro ?_ True.intro; simp_all; done)) rfl rfl (fun h0 hg => g2) (fun h0 hg => g2) ?_
      refine sPick rfl rfl rfl rfl (by exact True.intro) rfl rfl (fun hg => gi) (fun hg => gi) ?_
      refine sP (opp_mv (v := .bool _) rfl rfl) rfl rfl ?_
      refine sG _ rfl rfl rfl rfl (fun hg => (And.intro gi (True.intro))) (fun hg => opp_mv (v := .int _ _) rfl rfl) ?_
      refine sG _ rfl rfl rfl rfl (fun hg => (And.intro gi (And.intro gi (True.intro)))) (fun hg => opp_cmp rfl rfl rfl rfl) ?_
      refine sG _ rfl rfl rfl rfl (fun hg => (And.intro gi (True.intro))) (fun hg => opp_mv (v := .bool _) rfl rfl) ?_
      refine sG _ rfl rfl rfl rfl (fun hg => (And.intro gi (True.intro))) (fun hg => opp_mv (v := .int _ _) rfl rfl) ?_
      refine sG _ rfl rfl rfl rfl (fun hg => (And.intro gi (And.intro gi (True.intro)))) (fun hg => opp_cmp rfl rfl rfl rfl) ?_
      refine sPickG _ rfl rfl rfl rfl rfl rfl (fun hg => by first | exact True.intro | exact And.intro hg True.intro | (refine And.intro ?_ True.intro; simp_all; done)) rfl rfl (fun h0 hg => g2) (fun h0 hg => g2) ?_
      refine sPick rfl rfl rfl rfl (by exact True.intro) rfl rfl (fun hg => gi) (fun hg => gi) ?_
      refine awp_cond _ rfl (fun hc10 => ?_) (fun hc10 => ?_)
      · (try simp only [cmpI, errD_nil, Bool.not_eq_true', Bool.not_eq_false', decide_eq_true_eq, decide_eq_false_iff_not] at hc10); have ht54 := hc10
        refine awp_seq ?_
        refine awp_region rfl ?_
        refine sP (opp_build rfl z26 bld26 rfl [.int .i64 0, .int .i64 0, .agg [.int .i64 0, .int .i64 0, .int .i64 0], .int .i64 0, .int .i64 0, .int .i64 0, .int .u32 0, .str []] rfl) rfl rfl ?_
        refine sR0 (opr_store (v := .agg _) (trn := (.agg _)) rfl rfl rfl rfl bi rfl rfl rfl rfl fr2 ty26 (fun _ _ h => h)) rfl rfl rfl ?_
        refine sP (opp_as (v := .int _ _) rfl rfl) rfl rfl ?_
        refine awp_ret ?_
        repeat (first | refine athen_ret ?_ | refine ain_ret ?_)
        first
          | refine apost_ret (aend (l := [.agg _, .int _ _]) (.cell rfl rfl rfl (by exact True.intro) rfl ty26 (.tmp .nil)) (fun h => by cases h) (.cons (.noN rfl rfl) (.cons (.noN rfl rfl) .nil)) ⟨Wk.v ?_, rfl, rfl⟩)
          | refine apost_ret (aends (l := [.agg _, .int _ _]) (.cell rfl rfl rfl (by exact True.intro) rfl ty26 (.tmp .nil)) (fun h => by cases h) (.cons shut (fun h => by cases h) (.cons shut (fun h => by cases h) .nil)) rfl ⟨Wk.v ?_, rfl, rfl⟩)
        refine .of ?_
        try simp only [cmpI, Bool.not_eq_true', Bool.not_eq_false', decide_eq_true_eq, decide_eq_false_iff_not] at *
        first | (exfalso; omega) | (simp_all [Sp.answer, noteAV, xidAV, Sp.zero]; done) | (simp_all [Sp.answer, noteAV, xidAV, Sp.zero]; omega)
      · (try simp only [cmpI, errD_nil, Bool.not_eq_true', Bool.not_eq_false', decide_eq_true_eq, decide_eq_false_iff_not] at hc10); have ht54 := hc10
        refine awp_skip ?_
        refine awp_seq ?_
        refine awp_region rfl ?_
        refine sP (opp_mv (v := .int _ _) rfl rfl) rfl rfl ?_
        first
          | refine sP (opp_fieldP rfl rfl fld26_1 rfl) rfl rfl ?_
          | refine sP (opp_fieldF rfl rfl rfl fld26_1 rfl rfl) rfl rfl ?_
        first
          | refine sP (opp_loadP rfl rfl rfl rfl bi rfl ty3) rfl rfl ?_
          | refine sP (opp_loadF rfl rfl ty3) rfl rfl ?_
        first
          | refine sP (opp_fieldP rfl rfl fld26_2 rfl) rfl rfl ?_
          | refine sP (opp_fieldF rfl rfl rfl fld26_2 rfl rfl) rfl rfl ?_
        first
          | refine sP (opp_loadP rfl rfl rfl rfl bi rfl ty23) rfl rfl ?_
          | refine sP (opp_loadF rfl rfl ty23) rfl rfl ?_
        refine sP (opp_mv (v := .int _ _) rfl rfl) rfl rfl ?_
        refine sP (opp_build rfl z26 bld26 rfl [.int _ _, .int _ _, .agg _, .int .i64 0, .int .i64 0, .int .i64 0, .int _ _, .str []] rfl) rfl rfl ?_
        refine sR (opr_alloc (n := 9) rfl z26) rfl rfl rfl ?_
        refine sR0 (opr_store (v := .agg _) (trn := (.agg _)) rfl rfl rfl rfl bi rfl rfl rfl rfl fr2 ty26 (fun _ _ h => h)) rfl rfl rfl ?_
        refine awp_seq ?_
        refine awp_seq ?_
        refine awp_region rfl ?_
        refine sP (opp_mv (v := .int _ _) rfl rfl) rfl rfl ?_
        refine sP (opp_cmp rfl rfl rfl rfl) rfl rfl ?_
        refine awp_cond _ rfl (fun hc14 => ?_) (fun hc14 => ?_)
        · (try simp only [cmpI, errD_nil, Bool.not_eq_true', Bool.not_eq_false', decide_eq_true_eq, decide_eq_false_iff_not] at hc14); have ht64 := hc14
          refine awp_region rfl ?_
          first
            | refine sP (opp_fieldP rfl rfl fld26_3 rfl) rfl rfl ?_
            | refine sP (opp_fieldF rfl rfl rfl fld26_3 rfl rfl) rfl rfl ?_
          first
            | refine sP (opp_loadP rfl rfl rfl rfl bi rfl ty3) rfl rfl ?_
            | refine sP (opp_loadF rfl rfl ty3) rfl rfl ?_
          first
            | refine sP (opp_fieldP rfl rfl fld26_3 rfl) rfl rfl ?_
            | refine sP (opp_fieldF rfl rfl rfl fld26_3 rfl rfl) rfl rfl ?_
          refine sR0 (opr_store (v := .int _ _) (trn := (.agg [_, _, _, .int _ _, _, _, _, _])) rfl rfl rfl rfl bi rfl rfl rfl rfl fr2 ty3 (fun _ _ h => h)) rfl rfl rfl ?_
          refine awp_seq ?_
          refine awp_seq ?_
          refine awp_region rfl ?_
          refine sP (opp_mv (v := .int _ _) rfl rfl) rfl rfl ?_
          refine sP (opp_cmp rfl rfl rfl rfl) rfl rfl ?_
          refine awp_cond _ rfl (fun hc17 => ?_) (fun hc17 => ?_)
          · (try simp only [cmpI, errD_nil, Bool.not_eq_true', Bool.not_eq_false', decide_eq_true_eq, decide_eq_false_iff_not] at hc17); have ht69 := hc17
            refine awp_draw hmix rfl (by kernel_rfl) ?_
            first
              | refine dP (fun _ => false) (opp_fieldP rfl rfl fld26_4 rfl) rfl rfl ?_
              | refine dP (fun _ => false) (opp_fieldF rfl rfl rfl fld26_4 rfl rfl) rfl rfl ?_
            first
              | refine dP (fun n => Nat.beq n 3) (opp_loadP rfl rfl rfl rfl bi rfl ty3) rfl rfl ?_
              | refine dP (fun n => Nat.beq n 3) (opp_loadF rfl rfl ty3) rfl rfl ?_
            first
              | refine dP (fun _ => false) (opp_fieldP rfl rfl fld26_5 rfl) rfl rfl ?_
              | refine dP (fun _ => false) (opp_fieldF rfl rfl rfl fld26_5 rfl rfl) rfl rfl ?_
            first
              | refine dP (fun n => Nat.beq n 3) (opp_loadP rfl rfl rfl rfl bi rfl ty3) rfl rfl ?_
              | refine dP (fun n => Nat.beq n 3) (opp_loadF rfl rfl ty3) rfl rfl ?_
            first
              | refine dP (fun _ => false) (opp_fieldP rfl rfl fld26_4 rfl) rfl rfl ?_
              | refine dP (fun _ => false) (opp_fieldF rfl rfl rfl fld26_4 rfl rfl) rfl rfl ?_
            refine dR0 (fun n => Nat.beq n 9) (opr_store (v := .int _ _) (trn := (.agg [_, _, _, _, .int _ _, _, _, _])) rfl rfl rfl rfl bi rfl rfl rfl rfl fr2 ty3 (fun _ _ h => h)) rfl rfl rfl ?_
            first
              | refine dP (fun _ => false) (opp_fieldP rfl rfl fld26_5 rfl) rfl rfl ?_
              | refine dP (fun _ => false) (opp_fieldF rfl rfl rfl fld26_5 rfl rfl) rfl rfl ?_
            refine dR0 (fun n => Nat.beq n 9) (opr_store (v := .int _ _) (trn := (.agg [_, _, _, _, _, .int _ _, _, _])) rfl rfl rfl rfl bi rfl rfl rfl rfl fr2 ty3 (fun _ _ h => h)) rfl rfl rfl ?_
            refine And.intro (by kernel_rfl) ?_
            refine awp_seq ?_
            refine awp_region rfl ?_
            first
              | refine sP (opp_loadP rfl rfl rfl rfl bi rfl ty26) rfl rfl ?_
              | refine sP (opp_loadF rfl rfl ty26) rfl rfl ?_
            refine sR0 (opr_store (v := .agg _) (trn := (.agg _)) rfl rfl rfl rfl bi rfl rfl rfl rfl fr2 ty26 (fun _ _ h => h)) rfl rfl rfl ?_
            refine sP (opp_as (v := .int _ _) rfl rfl) rfl rfl ?_
            refine awp_ret ?_
            repeat (first | refine athen_ret ?_ | refine ain_ret ?_)
            first
              | refine apost_ret (aend (l := [.agg _, .int _ _]) (.cell rfl rfl rfl (by exact True.intro) rfl ty26 (.tmp .nil)) (fun h => by cases h) (.cons (.noN rfl rfl) (.cons (.noN rfl rfl) .nil)) ⟨Wk.v ?_, rfl, rfl⟩)
              | refine apost_ret (aends (l := [.agg _, .int _ _]) (.cell rfl rfl rfl (by exact True.intro) rfl ty26 (.tmp .nil)) (fun h => by cases h) (.cons shut (fun h => by cases h) (.cons shut (fun h => by cases h) .nil)) rfl ⟨Wk.v ?_, rfl, rfl⟩)
            refine .of ?_
            try simp only [cmpI, Bool.not_eq_true', Bool.not_eq_false', decide_eq_true_eq, decide_eq_false_iff_not] at *
            first | (exfalso; omega) | (simp_all [Sp.answer, noteAV, xidAV, Sp.zero]; done) | (simp_all [Sp.answer, noteAV, xidAV, Sp.zero]; omega)
          · (try simp only [cmpI, errD_nil, Bool.not_eq_true', Bool.not_eq_false', decide_eq_true_eq, decide_eq_false_iff_not] at hc17); have ht69 := hc17
            refine awp_skip ?_
            refine awp_seq ?_
            refine awp_region rfl ?_
            first
              | refine sP (opp_loadP rfl rfl rfl rfl bi rfl ty26) rfl rfl ?_
              | refine sP (opp_loadF rfl rfl ty26) rfl rfl ?_
            refine sR0 (opr_store (v := .agg _) (trn := (.agg _)) rfl rfl rfl rfl bi rfl rfl rfl rfl fr2 ty26 (fun _ _ h => h)) rfl rfl rfl ?_
            refine sP (opp_as (v := .int _ _) rfl rfl) rfl rfl ?_
            refine awp_ret ?_
            repeat (first | refine athen_ret ?_ | refine ain_ret ?_)
            first
              | refine apost_ret (aend (l := [.agg _, .int _ _]) (.cell rfl rfl rfl (by exact True.intro) rfl ty26 (.tmp .nil)) (fun h => by cases h) (.cons (.noN rfl rfl) (.cons (.noN rfl rfl) .nil)) ⟨Wk.v ?_, rfl, rfl⟩)
              | refine apost_ret (aends (l := [.agg _, .int _ _]) (.cell rfl rfl rfl (by exact True.intro) rfl ty26 (.tmp .nil)) (fun h => by cases h) (.cons shut (fun h => by cases h) (.cons shut (fun h => by cases h) .nil)) rfl ⟨Wk.v ?_, rfl, rfl⟩)
            refine .of ?_
            try simp only [cmpI, Bool.not_eq_true', Bool.not_eq_false', decide_eq_true_eq, decide_eq_false_iff_not] at *
            first | (exfalso; omega) | (simp_all [Sp.answer, noteAV, xidAV, Sp.zero]; done) | (simp_all [Sp.answer, noteAV, xidAV, Sp.zero]; omega)
        · (try simp only [cmpI, errD_nil, Bool.not_eq_true', Bool.not_eq_false', decide_eq_true_eq, decide_eq_false_iff_not] at hc14); have ht64 := hc14
          refine awp_skip ?_
          refine awp_seq ?_
          refine awp_seq ?_
          refine awp_region rfl ?_
          refine sP (opp_mv (v := .int _ _) rfl rfl) rfl rfl ?_
          refine sP (opp_cmp rfl rfl rfl rfl) rfl rfl ?_
          refine awp_cond _ rfl (fun hc22 => ?_) (fun hc22 => ?_)
          · (try simp only [cmpI, errD_nil, Bool.not_eq_true', Bool.not_eq_false', decide_eq_true_eq, decide_eq_false_iff_not] at hc22); have ht69 := hc22
            refine awp_draw hmix rfl (by kernel_rfl) ?_
            first
              | refine dP (fun _ => false) (opp_fieldP rfl rfl fld26_4 rfl) rfl rfl ?_
              | refine dP (fun _ => false) (opp_fieldF rfl rfl rfl fld26_4 rfl rfl) rfl rfl ?_
            first
              | refine dP (fun n => Nat.beq n 3) (opp_loadP rfl rfl rfl rfl bi rfl ty3) rfl rfl ?_
              | refine dP (fun n => Nat.beq n 3) (opp_loadF rfl rfl ty3) rfl rfl ?_
            first
              | refine dP (fun _ => false) (opp_fieldP rfl rfl fld26_5 rfl) rfl rfl ?_
              | refine dP (fun _ => false) (opp_fieldF rfl rfl rfl fld26_5 rfl rfl) rfl rfl ?_
            first
              | refine dP (fun n => Nat.beq n 3) (opp_loadP rfl rfl rfl rfl bi rfl ty3) rfl rfl ?_
              | refine dP (fun n => Nat.beq n 3) (opp_loadF rfl rfl ty3) rfl rfl ?_
            first
              | refine dP (fun _ => false) (opp_fieldP rfl rfl fld26_4 rfl) rfl rfl ?_
              | refine dP (fun _ => false) (opp_fieldF rfl rfl rfl fld26_4 rfl rfl) rfl rfl ?_
            refine dR0 (fun n => Nat.beq n 9) (opr_store (v := .int _ _) (trn := (.agg [_, _, _, _, .int _ _, _, _, _])) rfl rfl rfl rfl bi rfl rfl rfl rfl fr2 ty3 (fun _ _ h => h)) rfl rfl rfl ?_
            first
              | refine dP (fun _ => false) (opp_fieldP rfl rfl fld26_5 rfl) rfl rfl ?_
              | refine dP (fun _ => false) (opp_fieldF rfl rfl rfl fld26_5 rfl rfl) rfl rfl ?_
            refine dR0 (fun n => Nat.beq n 9) (opr_store (v := .int _ _) (trn := (.agg [_, _, _, _, _, .int _ _, _, _])) rfl rfl rfl rfl bi rfl rfl rfl rfl fr2 ty3 (fun _ _ h => h)) rfl rfl rfl ?_
            refine And.intro (by kernel_rfl) ?_
            refine awp_seq ?_
            refine awp_region rfl ?_
            first
              | refine sP (opp_loadP rfl rfl rfl rfl bi rfl ty26) rfl rfl ?_
              | refine sP (opp_loadF rfl rfl ty26) rfl rfl ?_
            refine sR0 (opr_store (v := .agg _) (trn := (.agg _)) rfl rfl rfl rfl bi rfl rfl rfl rfl fr2 ty26 (fun _ _ h => h)) rfl rfl rfl ?_
            refine sP (opp_as (v := .int _ _) rfl rfl) rfl rfl ?_
            refine awp_ret ?_
            repeat (first | refine athen_ret ?_ | refine ain_ret ?_)
            first
              | refine apost_ret (aend (l := [.agg _, .int _ _]) (.cell rfl rfl rfl (by exact True.intro) rfl ty26 (.tmp .nil)) (fun h => by cases h) (.cons (.noN rfl rfl) (.cons (.noN rfl rfl) .nil)) ⟨Wk.v ?_, rfl, rfl⟩)
              | refine apost_ret (aends (l := [.agg _, .int _ _]) (.cell rfl rfl rfl (by exact True.intro) rfl ty26 (.tmp .nil)) (fun h => by cases h) (.cons shut (fun h => by cases h) (.cons shut (fun h => by cases h) .nil)) rfl ⟨Wk.v ?_, rfl, rfl⟩)
            refine .of ?_
            try simp only [cmpI, Bool.not_eq_true', Bool.not_eq_false', decide_eq_true_eq, decide_eq_false_iff_not] at *
            first | (exfalso; omega) | (simp_all [Sp.answer, noteAV, xidAV, Sp.zero]; done) | (simp_all [Sp.answer, noteAV, xidAV, Sp.zero]; omega)
          · (try simp only [cmpI, errD_nil, Bool.not_eq_true', Bool.not_eq_false', decide_eq_true_eq, decide_eq_false_iff_not] at hc22); have ht69 := hc22
            refine awp_skip ?_
            refine awp_seq ?_
            refine awp_region rfl ?_
            first
              | refine sP (opp_loadP rfl rfl rfl rfl bi rfl ty26) rfl rfl ?_
              | refine sP (opp_loadF rfl rfl ty26) rfl rfl ?_
            refine sR0 (opr_store (v := .agg _) (trn := (.agg _)) rfl rfl rfl rfl bi rfl rfl rfl rfl fr2 ty26 (fun _ _ h => h)) rfl rfl rfl ?_
            refine sP (opp_as (v := .int _ _) rfl rfl) rfl rfl ?_
            refine awp_ret ?_
            repeat (first | refine athen_ret ?_ | refine ain_ret ?_)
            first
              | refine apost_ret (aend (l := [.agg _, .int _ _]) (.cell rfl rfl rfl (by exact True.intro) rfl ty26 (.tmp .nil)) (fun h => by cases h) (.cons (.noN rfl rfl) (.cons (.noN rfl rfl) .nil)) ⟨Wk.v ?_, rfl, rfl⟩)
              | refine apost_ret (aends (l := [.agg _, .int _ _]) (.cell rfl rfl rfl (by exact True.intro) rfl ty26 (.tmp .nil)) (fun h => by cases h) (.cons shut (fun h => by cases h) (.cons shut (fun h => by cases h) .nil)) rfl ⟨Wk.v ?_, rfl, rfl⟩)
            refine .of ?_
            try simp only [cmpI, Bool.not_eq_true', Bool.not_eq_false', decide_eq_true_eq, decide_eq_false_iff_not] at *
            first | (exfalso; omega) | (simp_all [Sp.answer, noteAV, xidAV, Sp.zero]; done) | (simp_all [Sp.answer, noteAV, xidAV, Sp.zero]; omega)
theorem c82 (b : Bool) (r : Recv) (h0 : r.stage.pieces.length ≤ 4611686018427387904) : APure (V ea cds gl) 82 [recvAV b r] false (.bool (Sp.goodR r)) := by
  refine acalls_of_body (N := 28) Tryd.func82 rfl rfl (Nat.le_of_ble_eq_true rfl) fun C hV hN hM hO => ?_
  obtain ⟨_, _, w0, G0, σ0, _, own0⟩ := C; dsimp only at hV hN hM hO; subst hV; subst hN; subst hM
  refine awp_seq ?_
  refine awp_region rfl ?_
  refine sR (opr_box (y := .agg _) (n := 1) rfl rfl rfl) rfl rfl rfl ?_
  refine sP (opp_as (v := .bool _) rfl rfl) rfl rfl ?_
  refine awp_seq ?_
  refine awp_seq ?_
  refine awp_region rfl ?_
  first
    | refine sP (opp_fieldP rfl rfl fld76_0 rfl) rfl rfl ?_
    | refine sP (opp_fieldF rfl rfl rfl fld76_0 rfl rfl) rfl rfl ?_
  first
    | refine sP (opp_loadP rfl rfl rfl rfl bi rfl ty4) rfl rfl ?_
    | refine sP (opp_loadF rfl rfl ty4) rfl rfl ?_
  refine sP (opp_not rfl rfl) rfl rfl ?_
  refine awp_cond _ rfl (fun hc3 => ?_) (fun hc3 => ?_)
  · (try simp only [cmpI, errD_nil, Bool.not_eq_true', Bool.not_eq_false', decide_eq_true_eq, decide_eq_false_iff_not] at hc3); have ht7 := hc3
    refine awp_seq ?_
    refine awp_region rfl ?_
    first
      | refine sP (opp_fieldP rfl rfl fld76_1 rfl) rfl rfl ?_
      | refine sP (opp_fieldF rfl rfl rfl fld76_1 rfl rfl) rfl rfl ?_
    first
      | refine sP (opp_loadP rfl rfl rfl rfl bi rfl ty74) rfl rfl ?_
      | refine sP (opp_loadF rfl rfl ty74) rfl rfl ?_
    refine sP (opp_build rfl z74 bld74 rfl [.int .i64 0, .int .i64 0, .int .i64 0, .agg [.int .i64 0, .int .i64 0, .int .i64 0], .sl 1 true 0 (fun _ => .top)] rfl) rfl rfl ?_
    refine sR (opr_call rfl rfl ent85 rfl (c85 b true r.stage Sp.zeroS h0) (.cons (aview_noN rfl) (.cons (aview_wk rfl (by show Wk _ (stageAV true Sp.zeroS); simp only [stageAV, Sp.zeroS, xidAV, List.length_nil]; (repeat' (first | exact Wk.refl | exact Wk.sl0 | apply Wk.tup | apply Wk.agg | apply WkL.cons | exact WkL.nil | refine Wk.sl (fun _ _ => ?_))))) .nil))) rfl rfl rfl ?_ -- d=11 t=4
    refine sP (opp_as (v := .bool _) rfl rfl) rfl rfl ?_
    refine awp_ret ?_
    repeat (first | refine athen_ret ?_ | refine ain_ret ?_)
    first
      | refine apost_ret (aend1 (r0 := .bool _) (.tmp .nil) (.noN rfl rfl) ⟨Wk.v ?_, rfl, rfl⟩)
      | refine apost_ret (aend1s (r0 := .bool _) (.tmp .nil) shut rfl ⟨Wk.v ?_, rfl, rfl⟩)
    have ho : r.on = false := by simpa using ht7
    rw [goodR_off ho]; exact .refl
  · (try simp only [cmpI, errD_nil, Bool.not_eq_true', Bool.not_eq_false', decide_eq_true_eq, decide_eq_false_iff_not] at hc3); have ht7 := hc3
    refine awp_skip ?_
    refine awp_seq ?_
    refine awp_region rfl ?_
    first
      | refine sP (opp_fieldP rfl rfl fld76_1 rfl) rfl rfl ?_
      | refine sP (opp_fieldF rfl rfl rfl fld76_1 rfl rfl) rfl rfl ?_
    first
      | refine sP (opp_loadP rfl rfl rfl rfl bi rfl ty74) rfl rfl ?_
      | refine sP (opp_loadF rfl rfl ty74) rfl rfl ?_
    refine sR (opr_call rfl rfl ent121 rfl (c121 b r.stage) (AViews.refl _ rfl)) rfl rfl rfl ?_ -- d=15 t=186
    refine sP (opp_mv (v := .tup _) rfl rfl) rfl rfl ?_
    refine sP (opp_extract rfl rfl rfl) rfl rfl ?_
    refine sP (opp_extract rfl rfl rfl) rfl rfl ?_
    first
      | refine sP (opp_as (v := .sl _ _ _ _) rfl rfl) rfl rfl ?_
      | refine sP (opp_as (v := .osl _ _ _ _ _) rfl rfl) rfl rfl ?_
    refine sP (opp_as (v := .int _ _) rfl rfl) rfl rfl ?_
    refine awp_seq ?_
    refine awp_region rfl ?_
    refine sP (opp_mv (v := .int _ _) rfl rfl) rfl rfl ?_
    refine sP (opp_cmp rfl rfl rfl rfl) rfl rfl ?_
    refine sP (opp_mv (v := .bool _) rfl rfl) rfl rfl ?_
    first
      | refine sG _ rfl rfl rfl rfl (fun hg => (And.intro gi (True.intro))) (fun hg => opp_mv (v := .sl _ _ _ _) rfl rfl) ?_
      | refine sG _ rfl rfl rfl rfl (fun hg => (And.intro gi (True.intro))) (fun hg => opp_mv (v := .osl _ _ _ _ _) rfl rfl) ?_
    first
      | refine sG _ rfl rfl rfl rfl (fun hg => (And.intro gi (True.intro))) (fun hg => opp_lenSl rfl rfl un42) ?_
      | refine sG _ rfl rfl rfl rfl (fun hg => (And.intro gi (True.intro))) (fun hg => opp_lenOsl rfl rfl un42) ?_
    first
      | refine sG _ rfl rfl rfl rfl (fun hg => (And.intro gi (True.intro))) (fun hg => opp_fieldP rfl rfl fld76_1 rfl) ?_
      | refine sG _ rfl rfl rfl rfl (fun hg => (And.intro gi (True.intro))) (fun hg => opp_fieldF rfl rfl rfl fld76_1 rfl rfl) ?_
    first
      | refine sG _ rfl rfl rfl rfl (fun hg => (And.intro gi (True.intro))) (fun hg => opp_fieldP rfl rfl fld74_2 rfl) ?_
      | refine sG _ rfl rfl rfl rfl (fun hg => (And.intro gi (True.intro))) (fun hg => opp_fieldF rfl rfl rfl fld74_2 rfl rfl) ?_
    first
      | refine sG _ rfl rfl rfl rfl (fun hg => (And.intro gi (True.intro))) (fun hg => opp_loadP rfl rfl rfl rfl bi rfl ty3) ?_
      | refine sG _ rfl rfl rfl rfl (fun hg => (And.intro gi (True.intro))) (fun hg => opp_loadF rfl rfl ty3) ?_
    refine sG _ rfl rfl rfl rfl (fun hg => (And.intro gi (And.intro gi (True.intro)))) (fun hg => opp_cmp rfl rfl rfl rfl) ?_
    refine sPick rfl rfl rfl rfl (by exact True.intro) rfl rfl (fun hg => gi) (fun hg => gi) ?_
    refine sP (opp_as (v := .bool _) rfl rfl) rfl rfl ?_
    refine awp_ret ?_
    repeat (first | refine athen_ret ?_ | refine ain_ret ?_)
    first
      | refine apost_ret (aend1 (r0 := .bool _) (.tmp .nil) (.noN rfl rfl) ⟨Wk.v ?_, rfl, rfl⟩)
      | refine apost_ret (aend1s (r0 := .bool _) (.tmp .nil) shut rfl ⟨Wk.v ?_, rfl, rfl⟩)
    have ho : ¬ r.on = false := by simpa using ht7
    rw [goodR_on ho]; refine .of (congrArg AV.bool ?_); by_cases h1 : (Sp.missing r.stage).2 = 0 <;> simp [cmpI, h1]
theorem c34 (b : Bool) (r : Recv) (n : Note) (h0 : r.stage.pieces.length ≤ 4611686018427387904) (h1 : b = true → r.stage.pieces.length = 0) :
    APure (V ea cds gl) 34 [recvAV b r, noteAV n] false (.tup [recvAV (decide ((Sp.take r n).2.2 ≠ 0)) (Sp.take r n).1, noteAV (Sp.take r n).2.1, .int .i64 ((Sp.take r n).2.2 : Nat)]) := by
  rw [take_ref]
  refine acalls_of_body (N := 59) Tryd.func34 rfl rfl (Nat.le_of_ble_eq_true rfl) fun C hV hN hM hO => ?_
  obtain ⟨_, _, w0, G0, σ0, _, own0⟩ := C; dsimp only at hV hN hM hO; subst hV; subst hN; subst hM
  refine awp_seq ?_
  refine awp_region rfl ?_
  refine sR (opr_box (y := .agg _) (n := 2) rfl rfl rfl) rfl rfl rfl ?_
  refine sR (opr_box (y := .agg _) (n := 3) rfl rfl rfl) rfl rfl rfl ?_
  refine sR (opr_alloc (n := 4) rfl z76) rfl rfl rfl ?_
  refine sR (opr_alloc (n := 5) rfl z26) rfl rfl rfl ?_
  refine sP (opp_as (v := .int _ _) rfl rfl) rfl rfl ?_
  refine awp_seq ?_
  refine awp_seq ?_
  refine awp_region rfl ?_
  first
    | refine sP (opp_loadP rfl rfl rfl rfl bi rfl ty76) rfl rfl ?_
    | refine sP (opp_loadF rfl rfl ty76) rfl rfl ?_
  refine sR (opr_call rfl rfl ent82 rfl (c82 b r h0) (AViews.refl _ rfl)) rfl rfl rfl ?_ -- d=14 t=4
  refine sP (opp_not rfl rfl) rfl rfl ?_
  refine awp_cond _ rfl (fun hc3 => ?_) (fun hc3 => ?_)
  · (try simp only [cmpI, errD_nil, Bool.not_eq_true', Bool.not_eq_false', decide_eq_true_eq, decide_eq_false_iff_not] at hc3); have ht15 := hc3
    refine awp_seq ?_
    refine awp_region rfl ?_
    refine sP (opp_build rfl z76 bld76 rfl [.bool false, .agg [.int .i64 0, .int .i64 0, .int .i64 0, .agg [.int .i64 0, .int .i64 0, .int .i64 0], .sl 1 true 0 (fun _ => .top)]] rfl) rfl rfl ?_
    refine sP (opp_build rfl z26 bld26 rfl [.int .i64 0, .int .i64 0, .agg [.int .i64 0, .int .i64 0, .int .i64 0], .int .i64 0, .int .i64 0, .int .i64 0, .int .u32 0, .str []] rfl) rfl rfl ?_
    refine sR0 (opr_store (v := .agg _) (trn := (.agg _)) rfl rfl rfl rfl bi rfl rfl rfl rfl fr2 ty76 (fun _ _ h => h)) rfl rfl rfl ?_
    refine sR0 (opr_store (v := .agg _) (trn := (.agg _)) rfl rfl rfl rfl bi rfl rfl rfl rfl fr2 ty26 (fun _ _ h => h)) rfl rfl rfl ?_
    refine sP (opp_as (v := .int _ _) rfl rfl) rfl rfl ?_
    refine awp_ret ?_
    repeat (first | refine athen_ret ?_ | refine ain_ret ?_)
    first
      | refine apost_ret (aend (l := [.agg _, .agg _, .int _ _]) (.cell rfl rfl rfl (by exact True.intro) rfl ty76 (.cell rfl rfl rfl (by exact True.intro) rfl ty26 (.tmp .nil))) (fun h => by cases h) (.cons (.noN rfl rfl) (.cons (.noN rfl rfl) (.cons (.noN rfl rfl) .nil))) ⟨Wk.v ?_, rfl, rfl⟩)
      | refine apost_ret (aends (l := [.agg _, .agg _, .int _ _]) (.cell rfl rfl rfl (by exact True.intro) rfl ty76 (.cell rfl rfl rfl (by exact True.intro) rfl ty26 (.tmp .nil))) (fun h => by cases h) (.cons shut (fun h => by cases h) (.cons shut (fun h => by cases h) (.cons shut (fun h => by cases h) .nil))) rfl ⟨Wk.v ?_, rfl, rfl⟩)
    rw [if_pos (by simpa using ht15)]; show Wk _ (.tup [recvAV true Sp.zeroR, noteAV Sp.zero, .int .i64 9]); simp only [recvAV, stageAV, noteAV, Sp.zeroR, Sp.zeroS, Sp.zero, xidAV, List.length_nil]; (repeat' (first | exact Wk.refl | exact Wk.sl0 | apply Wk.tup | apply Wk.agg | apply WkL.cons | exact WkL.nil | refine Wk.sl (fun _ _ => ?_)))
  · (try simp only [cmpI, errD_nil, Bool.not_eq_true', Bool.not_eq_false', decide_eq_true_eq, decide_eq_false_iff_not] at hc3); have ht15 := hc3
    refine awp_skip ?_
    refine awp_seq ?_
    have hg : ¬ Sp.goodR r = false := by simpa using ht15
    refine awp_region rfl ?_
    first
      | refine sP (opp_loadP rfl rfl rfl rfl bi rfl ty26) rfl rfl ?_
      | refine sP (opp_loadF rfl rfl ty26) rfl rfl ?_
    refine sR (opr_call rfl rfl ent83 rfl (c83 n) (AViews.refl _ rfl)) rfl rfl rfl ?_ -- d=20 t=150
    refine sP (opp_mv (v := .tup _) rfl rfl) rfl rfl ?_
    refine sP (opp_extract rfl rfl rfl) rfl rfl ?_
    refine sP (opp_extract rfl rfl rfl) rfl rfl ?_
    refine sR (opr_alloc (n := 7) rfl z74) rfl rfl rfl ?_
    refine sR0 (opr_store (v := .agg _) (trn := (.agg _)) rfl rfl rfl rfl bi rfl rfl rfl rfl fr2 ty74 (fun _ _ h => h)) rfl rfl rfl ?_
    refine sP (opp_as (v := .int _ _) rfl rfl) rfl rfl ?_
    refine awp_seq ?_
    refine awp_seq ?_
    refine awp_region rfl ?_
    refine sP (opp_mv (v := .int _ _) rfl rfl) rfl rfl ?_
    refine sP (opp_cmp rfl rfl rfl rfl) rfl rfl ?_
    refine awp_cond _ rfl (fun hc7 => ?_) (fun hc7 => ?_)
    · (try simp only [cmpI, errD_nil, Bool.not_eq_true', Bool.not_eq_false', decide_eq_true_eq, decide_eq_false_iff_not] at hc7); have ht24 := hc7
      refine awp_seq ?_
      refine awp_region rfl ?_
      refine sP (opp_build rfl z76 bld76 rfl [.bool false, .agg [.int .i64 0, .int .i64 0, .int .i64 0, .agg [.int .i64 0, .int .i64 0, .int .i64 0], .sl 1 true 0 (fun _ => .top)]] rfl) rfl rfl ?_
      refine sP (opp_build rfl z26 bld26 rfl [.int .i64 0, .int .i64 0, .agg [.int .i64 0, .int .i64 0, .int .i64 0], .int .i64 0, .int .i64 0, .int .i64 0, .int .u32 0, .str []] rfl) rfl rfl ?_
      refine sP (opp_mv (v := .int _ _) rfl rfl) rfl rfl ?_
      refine sR0 (opr_store (v := .agg _) (trn := (.agg _)) rfl rfl rfl rfl bi rfl rfl rfl rfl fr2 ty76 (fun _ _ h => h)) rfl rfl rfl ?_
      refine sR0 (opr_store (v := .agg _) (trn := (.agg _)) rfl rfl rfl rfl bi rfl rfl rfl rfl fr2 ty26 (fun _ _ h => h)) rfl rfl rfl ?_
      refine sP (opp_as (v := .int _ _) rfl rfl) rfl rfl ?_
      refine awp_ret ?_
      repeat (first | refine athen_ret ?_ | refine ain_ret ?_)
      first
        | refine apost_ret (aend (l := [.agg _, .agg _, .int _ _]) (.cell rfl rfl rfl (by exact True.intro) rfl ty76 (.cell rfl rfl rfl (by exact True.intro) rfl ty26 (.tmp .nil))) (fun h => by cases h) (.cons (.noN rfl rfl) (.cons (.noN rfl rfl) (.cons (.noN rfl rfl) .nil))) ⟨Wk.v ?_, rfl, rfl⟩)
        | refine apost_ret (aends (l := [.agg _, .agg _, .int _ _]) (.cell rfl rfl rfl (by exact True.intro) rfl ty76 (.cell rfl rfl rfl (by exact True.intro) rfl ty26 (.tmp .nil))) (fun h => by cases h) (.cons shut (fun h => by cases h) (.cons shut (fun h => by cases h) (.cons shut (fun h => by cases h) .nil))) rfl ⟨Wk.v ?_, rfl, rfl⟩)
      have hb : ¬ (Sp.begin_ n).2 = 0 := by simpa using ht24
      rw [if_neg hg, if_pos hb]; simp only [ne_eq, hb, not_false_eq_true, decide_true, recvAV, stageAV, noteAV, Sp.zeroR, Sp.zeroS, Sp.zero, xidAV, List.length_nil]; (repeat' (first | exact Wk.refl | exact Wk.sl0 | apply Wk.tup | apply Wk.agg | apply WkL.cons | exact WkL.nil | refine Wk.sl (fun _ _ => ?_)))
    · (try simp only [cmpI, errD_nil, Bool.not_eq_true', Bool.not_eq_false', decide_eq_true_eq, decide_eq_false_iff_not] at hc7); have ht24 := hc7
      refine awp_skip ?_
      refine awp_seq ?_
      have hb : (Sp.begin_ n).2 = 0 := by simpa using ht24
      refine awp_region rfl ?_
      first
        | refine sP (opp_loadP rfl rfl rfl rfl bi rfl ty26) rfl rfl ?_
        | refine sP (opp_loadF rfl rfl ty26) rfl rfl ?_
      refine sR (opr_call rfl rfl ent51 rfl (c51 n) (AViews.refl _ rfl)) rfl rfl rfl ?_ -- d=30 t=111
      refine sP (opp_mv (v := .tup _) rfl rfl) rfl rfl ?_
      refine sP (opp_extract rfl rfl rfl) rfl rfl ?_
      refine sP (opp_extract rfl rfl rfl) rfl rfl ?_
      refine sR (opr_alloc (n := 9) rfl z26) rfl rfl rfl ?_
      refine sR0 (opr_store (v := .agg _) (trn := (.agg _)) rfl rfl rfl rfl bi rfl rfl rfl rfl fr2 ty26 (fun _ _ h => h)) rfl rfl rfl ?_
      refine sP (opp_as (v := .int _ _) rfl rfl) rfl rfl ?_
      refine awp_seq ?_
      refine awp_region rfl ?_
      first
        | refine sP (opp_fieldP rfl rfl fld76_1 rfl) rfl rfl ?_
        | refine sP (opp_fieldF rfl rfl rfl fld76_1 rfl rfl) rfl rfl ?_
      first
        | refine sP (opp_loadP rfl rfl rfl rfl bi rfl ty74) rfl rfl ?_
        | refine sP (opp_loadF rfl rfl ty74) rfl rfl ?_
      first
        | refine sP (opp_loadP rfl rfl rfl rfl bi rfl ty26) rfl rfl ?_
        | refine sP (opp_loadF rfl rfl ty26) rfl rfl ?_
      refine sR (opr_call rfl rfl ent84 rfl (c84 b r.stage n h1) (AViews.refl _ rfl)) rfl rfl rfl ?_ -- d=37 t=152
      refine sP (opp_mv (v := .tup _) rfl rfl) rfl rfl ?_
      refine sP (opp_extract rfl rfl rfl) rfl rfl ?_
      refine sP (opp_extract rfl rfl rfl) rfl rfl ?_
      refine sP (opp_extract rfl rfl rfl) rfl rfl ?_
      refine sR (opr_alloc (n := 11) rfl z74) rfl rfl rfl ?_
      refine sR0 (opr_store (v := .agg _) (trn := (.agg _)) rfl rfl rfl rfl bi rfl rfl rfl rfl fr2 ty74 (fun _ _ h => h)) rfl rfl rfl ?_
      refine sP (opp_as (v := .bool _) rfl rfl) rfl rfl ?_
      refine sP (opp_as (v := .int _ _) rfl rfl) rfl rfl ?_
      refine awp_seq ?_
      refine awp_seq ?_
      refine awp_region rfl ?_
      first
        | refine sP (opp_fieldP rfl rfl fld76_0 rfl) rfl rfl ?_
        | refine sP (opp_fieldF rfl rfl rfl fld76_0 rfl rfl) rfl rfl ?_
      first
        | refine sP (opp_loadP rfl rfl rfl rfl bi rfl ty4) rfl rfl ?_
        | refine sP (opp_loadF rfl rfl ty4) rfl rfl ?_
      refine sP (opp_not rfl rfl) rfl rfl ?_
      refine sP (opp_mv (v := .bool _) rfl rfl) rfl rfl ?_
      refine sG _ rfl rfl rfl rfl (fun hg => (And.intro gi (True.intro))) (fun hg => opp_mv (v := .int _ _) rfl rfl) ?_
      refine sG _ rfl rfl rfl rfl (fun hg => (And.intro gi (And.intro gi (True.intro)))) (fun hg => opp_cmp rfl rfl rfl rfl) ?_
      refine sPick rfl rfl rfl rfl (by exact True.intro) rfl rfl (fun hg => gi) (fun hg => gi) ?_
      refine awp_cond _ rfl (fun hc12 => ?_) (fun hc12 => ?_)
      · (try simp only [cmpI, errD_nil, Bool.not_eq_true', Bool.not_eq_false', decide_eq_true_eq, decide_eq_false_iff_not] at hc12); have ht47 := hc12
        refine awp_seq ?_
        refine awp_draw hmix rfl (by kernel_rfl) ?_
        first
          | refine dP (fun n => Nat.beq n 7) (opp_loadP rfl rfl rfl rfl bi rfl ty74) rfl rfl ?_
          | refine dP (fun n => Nat.beq n 7) (opp_loadF rfl rfl ty74) rfl rfl ?_
        refine dP (fun _ => false) (opp_build rfl z76 bld76 rfl [.bool _, .agg _] rfl) rfl rfl ?_
        first
          | refine dP (fun n => Nat.beq n 9) (opp_loadP rfl rfl rfl rfl bi rfl ty26) rfl rfl ?_
          | refine dP (fun n => Nat.beq n 9) (opp_loadF rfl rfl ty26) rfl rfl ?_
        refine dR0 (fun n => Nat.beq n 4) (opr_store (v := .agg _) (trn := (.agg _)) rfl rfl rfl rfl bi rfl rfl rfl rfl fr2 ty76 (fun _ _ h => h)) rfl rfl rfl ?_
        refine dR0 (fun n => Nat.beq n 5) (opr_store (v := .agg _) (trn := (.agg _)) rfl rfl rfl rfl bi rfl rfl rfl rfl fr2 ty26 (fun _ _ h => h)) rfl rfl rfl ?_
        refine dP (fun _ => false) (opp_as (v := .int _ _) rfl rfl) rfl rfl ?_
        refine And.intro (by kernel_rfl) ?_
        refine awp_ret ?_
        repeat (first | refine athen_ret ?_ | refine ain_ret ?_)
        first
          | refine apost_ret (aend (l := [.agg _, .agg _, .int _ _]) (.cell rfl rfl rfl (by exact True.intro) rfl ty76 (.cell rfl rfl rfl (by exact True.intro) rfl ty26 (.tmp .nil))) (fun h => by cases h) (.cons (.noN rfl rfl) (.cons (.noN rfl rfl) (.cons (.noN rfl rfl) .nil))) ⟨Wk.v ?_, rfl, rfl⟩)
          | refine apost_ret (aends (l := [.agg _, .agg _, .int _ _]) (.cell rfl rfl rfl (by exact True.intro) rfl ty76 (.cell rfl rfl rfl (by exact True.intro) rfl ty26 (.tmp .nil))) (fun h => by cases h) (.cons shut (fun h => by cases h) (.cons shut (fun h => by cases h) (.cons shut (fun h => by cases h) .nil))) rfl ⟨Wk.v ?_, rfl, rfl⟩)
        have ho : r.on = false ∨ (Sp.add r.stage n).2.2 = 10 := by
          revert ht47; cases r.on <;> simp [cmpI] <;> intros <;> omega
        rw [if_neg hg, if_neg (by simp [hb]), if_pos ho]; simp only [hb, ne_eq, not_true_eq_false, decide_false, recvAV, stageAV, noteAV, xidAV]; (repeat' (first | exact Wk.refl | exact Wk.sl0 | apply Wk.tup | apply Wk.agg | apply WkL.cons | exact WkL.nil | refine Wk.sl (fun _ _ => ?_)))
      · (try simp only [cmpI, errD_nil, Bool.not_eq_true', Bool.not_eq_false', decide_eq_true_eq, decide_eq_false_iff_not] at hc12); have ht47 := hc12
        refine awp_skip ?_
        refine awp_seq ?_
        refine awp_seq ?_
        refine awp_region rfl ?_
        refine sP (opp_mv (v := .int _ _) rfl rfl) rfl rfl ?_
        refine sP (opp_cmp rfl rfl rfl rfl) rfl rfl ?_
        refine awp_cond _ rfl (fun hc15 => ?_) (fun hc15 => ?_)
        · (try simp only [cmpI, errD_nil, Bool.not_eq_true', Bool.not_eq_false', decide_eq_true_eq, decide_eq_false_iff_not] at hc15); have ht52 := hc15
          refine awp_seq ?_
          refine awp_region rfl ?_
          refine sP (opp_build rfl z76 bld76 rfl [.bool false, .agg [.int .i64 0, .int .i64 0, .int .i64 0, .agg [.int .i64 0, .int .i64 0, .int .i64 0], .sl 1 true 0 (fun _ => .top)]] rfl) rfl rfl ?_
          refine sP (opp_build rfl z26 bld26 rfl [.int .i64 0, .int .i64 0, .agg [.int .i64 0, .int .i64 0, .int .i64 0], .int .i64 0, .int .i64 0, .int .i64 0, .int .u32 0, .str []] rfl) rfl rfl ?_
          refine sP (opp_mv (v := .int _ _) rfl rfl) rfl rfl ?_
          refine sR0 (opr_store (v := .agg _) (trn := (.agg _)) rfl rfl rfl rfl bi rfl rfl rfl rfl fr2 ty76 (fun _ _ h => h)) rfl rfl rfl ?_
          refine sR0 (opr_store (v := .agg _) (trn := (.agg _)) rfl rfl rfl rfl bi rfl rfl rfl rfl fr2 ty26 (fun _ _ h => h)) rfl rfl rfl ?_
          refine sP (opp_as (v := .int _ _) rfl rfl) rfl rfl ?_
          refine awp_ret ?_
          repeat (first | refine athen_ret ?_ | refine ain_ret ?_)
          first
            | refine apost_ret (aend (l := [.agg _, .agg _, .int _ _]) (.cell rfl rfl rfl (by exact True.intro) rfl ty76 (.cell rfl rfl rfl (by exact True.intro) rfl ty26 (.tmp .nil))) (fun h => by cases h) (.cons (.noN rfl rfl) (.cons (.noN rfl rfl) (.cons (.noN rfl rfl) .nil))) ⟨Wk.v ?_, rfl, rfl⟩)
            | refine apost_ret (aends (l := [.agg _, .agg _, .int _ _]) (.cell rfl rfl rfl (by exact True.intro) rfl ty76 (.cell rfl rfl rfl (by exact True.intro) rfl ty26 (.tmp .nil))) (fun h => by cases h) (.cons shut (fun h => by cases h) (.cons shut (fun h => by cases h) (.cons shut (fun h => by cases h) .nil))) rfl ⟨Wk.v ?_, rfl, rfl⟩)
          have ho : ¬ (r.on = false ∨ (Sp.add r.stage n).2.2 = 10) := by
            revert ht47; cases r.on <;> simp [cmpI] <;> intros <;> omega
          have he : ¬ (Sp.add r.stage n).2.2 = 0 := by simpa using ht52
          rw [if_neg hg, if_neg (by simp [hb]), if_neg ho, if_pos he]; simp only [ne_eq, he, not_false_eq_true, decide_true, recvAV, stageAV, noteAV, Sp.zeroR, Sp.zeroS, Sp.zero, xidAV, List.length_nil]; (repeat' (first | exact Wk.refl | exact Wk.sl0 | apply Wk.tup | apply Wk.agg | apply WkL.cons | exact WkL.nil | refine Wk.sl (fun _ _ => ?_)))
        · (try simp only [cmpI, errD_nil, Bool.not_eq_true', Bool.not_eq_false', decide_eq_true_eq, decide_eq_false_iff_not] at hc15); have ht52 := hc15
          refine awp_skip ?_
          refine awp_seq ?_
          refine awp_draw hmix rfl (by kernel_rfl) ?_
          first
            | refine dP (fun n => Nat.beq n 11) (opp_loadP rfl rfl rfl rfl bi rfl ty74) rfl rfl ?_
            | refine dP (fun n => Nat.beq n 11) (opp_loadF rfl rfl ty74) rfl rfl ?_
          refine dP (fun _ => false) (opp_build rfl z76 bld76 rfl [.bool _, .agg _] rfl) rfl rfl ?_
          first
            | refine dP (fun n => Nat.beq n 9) (opp_loadP rfl rfl rfl rfl bi rfl ty26) rfl rfl ?_
            | refine dP (fun n => Nat.beq n 9) (opp_loadF rfl rfl ty26) rfl rfl ?_
          refine dR0 (fun n => Nat.beq n 4) (opr_store (v := .agg _) (trn := (.agg _)) rfl rfl rfl rfl bi rfl rfl rfl rfl fr2 ty76 (fun _ _ h => h)) rfl rfl rfl ?_
          refine dR0 (fun n => Nat.beq n 5) (opr_store (v := .agg _) (trn := (.agg _)) rfl rfl rfl rfl bi rfl rfl rfl rfl fr2 ty26 (fun _ _ h => h)) rfl rfl rfl ?_
          refine dP (fun _ => false) (opp_as (v := .int _ _) rfl rfl) rfl rfl ?_
          refine And.intro (by kernel_rfl) ?_
          refine awp_ret ?_
          repeat (first | refine athen_ret ?_ | refine ain_ret ?_)
          first
            | refine apost_ret (aend (l := [.agg _, .agg _, .int _ _]) (.cell rfl rfl rfl (by exact True.intro) rfl ty76 (.cell rfl rfl rfl (by exact True.intro) rfl ty26 (.tmp .nil))) (fun h => by cases h) (.cons (.noN rfl rfl) (.cons (.noN rfl rfl) (.cons (.noN rfl rfl) .nil))) ⟨Wk.v ?_, rfl, rfl⟩)
            | refine apost_ret (aends (l := [.agg _, .agg _, .int _ _]) (.cell rfl rfl rfl (by exact True.intro) rfl ty76 (.cell rfl rfl rfl (by exact True.intro) rfl ty26 (.tmp .nil))) (fun h => by cases h) (.cons shut (fun h => by cases h) (.cons shut (fun h => by cases h) (.cons shut (fun h => by cases h) .nil))) rfl ⟨Wk.v ?_, rfl, rfl⟩)
          have ho : ¬ (r.on = false ∨ (Sp.add r.stage n).2.2 = 10) := by
            revert ht47; cases r.on <;> simp [cmpI] <;> intros <;> omega
          have he : (Sp.add r.stage n).2.2 = 0 := by simpa using ht52
          rw [if_neg hg, if_neg (by simp [hb]), if_neg ho, if_neg (by simp [he])]; simp only [he, ne_eq, not_true_eq_false, decide_false, recvAV, stageAV, noteAV, xidAV]; (repeat' (first | exact Wk.refl | exact Wk.sl0 | apply Wk.tup | apply Wk.agg | apply WkL.cons | exact WkL.nil | refine Wk.sl (fun _ _ => ?_)))
end
end Go.Proofs.YtgaihhimkodmmaaDoor
namespace Go.Proofs.YtgaihhimkodmmaaDoor
attribute [local irreducible] Tryd.prog
open Go.Fy
set_option linter.unusedSimpArgs false
set_option linter.unusedVariables false
theorem take_code (r : Recv) (n : Note) : (Sp.take r n).2.2 ≤ 20 := by
  have h1 : Sp.check n ≤ 7 := by rw [check_ranges]; split; omega; split <;> omega
  have h2 : (Sp.begin_ n).2 ≤ 7 := by rw [begin_chunk]; unfold Sp.chunk; split; exact h1; split <;> simp
  have h3 : (Sp.add r.stage n).2.2 ≤ 14 := by
    have h4 : Sp.chunk n ≤ 7 := by unfold Sp.chunk; split; exact h1; split <;> simp
    unfold Sp.add; split; simp; split; simp; omega; split; simp; split <;> simp
  rw [take_ref]; split; simp; split; simp; omega; split; simp; split; simp; omega; simp
theorem take_len (r : Recv) (n : Note) (h : r.stage.pieces.length ≤ 281474976710656) : (Sp.take r n).1.stage.pieces.length ≤ 4611686018427387904 := by
  have h2 : (Sp.begin_ n).1.pieces.length ≤ 32 := by
    unfold Sp.begin_; split
    · simp [Sp.zeroS]
    · rename_i hc
      have := Sp.chunk_bounds (n := n) (by simpa using hc)
      simp; omega
  have h3 : (Sp.add r.stage n).1.pieces.length ≤ r.stage.pieces.length := by
    unfold Sp.add; split; simp [Sp.zeroS]; split; simp [Sp.zeroS]; split; simp [Sp.zeroS]; split <;> simp [Sp.zeroS]
  rw [take_ref]; split; simp [Sp.zeroR, Sp.zeroS]; split; simp [Sp.zeroR, Sp.zeroS]; split
  · show (Sp.begin_ n).1.pieces.length ≤ _; omega
  · split; simp [Sp.zeroR, Sp.zeroS]; show (Sp.add r.stage n).1.pieces.length ≤ _; omega
theorem whole_code (r : Recv) : (Sp.wholeR r).2.2 ≤ 20 := by
  unfold Sp.wholeR; split; simp; split; simp; unfold Sp.whole; split; simp; split <;> simp
theorem gone_nil (s : Stage) : Sp.gone s s.pieces.length = [] ↔ ¬ (List.range s.pieces.length).any (fun j => decide (s.pieces.getD j [] = [])) = true := by
  unfold Sp.gone
  rw [List.map_eq_nil_iff, List.filter_eq_nil_iff, List.any_eq_true]
  constructor
  · rintro h ⟨j, hj, hp⟩; exact h j hj hp
  · intro h j hj hp; exact h ⟨j, hj, hp⟩
theorem take_flat (l : List (List UInt8)) (i : Nat) (h : i < l.length) : (l.take (i + 1)).flatten = (l.take i).flatten ++ l.getD i [] := by
  rw [List.take_add_one, List.flatten_append, List.getElem?_eq_getElem h]; simp [List.getD_eq_getElem?_getD, h]
section
variable {ea : Nat → Addr} {cds : List Nat} {gl : Nat → Option AV}
theorem c86 (b : Bool) (s : Stage) : APure (V ea cds gl) 86 [stageAV b s] false (.tup [.str (Sp.whole s).1, .bool (Sp.whole s).2.1, .int .i64 ((Sp.whole s).2.2 : Nat)]) := by
  refine acalls_of_body (N := 36) Tryd.func86 rfl rfl (Nat.le_of_ble_eq_true rfl) fun C hV hN hM hO => ?_
  obtain ⟨_, _, w0, G0, σ0, _, own0⟩ := C; dsimp only at hV hN hM hO; subst hV; subst hN; subst hM
  refine awp_seq ?_
  refine awp_region rfl ?_
  refine sR (opr_box (y := .agg _) (n := 1) rfl rfl rfl) rfl rfl rfl ?_
  refine sP (opp_as (v := .str _) rfl rfl) rfl rfl ?_
  refine sP (opp_as (v := .bool _) rfl rfl) rfl rfl ?_
  refine sP (opp_as (v := .int _ _) rfl rfl) rfl rfl ?_
  refine awp_seq ?_
  refine awp_region rfl ?_
  first
    | refine sP (opp_loadP rfl rfl rfl rfl bi rfl ty74) rfl rfl ?_
    | refine sP (opp_loadF rfl rfl ty74) rfl rfl ?_
  refine sR (opr_call rfl rfl ent121 rfl (c121 b s) (AViews.refl _ rfl)) rfl rfl rfl ?_ -- d=11 t=186
  refine sP (opp_mv (v := .tup _) rfl rfl) rfl rfl ?_
  refine sP (opp_extract rfl rfl rfl) rfl rfl ?_
  refine sP (opp_extract rfl rfl rfl) rfl rfl ?_
  first
    | refine sP (opp_as (v := .sl _ _ _ _) rfl rfl) rfl rfl ?_
    | refine sP (opp_as (v := .osl _ _ _ _ _) rfl rfl) rfl rfl ?_
  refine sP (opp_as (v := .int _ _) rfl rfl) rfl rfl ?_
  refine awp_seq ?_
  refine awp_seq ?_
  refine awp_region rfl ?_
  refine sP (opp_mv (v := .int _ _) rfl rfl) rfl rfl ?_
  refine sP (opp_cmp rfl rfl rfl rfl) rfl rfl ?_
  refine sP (opp_mv (v := .bool _) rfl rfl) rfl rfl ?_
  first
    | refine sG _ rfl rfl rfl rfl (fun hg => (And.intro gi (True.intro))) (fun hg => opp_mv (v := .sl _ _ _ _) rfl rfl) ?_
    | refine sG _ rfl rfl rfl rfl (fun hg => (And.intro gi (True.intro))) (fun hg => opp_mv (v := .osl _ _ _ _ _) rfl rfl) ?_
  first
    | refine sG _ rfl rfl rfl rfl (fun hg => (And.intro gi (True.intro))) (fun hg => opp_lenSl rfl rfl un42) ?_
    | refine sG _ rfl rfl rfl rfl (fun hg => (And.intro gi (True.intro))) (fun hg => opp_lenOsl rfl rfl un42) ?_
  refine sG _ rfl rfl rfl rfl (fun hg => (And.intro gi (And.intro gi (True.intro)))) (fun hg => opp_cmp rfl rfl rfl rfl) ?_
  refine sPick rfl rfl rfl rfl (by exact True.intro) rfl rfl (fun hg => gi) (fun hg => gi) ?_
  refine awp_cond _ rfl (fun hc4 => ?_) (fun hc4 => ?_)
  · (try simp only [cmpI, errD_nil, Bool.not_eq_true', Bool.not_eq_false', decide_eq_true_eq, decide_eq_false_iff_not] at hc4); have ht20 := hc4
    refine awp_seq ?_
    refine awp_region rfl ?_
    refine sP (opp_mv (v := .int _ _) rfl rfl) rfl rfl ?_
    refine sP (opp_as (v := .str _) rfl rfl) rfl rfl ?_
    refine sP (opp_as (v := .bool _) rfl rfl) rfl rfl ?_
    refine sP (opp_as (v := .int _ _) rfl rfl) rfl rfl ?_
    refine awp_ret ?_
    repeat (first | refine athen_ret ?_ | refine ain_ret ?_)
    first
      | refine apost_ret (aend (l := [.str _, .bool _, .int _ _]) (.tmp (.tmp (.tmp .nil))) (fun h => by cases h) (.cons (.noN rfl rfl) (.cons (.noN rfl rfl) (.cons (.noN rfl rfl) .nil))) ⟨Wk.v ?_, rfl, rfl⟩)
      | refine apost_ret (aends (l := [.str _, .bool _, .int _ _]) (.tmp (.tmp (.tmp .nil))) (fun h => by cases h) (.cons shut (fun h => by cases h) (.cons shut (fun h => by cases h) (.cons shut (fun h => by cases h) .nil))) rfl ⟨Wk.v ?_, rfl, rfl⟩)
    refine .of ?_
    have hw : Sp.whole s = ([], false, (Sp.missing s).2) := by
      cases hq : Sp.goodS s with
      | false => simp [Sp.whole, Sp.missing, hq]
      | true =>
        have e : Sp.missing s = (Sp.gone s s.pieces.length, 0) := by simp [Sp.missing, hq, Sp.gone]
        rw [e] at ht20 ⊢
        have hne : ¬ Sp.gone s s.pieces.length = [] := by intro h; rw [h] at ht20; simp [cmpI] at ht20
        have := mt (gone_nil s).2 hne
        rw [Sp.whole, if_neg (by simp [hq]), if_pos (by simpa using this)]
    rw [hw]
  · (try simp only [cmpI, errD_nil, Bool.not_eq_true', Bool.not_eq_false', decide_eq_true_eq, decide_eq_false_iff_not] at hc4); have ht20 := hc4
    refine awp_skip ?_
    refine awp_seq ?_
    have hm : (Sp.missing s).2 = 0 ∧ ¬ 0 < ((Sp.missing s).1.length : Int) := by
      revert ht20; by_cases h1 : (Sp.missing s).2 = 0 <;> simp [cmpI, h1]
    have hgs : Sp.goodS s = true := by
      cases hq : Sp.goodS s with
      | true => rfl
      | false => have := hm.1; simp [Sp.missing, hq] at this
    have hgb := Sp.goodS_bounds hgs
    have hnil : Sp.gone s s.pieces.length = [] := by
      have e : Sp.missing s = (Sp.gone s s.pieces.length, 0) := by simp [Sp.missing, hgs, Sp.gone]
      have := hm.2; rw [e] at this; dsimp only at this
      exact List.length_eq_zero_iff.1 (by omega)
    refine awp_region rfl ?_
    refine sP (opp_as (v := .str _) rfl rfl) rfl rfl ?_
    refine awp_seq ?_
    refine awp_seq ?_
    refine awp_region rfl ?_
    refine sP (opp_as (v := .int _ _) rfl rfl) rfl rfl ?_
    refine awp_block ?_
    refine awp_loopK (ι := Nat) (fun i => i ≤ s.pieces.length) (fun i => [(7, .str (s.pieces.take i).flatten), (8, .int .i64 i), (22, .top), (23, .top), (24, .top), (25, .top), (26, .top), (27, .top), (28, .top), (29, .top), (30, .top), (31, .top), (32, .top), (33, .top), (34, .top)]) (fun i => []) [] (fun i => s.pieces.length - i) (0) (Nat.zero_le _) (by
      refine imp_over [] rfl rfl (by kernel_rfl) ?_ ?_
      · refine And.intro wkv ?_
        refine And.intro wkv ?_
        refine And.intro wkv ?_
        refine And.intro wkv ?_
        refine And.intro wkv ?_
        refine And.intro wkv ?_
        refine And.intro wkv ?_
        refine And.intro wkv ?_
        refine And.intro wkv ?_
        refine And.intro wkv ?_
        refine And.intro wkv ?_
        refine And.intro wkv ?_
        refine And.intro wkv ?_
        refine And.intro wkv ?_
        refine And.intro wkv ?_
        exact True.intro
      · exact True.intro
      ) ?_
    intro i hi1
    refine awp_seq ?_
    refine awp_seq ?_
    refine awp_region rfl ?_
    refine sP (opp_mv (v := .int _ _) rfl rfl) rfl rfl ?_
    first
      | refine sP (opp_fieldP rfl rfl fld74_2 rfl) rfl rfl ?_
      | refine sP (opp_fieldF rfl rfl rfl fld74_2 rfl rfl) rfl rfl ?_
    first
      | refine sP (opp_loadP rfl rfl rfl rfl bi rfl ty3) rfl rfl ?_
      | refine sP (opp_loadF rfl rfl ty3) rfl rfl ?_
    refine sP (opp_cmp rfl rfl rfl rfl) rfl rfl ?_
    refine awp_cond _ rfl (fun hc9 => ?_) (fun hc9 => ?_)
    · (try simp only [cmpI, errD_nil, Bool.not_eq_true', Bool.not_eq_false', decide_eq_true_eq, decide_eq_false_iff_not] at hc9); have ht25 := hc9
      refine awp_skip ?_
      refine awp_seq ?_
      refine awp_block ?_
      have hA : (s.pieces.take i).flatten.length ≤ 4096 := by
        have h1 := Sp.flat_le 128 (s.pieces.take i) (fun x hx => Sp.goodS_piece hgs x (List.mem_of_mem_take hx))
        rw [List.length_take] at h1; omega
      have hB : (s.pieces.getD i []).length ≤ 128 := Sp.goodS_piece hgs _ (by rw [List.getD_eq_getElem?_getD, List.getElem?_eq_getElem (show i < s.pieces.length by omega)]; exact List.getElem_mem _)
      have hB2 : (s.pieces.getD (Int.toNat (i : Int)) []).length ≤ 128 := hB
      refine awp_region rfl ?_
      refine sP (opp_mv (v := .str _) rfl rfl) rfl rfl ?_
      first
        | refine sP (opp_fieldP rfl rfl fld74_4 rfl) rfl rfl ?_
        | refine sP (opp_fieldF rfl rfl rfl fld74_4 rfl rfl) rfl rfl ?_
      first
        | refine sP (opp_loadP rfl rfl rfl rfl bi rfl ty51) rfl rfl ?_
        | refine sP (opp_loadF rfl rfl ty51) rfl rfl ?_
      refine sP (opp_mv (v := .int _ _) rfl rfl) rfl rfl ?_
      first
        | refine sP (opp_indexSl rfl rfl rfl el51 (by omega) (by omega)) rfl rfl ?_
        | refine sP (opp_indexOsl0 rfl rfl rfl el51 (by omega) (by omega)) rfl rfl ?_
        | refine sP (opp_indexOsl rfl rfl rfl el51 (by omega) (by omega)) rfl rfl ?_
      first
        | refine sP (opp_loadP rfl rfl rfl rfl bi rfl ty9) rfl rfl ?_
        | refine sP (opp_loadF rfl rfl ty9) rfl rfl ?_
      refine sP (opp_concat rfl rfl rfl (by omega)) rfl rfl ?_
      refine sP (opp_as (v := .str _) rfl rfl) rfl rfl ?_
      refine awp_region rfl ?_
      refine sP (opp_mv (v := .int _ _) rfl rfl) rfl rfl ?_
      first
        | refine sP (opp_arith rfl rfl rfl (.inl ⟨rfl, w64 (by omega)⟩)) rfl rfl ?_
        | refine sP (opp_arith rfl rfl rfl (.inl ⟨rfl, rfl⟩)) rfl rfl ?_
      refine sP (opp_as (v := .int _ _) rfl rfl) rfl rfl ?_
      refine Exists.intro (i + 1) (And.intro (And.intro ((by show i + 1 ≤ s.pieces.length; omega)) (by omega)) (by
        refine imp_over [] rfl rfl (by kernel_rfl) ?_ ?_
        · refine And.intro (by exact Or.inr (And.intro rfl (WkV.of (by show AV.str _ = AV.str _; rw [take_flat _ _ (by omega)]; rfl)))) ?_
          refine And.intro wkv ?_
          refine And.intro wkv ?_
          refine And.intro wkv ?_
          refine And.intro wkv ?_
          refine And.intro wkv ?_
          refine And.intro wkv ?_
          refine And.intro wkv ?_
          refine And.intro wkv ?_
          refine And.intro wkv ?_
          refine And.intro wkv ?_
          refine And.intro wkv ?_
          refine And.intro wkv ?_
          refine And.intro wkv ?_
          refine And.intro wkv ?_
          exact True.intro
        · exact True.intro
        ))
    · (try simp only [cmpI, errD_nil, Bool.not_eq_true', Bool.not_eq_false', decide_eq_true_eq, decide_eq_false_iff_not] at hc9); have ht25 := hc9
      refine awp_exit ?_
      refine awp_seq ?_
      refine awp_region rfl ?_
      refine sP (opp_mv (v := .str _) rfl rfl) rfl rfl ?_
      refine sP (opp_as (v := .str _) rfl rfl) rfl rfl ?_
      refine sP (opp_as (v := .bool _) rfl rfl) rfl rfl ?_
      refine sP (opp_as (v := .int _ _) rfl rfl) rfl rfl ?_
      refine awp_ret ?_
      repeat (first | refine athen_ret ?_ | refine ain_ret ?_)
      first
        | refine apost_ret (aend (l := [.str _, .bool _, .int _ _]) (.tmp (.tmp (.tmp .nil))) (fun h => by cases h) (.cons (.noN rfl rfl) (.cons (.noN rfl rfl) (.cons (.noN rfl rfl) .nil))) ⟨Wk.v ?_, rfl, rfl⟩)
        | refine apost_ret (aends (l := [.str _, .bool _, .int _ _]) (.tmp (.tmp (.tmp .nil))) (fun h => by cases h) (.cons shut (fun h => by cases h) (.cons shut (fun h => by cases h) (.cons shut (fun h => by cases h) .nil))) rfl ⟨Wk.v ?_, rfl, rfl⟩)
      have hi2 : i = s.pieces.length := by omega
      subst hi2
      rw [Sp.whole, if_neg (by simp [hgs]), if_neg ((gone_nil s).1 hnil), List.take_length]; exact .refl
theorem c39 (b : Bool) (r : Recv) (h0 : r.stage.pieces.length ≤ 4611686018427387904) : APure (V ea cds gl) 39 [recvAV b r] false (.tup [.str (Sp.wholeR r).1, .bool (Sp.wholeR r).2.1, .int .i64 ((Sp.wholeR r).2.2 : Nat)]) := by
  refine acalls_of_body (N := 17) Tryd.func39 rfl rfl (Nat.le_of_ble_eq_true rfl) fun C hV hN hM hO => ?_
  obtain ⟨_, _, w0, G0, σ0, _, own0⟩ := C; dsimp only at hV hN hM hO; subst hV; subst hN; subst hM
  refine awp_seq ?_
  refine awp_region rfl ?_
  refine sR (opr_box (y := .agg _) (n := 1) rfl rfl rfl) rfl rfl rfl ?_
  refine sP (opp_as (v := .str _) rfl rfl) rfl rfl ?_
  refine sP (opp_as (v := .bool _) rfl rfl) rfl rfl ?_
  refine sP (opp_as (v := .int _ _) rfl rfl) rfl rfl ?_
  refine awp_seq ?_
  refine awp_seq ?_
  refine awp_region rfl ?_
  first
    | refine sP (opp_loadP rfl rfl rfl rfl bi rfl ty76) rfl rfl ?_
    | refine sP (opp_loadF rfl rfl ty76) rfl rfl ?_
  refine sR (opr_call rfl rfl ent82 rfl (c82 b r h0) (AViews.refl _ rfl)) rfl rfl rfl ?_ -- d=6 t=4
  refine sP (opp_not rfl rfl) rfl rfl ?_
  refine awp_cond _ rfl (fun hc3 => ?_) (fun hc3 => ?_)
  · (try simp only [cmpI, errD_nil, Bool.not_eq_true', Bool.not_eq_false', decide_eq_true_eq, decide_eq_false_iff_not] at hc3); have ht7 := hc3
    refine awp_seq ?_
    refine awp_region rfl ?_
    refine sP (opp_as (v := .str _) rfl rfl) rfl rfl ?_
    refine sP (opp_as (v := .bool _) rfl rfl) rfl rfl ?_
    refine sP (opp_as (v := .int _ _) rfl rfl) rfl rfl ?_
    refine awp_ret ?_
    repeat (first | refine athen_ret ?_ | refine ain_ret ?_)
    first
      | refine apost_ret (aend (l := [.str _, .bool _, .int _ _]) (.tmp (.tmp (.tmp .nil))) (fun h => by cases h) (.cons (.noN rfl rfl) (.cons (.noN rfl rfl) (.cons (.noN rfl rfl) .nil))) ⟨Wk.v ?_, rfl, rfl⟩)
      | refine apost_ret (aends (l := [.str _, .bool _, .int _ _]) (.tmp (.tmp (.tmp .nil))) (fun h => by cases h) (.cons shut (fun h => by cases h) (.cons shut (fun h => by cases h) (.cons shut (fun h => by cases h) .nil))) rfl ⟨Wk.v ?_, rfl, rfl⟩)
    rw [Sp.wholeR, if_pos (by simpa using ht7)]; exact .refl
  · (try simp only [cmpI, errD_nil, Bool.not_eq_true', Bool.not_eq_false', decide_eq_true_eq, decide_eq_false_iff_not] at hc3); have ht7 := hc3
    refine awp_skip ?_
    refine awp_seq ?_
    refine awp_seq ?_
    refine awp_region rfl ?_
    first
      | refine sP (opp_fieldP rfl rfl fld76_0 rfl) rfl rfl ?_
      | refine sP (opp_fieldF rfl rfl rfl fld76_0 rfl rfl) rfl rfl ?_
    first
      | refine sP (opp_loadP rfl rfl rfl rfl bi rfl ty4) rfl rfl ?_
      | refine sP (opp_loadF rfl rfl ty4) rfl rfl ?_
    refine sP (opp_not rfl rfl) rfl rfl ?_
    refine awp_cond _ rfl (fun hc6 => ?_) (fun hc6 => ?_)
    · (try simp only [cmpI, errD_nil, Bool.not_eq_true', Bool.not_eq_false', decide_eq_true_eq, decide_eq_false_iff_not] at hc6); have ht10 := hc6
      refine awp_seq ?_
      refine awp_region rfl ?_
      refine sP (opp_as (v := .str _) rfl rfl) rfl rfl ?_
      refine sP (opp_as (v := .bool _) rfl rfl) rfl rfl ?_
      refine sP (opp_as (v := .int _ _) rfl rfl) rfl rfl ?_
      refine awp_ret ?_
      repeat (first | refine athen_ret ?_ | refine ain_ret ?_)
      first
        | refine apost_ret (aend (l := [.str _, .bool _, .int _ _]) (.tmp (.tmp (.tmp .nil))) (fun h => by cases h) (.cons (.noN rfl rfl) (.cons (.noN rfl rfl) (.cons (.noN rfl rfl) .nil))) ⟨Wk.v ?_, rfl, rfl⟩)
        | refine apost_ret (aends (l := [.str _, .bool _, .int _ _]) (.tmp (.tmp (.tmp .nil))) (fun h => by cases h) (.cons shut (fun h => by cases h) (.cons shut (fun h => by cases h) (.cons shut (fun h => by cases h) .nil))) rfl ⟨Wk.v ?_, rfl, rfl⟩)
      rw [Sp.wholeR, if_neg (by simpa using ht7), if_pos (by simpa using ht10)]; exact .refl
    · (try simp only [cmpI, errD_nil, Bool.not_eq_true', Bool.not_eq_false', decide_eq_true_eq, decide_eq_false_iff_not] at hc6); have ht10 := hc6
      refine awp_skip ?_
      refine awp_seq ?_
      refine awp_region rfl ?_
      first
        | refine sP (opp_fieldP rfl rfl fld76_1 rfl) rfl rfl ?_
        | refine sP (opp_fieldF rfl rfl rfl fld76_1 rfl rfl) rfl rfl ?_
      first
        | refine sP (opp_loadP rfl rfl rfl rfl bi rfl ty74) rfl rfl ?_
        | refine sP (opp_loadF rfl rfl ty74) rfl rfl ?_
      refine sR (opr_call rfl rfl ent86 rfl (c86 b r.stage) (AViews.refl _ rfl)) rfl rfl rfl ?_ -- d=13 t=93
      refine sP (opp_extract rfl rfl rfl) rfl rfl ?_
      refine sP (opp_extract rfl rfl rfl) rfl rfl ?_
      refine sP (opp_extract rfl rfl rfl) rfl rfl ?_
      refine sP (opp_as (v := .str _) rfl rfl) rfl rfl ?_
      refine sP (opp_as (v := .bool _) rfl rfl) rfl rfl ?_
      refine sP (opp_as (v := .int _ _) rfl rfl) rfl rfl ?_
      refine awp_ret ?_
      repeat (first | refine athen_ret ?_ | refine ain_ret ?_)
      first
        | refine apost_ret (aend (l := [.str _, .bool _, .int _ _]) (.tmp (.tmp (.tmp .nil))) (fun h => by cases h) (.cons (.noN rfl rfl) (.cons (.noN rfl rfl) (.cons (.noN rfl rfl) .nil))) ⟨Wk.v ?_, rfl, rfl⟩)
        | refine apost_ret (aends (l := [.str _, .bool _, .int _ _]) (.tmp (.tmp (.tmp .nil))) (fun h => by cases h) (.cons shut (fun h => by cases h) (.cons shut (fun h => by cases h) (.cons shut (fun h => by cases h) .nil))) rfl ⟨Wk.v ?_, rfl, rfl⟩)
      rw [Sp.wholeR, if_neg (by simpa using ht7), if_neg (by simpa using ht10)]; exact .refl
theorem c33 (b : Bool) (r : Recv) : APure (V ea cds gl) 33 [recvAV b r] false (recvAV b r) := by
  refine acalls_of_body (N := 22) Tryd.func33 rfl rfl (Nat.le_of_ble_eq_true rfl) fun C hV hN hM hO => ?_
  obtain ⟨_, _, w0, G0, σ0, _, own0⟩ := C; dsimp only at hV hN hM hO; subst hV; subst hN; subst hM
  refine awp_seq ?_
  refine awp_region rfl ?_
  refine sR (opr_box (y := .agg _) (n := 1) rfl rfl rfl) rfl rfl rfl ?_
  refine sR (opr_alloc (n := 2) rfl z55) rfl rfl rfl ?_
  refine awp_seq ?_
  refine awp_region rfl ?_
  first
    | refine sP (opp_fieldP rfl rfl fld76_0 rfl) rfl rfl ?_
    | refine sP (opp_fieldF rfl rfl rfl fld76_0 rfl rfl) rfl rfl ?_
  first
    | refine sP (opp_loadP rfl rfl rfl rfl bi rfl ty4) rfl rfl ?_
    | refine sP (opp_loadF rfl rfl ty4) rfl rfl ?_
  first
    | refine sP (opp_fieldP rfl rfl fld76_1 rfl) rfl rfl ?_
    | refine sP (opp_fieldF rfl rfl rfl fld76_1 rfl rfl) rfl rfl ?_
  first
    | refine sP (opp_fieldP rfl rfl fld74_0 rfl) rfl rfl ?_
    | refine sP (opp_fieldF rfl rfl rfl fld74_0 rfl rfl) rfl rfl ?_
  first
    | refine sP (opp_loadP rfl rfl rfl rfl bi rfl ty3) rfl rfl ?_
    | refine sP (opp_loadF rfl rfl ty3) rfl rfl ?_
  first
    | refine sP (opp_fieldP rfl rfl fld76_1 rfl) rfl rfl ?_
    | refine sP (opp_fieldF rfl rfl rfl fld76_1 rfl rfl) rfl rfl ?_
  first
    | refine sP (opp_fieldP rfl rfl fld74_1 rfl) rfl rfl ?_
    | refine sP (opp_fieldF rfl rfl rfl fld74_1 rfl rfl) rfl rfl ?_
  first
    | refine sP (opp_loadP rfl rfl rfl rfl bi rfl ty3) rfl rfl ?_
    | refine sP (opp_loadF rfl rfl ty3) rfl rfl ?_
  first
    | refine sP (opp_fieldP rfl rfl fld76_1 rfl) rfl rfl ?_
    | refine sP (opp_fieldF rfl rfl rfl fld76_1 rfl rfl) rfl rfl ?_
  first
    | refine sP (opp_fieldP rfl rfl fld74_2 rfl) rfl rfl ?_
    | refine sP (opp_fieldF rfl rfl rfl fld74_2 rfl rfl) rfl rfl ?_
  first
    | refine sP (opp_loadP rfl rfl rfl rfl bi rfl ty3) rfl rfl ?_
    | refine sP (opp_loadF rfl rfl ty3) rfl rfl ?_
  first
    | refine sP (opp_fieldP rfl rfl fld76_1 rfl) rfl rfl ?_
    | refine sP (opp_fieldF rfl rfl rfl fld76_1 rfl rfl) rfl rfl ?_
  first
    | refine sP (opp_fieldP rfl rfl fld74_3 rfl) rfl rfl ?_
    | refine sP (opp_fieldF rfl rfl rfl fld74_3 rfl rfl) rfl rfl ?_
  first
    | refine sP (opp_loadP rfl rfl rfl rfl bi rfl ty23) rfl rfl ?_
    | refine sP (opp_loadF rfl rfl ty23) rfl rfl ?_
  first
    | refine sP (opp_fieldP rfl rfl fld76_1 rfl) rfl rfl ?_
    | refine sP (opp_fieldF rfl rfl rfl fld76_1 rfl rfl) rfl rfl ?_
  first
    | refine sP (opp_fieldP rfl rfl fld74_4 rfl) rfl rfl ?_
    | refine sP (opp_fieldF rfl rfl rfl fld74_4 rfl rfl) rfl rfl ?_
  first
    | refine sP (opp_loadP rfl rfl rfl rfl bi rfl ty51) rfl rfl ?_
    | refine sP (opp_loadF rfl rfl ty51) rfl rfl ?_
  first
    | refine sP (opp_build rfl z53 bld53 rfl [.int _ _, .int _ _, .int _ _, .agg _, .sl _ _ _ _] rfl) rfl rfl ?_
    | refine sP (opp_build rfl z53 bld53 rfl [.int _ _, .int _ _, .int _ _, .agg _, .osl _ _ _ _ _] rfl) rfl rfl ?_
  refine sP (opp_build rfl z55 bld55 rfl [.bool _, .agg _] rfl) rfl rfl ?_
  refine sR0 (opr_store (v := .agg _) (trn := (.agg _)) rfl rfl rfl rfl bi rfl rfl rfl rfl fr2 ty55 (fun _ _ h => h)) rfl rfl rfl ?_
  refine awp_ret ?_
  repeat (first | refine athen_ret ?_ | refine ain_ret ?_)
  first
    | refine apost_ret (aend1 (r0 := .agg _) (.cell rfl rfl rfl (by exact True.intro) rfl ty55 .nil) (.noN rfl rfl) ⟨Wk.v ?_, rfl, rfl⟩)
    | refine apost_ret (aend1s (r0 := .agg _) (.cell rfl rfl rfl (by exact True.intro) rfl ty55 .nil) shut rfl ⟨Wk.v ?_, rfl, rfl⟩)
  exact .refl
theorem c38 (b : Bool) (r : Recv) : APure (V ea cds gl) 38 [recvAV b r] false (recvAV b r) := by
  refine acalls_of_body (N := 22) Tryd.func38 rfl rfl (Nat.le_of_ble_eq_true rfl) fun C hV hN hM hO => ?_
  obtain ⟨_, _, w0, G0, σ0, _, own0⟩ := C; dsimp only at hV hN hM hO; subst hV; subst hN; subst hM
  refine awp_seq ?_
  refine awp_region rfl ?_
  refine sR (opr_box (y := .agg _) (n := 1) rfl rfl rfl) rfl rfl rfl ?_
  refine sR (opr_alloc (n := 2) rfl z76) rfl rfl rfl ?_
  refine awp_seq ?_
  refine awp_region rfl ?_
  first
    | refine sP (opp_fieldP rfl rfl fld55_0 rfl) rfl rfl ?_
    | refine sP (opp_fieldF rfl rfl rfl fld55_0 rfl rfl) rfl rfl ?_
  first
    | refine sP (opp_loadP rfl rfl rfl rfl bi rfl ty4) rfl rfl ?_
    | refine sP (opp_loadF rfl rfl ty4) rfl rfl ?_
  first
    | refine sP (opp_fieldP rfl rfl fld55_1 rfl) rfl rfl ?_
    | refine sP (opp_fieldF rfl rfl rfl fld55_1 rfl rfl) rfl rfl ?_
  first
    | refine sP (opp_fieldP rfl rfl fld53_0 rfl) rfl rfl ?_
    | refine sP (opp_fieldF rfl rfl rfl fld53_0 rfl rfl) rfl rfl ?_
  first
    | refine sP (opp_loadP rfl rfl rfl rfl bi rfl ty3) rfl rfl ?_
    | refine sP (opp_loadF rfl rfl ty3) rfl rfl ?_
  first
    | refine sP (opp_fieldP rfl rfl fld55_1 rfl) rfl rfl ?_
    | refine sP (opp_fieldF rfl rfl rfl fld55_1 rfl rfl) rfl rfl ?_
  first
    | refine sP (opp_fieldP rfl rfl fld53_1 rfl) rfl rfl ?_
    | refine sP (opp_fieldF rfl rfl rfl fld53_1 rfl rfl) rfl rfl ?_
  first
    | refine sP (opp_loadP rfl rfl rfl rfl bi rfl ty3) rfl rfl ?_
    | refine sP (opp_loadF rfl rfl ty3) rfl rfl ?_
  first
    | refine sP (opp_fieldP rfl rfl fld55_1 rfl) rfl rfl ?_
    | refine sP (opp_fieldF rfl rfl rfl fld55_1 rfl rfl) rfl rfl ?_
  first
    | refine sP (opp_fieldP rfl rfl fld53_2 rfl) rfl rfl ?_
    | refine sP (opp_fieldF rfl rfl rfl fld53_2 rfl rfl) rfl rfl ?_
  first
    | refine sP (opp_loadP rfl rfl rfl rfl bi rfl ty3) rfl rfl ?_
    | refine sP (opp_loadF rfl rfl ty3) rfl rfl ?_
  first
    | refine sP (opp_fieldP rfl rfl fld55_1 rfl) rfl rfl ?_
    | refine sP (opp_fieldF rfl rfl rfl fld55_1 rfl rfl) rfl rfl ?_
  first
    | refine sP (opp_fieldP rfl rfl fld53_3 rfl) rfl rfl ?_
    | refine sP (opp_fieldF rfl rfl rfl fld53_3 rfl rfl) rfl rfl ?_
  first
    | refine sP (opp_loadP rfl rfl rfl rfl bi rfl ty23) rfl rfl ?_
    | refine sP (opp_loadF rfl rfl ty23) rfl rfl ?_
  first
    | refine sP (opp_fieldP rfl rfl fld55_1 rfl) rfl rfl ?_
    | refine sP (opp_fieldF rfl rfl rfl fld55_1 rfl rfl) rfl rfl ?_
  first
    | refine sP (opp_fieldP rfl rfl fld53_4 rfl) rfl rfl ?_
    | refine sP (opp_fieldF rfl rfl rfl fld53_4 rfl rfl) rfl rfl ?_
  first
    | refine sP (opp_loadP rfl rfl rfl rfl bi rfl ty51) rfl rfl ?_
    | refine sP (opp_loadF rfl rfl ty51) rfl rfl ?_
  first
    | refine sP (opp_build rfl z74 bld74 rfl [.int _ _, .int _ _, .int _ _, .agg _, .sl _ _ _ _] rfl) rfl rfl ?_
    | refine sP (opp_build rfl z74 bld74 rfl [.int _ _, .int _ _, .int _ _, .agg _, .osl _ _ _ _ _] rfl) rfl rfl ?_
  refine sP (opp_build rfl z76 bld76 rfl [.bool _, .agg _] rfl) rfl rfl ?_
  refine sR0 (opr_store (v := .agg _) (trn := (.agg _)) rfl rfl rfl rfl bi rfl rfl rfl rfl fr2 ty76 (fun _ _ h => h)) rfl rfl rfl ?_
  refine awp_ret ?_
  repeat (first | refine athen_ret ?_ | refine ain_ret ?_)
  first
    | refine apost_ret (aend1 (r0 := .agg _) (.cell rfl rfl rfl (by exact True.intro) rfl ty76 .nil) (.noN rfl rfl) ⟨Wk.v ?_, rfl, rfl⟩)
    | refine apost_ret (aend1s (r0 := .agg _) (.cell rfl rfl rfl (by exact True.intro) rfl ty76 .nil) shut rfl ⟨Wk.v ?_, rfl, rfl⟩)
  exact .refl
theorem c36 (b1 b2 : Bool) (s t : Recv) (h0 : s.stage.pieces.length ≤ 4611686018427387904) : APure (V ea cds gl) 36 [recvAV b1 s, recvAV b2 t] false (.bool (decide (s = t))) := by
  refine acalls_of_body (N := 17) Tryd.func36 rfl rfl (Nat.le_of_ble_eq_true rfl) fun C hV hN hM hO => ?_
  obtain ⟨_, _, w0, G0, σ0, _, own0⟩ := C; dsimp only at hV hN hM hO; subst hV; subst hN; subst hM
  refine awp_seq ?_
  refine awp_region rfl ?_
  refine sR (opr_box (y := .agg _) (n := 2) rfl rfl rfl) rfl rfl rfl ?_
  refine sR (opr_box (y := .agg _) (n := 3) rfl rfl rfl) rfl rfl rfl ?_
  refine sP (opp_as (v := .bool _) rfl rfl) rfl rfl ?_
  refine awp_seq ?_
  refine awp_region rfl ?_
  first
    | refine sP (opp_fieldP rfl rfl fld76_0 rfl) rfl rfl ?_
    | refine sP (opp_fieldF rfl rfl rfl fld76_0 rfl rfl) rfl rfl ?_
  first
    | refine sP (opp_loadP rfl rfl rfl rfl bi rfl ty4) rfl rfl ?_
    | refine sP (opp_loadF rfl rfl ty4) rfl rfl ?_
  first
    | refine sP (opp_fieldP rfl rfl fld76_0 rfl) rfl rfl ?_
    | refine sP (opp_fieldF rfl rfl rfl fld76_0 rfl rfl) rfl rfl ?_
  first
    | refine sP (opp_loadP rfl rfl rfl rfl bi rfl ty4) rfl rfl ?_
    | refine sP (opp_loadF rfl rfl ty4) rfl rfl ?_
  refine sP (opp_boolEq rfl rfl rfl un4 (.inl ⟨rfl, rfl⟩)) rfl rfl ?_
  refine sP (opp_mv (v := .bool _) rfl rfl) rfl rfl ?_
  first
    | refine sG _ rfl rfl rfl rfl (fun hg => (And.intro gi (True.intro))) (fun hg => opp_fieldP rfl rfl fld76_1 rfl) ?_
    | refine sG _ rfl rfl rfl rfl (fun hg => (And.intro gi (True.intro))) (fun hg => opp_fieldF rfl rfl rfl fld76_1 rfl rfl) ?_
  first
    | refine sG _ rfl rfl rfl rfl (fun hg => (And.intro gi (True.intro))) (fun hg => opp_loadP rfl rfl rfl rfl bi rfl ty74) ?_
    | refine sG _ rfl rfl rfl rfl (fun hg => (And.intro gi (True.intro))) (fun hg => opp_loadF rfl rfl ty74) ?_
  first
    | refine sG _ rfl rfl rfl rfl (fun hg => (And.intro gi (True.intro))) (fun hg => opp_fieldP rfl rfl fld76_1 rfl) ?_
    | refine sG _ rfl rfl rfl rfl (fun hg => (And.intro gi (True.intro))) (fun hg => opp_fieldF rfl rfl rfl fld76_1 rfl rfl) ?_
  first
    | refine sG _ rfl rfl rfl rfl (fun hg => (And.intro gi (True.intro))) (fun hg => opp_loadP rfl rfl rfl rfl bi rfl ty74) ?_
    | refine sG _ rfl rfl rfl rfl (fun hg => (And.intro gi (True.intro))) (fun hg => opp_loadF rfl rfl ty74) ?_
  refine sGR _ rfl rfl rfl rfl (fun hg => (And.intro gi (And.intro gi (And.intro gi (True.intro))))) (fun hg => (opr_call rfl rfl ent85 rfl (c85 b1 b2 s.stage t.stage h0) (AViews.refl _ rfl))) ?_
  refine sPick rfl rfl rfl rfl (by exact True.intro) rfl rfl (fun hg => gi) (fun hg => gi) ?_
  refine sP (opp_as (v := .bool _) rfl rfl) rfl rfl ?_
  refine awp_ret ?_
  repeat (first | refine athen_ret ?_ | refine ain_ret ?_)
  first
    | refine apost_ret (aend1 (r0 := .bool _) (.tmp .nil) (.noN rfl rfl) ⟨Wk.v ?_, rfl, rfl⟩)
    | refine apost_ret (aend1s (r0 := .bool _) (.tmp .nil) shut rfl ⟨Wk.v ?_, rfl, rfl⟩)
  refine .of (congrArg AV.bool ?_)
  obtain ⟨a, s⟩ := s; obtain ⟨c, t⟩ := t
  by_cases h1 : a = c <;> by_cases h2 : s = t <;> simp [h1, h2]
set_option maxRecDepth 100000 in
theorem c11 (b b2 : Bool) (s : Send) (r : Recv) (n : Note) (t : Int) (h0 : r.stage.pieces.length ≤ 281474976710656) (h1 : b2 = true → r.stage.pieces.length = 0) (hS : Sents cds gl) :
    APure (V ea cds gl) 11 [.agg [sendAV b s, recvAV b2 r, noteAV n, .int .i64 t]] false (.bool true) := by
  have hc1 := take_code r n
  have hc2 := whole_code r
  have hl := take_len r n h0
  refine acalls_of_body (N := 80) Tryd.func11 rfl rfl (Nat.le_of_ble_eq_true rfl) fun C hV hN hM hO => ?_
  obtain ⟨_, _, w0, G0, σ0, _, own0⟩ := C; dsimp only at hV hN hM hO; subst hV; subst hN; subst hM
  refine awp_seq ?_
  refine awp_region rfl ?_
  refine sR (opr_box (y := .agg _) (n := 1) rfl rfl rfl) rfl rfl rfl ?_
  refine sP (opp_as (v := .bool _) rfl rfl) rfl rfl ?_
  refine awp_seq ?_
  refine awp_seq ?_
  refine awp_region rfl ?_
  refine sR (opr_call rfl rfl ent19 rfl (c19 hS.hG3 hS.hG4 hS.hG5 hS.hG2 hS.hG7 hS.hG8 hS.hG6) (AViews.refl _ rfl)) rfl rfl rfl ?_ -- d=14 t=4
  refine sP (opp_not rfl rfl) rfl rfl ?_
  refine awp_cond _ rfl (fun hc3 => ?_) (fun hc3 => ?_)
  · (try simp only [cmpI, errD_nil, Bool.not_eq_true', Bool.not_eq_false', decide_eq_true_eq, decide_eq_false_iff_not] at hc3); have ht15 := hc3
    cases ht15
  · (try simp only [cmpI, errD_nil, Bool.not_eq_true', Bool.not_eq_false', decide_eq_true_eq, decide_eq_false_iff_not] at hc3); have ht15 := hc3
    refine awp_skip ?_
    refine awp_seq ?_
    refine awp_region rfl ?_
    first
      | refine sP (opp_fieldP rfl rfl fld78_1 rfl) rfl rfl ?_
      | refine sP (opp_fieldF rfl rfl rfl fld78_1 rfl rfl) rfl rfl ?_
    first
      | refine sP (opp_loadP rfl rfl rfl rfl bi rfl ty76) rfl rfl ?_
      | refine sP (opp_loadF rfl rfl ty76) rfl rfl ?_
    first
      | refine sP (opp_fieldP rfl rfl fld78_2 rfl) rfl rfl ?_
      | refine sP (opp_fieldF rfl rfl rfl fld78_2 rfl rfl) rfl rfl ?_
    first
      | refine sP (opp_loadP rfl rfl rfl rfl bi rfl ty26) rfl rfl ?_
      | refine sP (opp_loadF rfl rfl ty26) rfl rfl ?_
    refine sR (opr_call rfl rfl ent34 rfl (c34 b2 r n (by omega) h1) (AViews.refl _ rfl)) rfl rfl rfl ?_ -- d=21 t=87
    refine sP (opp_mv (v := .tup _) rfl rfl) rfl rfl ?_
    refine sP (opp_extract rfl rfl rfl) rfl rfl ?_
    refine sP (opp_extract rfl rfl rfl) rfl rfl ?_
    refine sP (opp_extract rfl rfl rfl) rfl rfl ?_
    refine sR (opr_alloc (n := 3) rfl z76) rfl rfl rfl ?_
    refine sR (opr_alloc (n := 4) rfl z26) rfl rfl rfl ?_
    refine sR0 (opr_store (v := .agg _) (trn := (.agg _)) rfl rfl rfl rfl bi rfl rfl rfl rfl fr2 ty76 (fun _ _ h => h)) rfl rfl rfl ?_
    refine sR0 (opr_store (v := .agg _) (trn := (.agg _)) rfl rfl rfl rfl bi rfl rfl rfl rfl fr2 ty26 (fun _ _ h => h)) rfl rfl rfl ?_
    refine sP (opp_as (v := .int _ _) rfl rfl) rfl rfl ?_
    refine awp_seq ?_
    refine awp_region rfl ?_
    first
      | refine sP (opp_fieldP rfl rfl fld78_1 rfl) rfl rfl ?_
      | refine sP (opp_fieldF rfl rfl rfl fld78_1 rfl rfl) rfl rfl ?_
    first
      | refine sP (opp_loadP rfl rfl rfl rfl bi rfl ty76) rfl rfl ?_
      | refine sP (opp_loadF rfl rfl ty76) rfl rfl ?_
    refine sR (opr_call rfl rfl ent39 rfl (c39 b2 r (by omega)) (AViews.refl _ rfl)) rfl rfl rfl ?_ -- d=28 t=93
    refine sP (opp_mv (v := .tup _) rfl rfl) rfl rfl ?_
    refine sP (opp_extract rfl rfl rfl) rfl rfl ?_
    refine sP (opp_extract rfl rfl rfl) rfl rfl ?_
    refine sP (opp_extract rfl rfl rfl) rfl rfl ?_
    refine sP (opp_as (v := .str _) rfl rfl) rfl rfl ?_
    refine sP (opp_as (v := .bool _) rfl rfl) rfl rfl ?_
    refine sP (opp_as (v := .int _ _) rfl rfl) rfl rfl ?_
    refine awp_seq ?_
    refine awp_draw hmix rfl (by kernel_rfl) ?_
    first
      | refine dP (fun _ => false) (opp_fieldP rfl rfl fld78_1 rfl) rfl rfl ?_
      | refine dP (fun _ => false) (opp_fieldF rfl rfl rfl fld78_1 rfl rfl) rfl rfl ?_
    first
      | refine dP (fun n => Nat.beq n 1) (opp_loadP rfl rfl rfl rfl bi rfl ty76) rfl rfl ?_
      | refine dP (fun n => Nat.beq n 1) (opp_loadF rfl rfl ty76) rfl rfl ?_
    refine dR (fun n => !([9, 10] : List Nat).contains n) (opr_call rfl rfl ent33 rfl (c33 b2 r) (AViews.refl _ rfl)) rfl rfl rfl ?_ -- d=35 t=55
    first
      | refine dP (fun _ => false) (opp_fieldP rfl rfl fld78_2 rfl) rfl rfl ?_
      | refine dP (fun _ => false) (opp_fieldF rfl rfl rfl fld78_2 rfl rfl) rfl rfl ?_
    first
      | refine dP (fun n => Nat.beq n 1) (opp_loadP rfl rfl rfl rfl bi rfl ty26) rfl rfl ?_
      | refine dP (fun n => Nat.beq n 1) (opp_loadF rfl rfl ty26) rfl rfl ?_
    refine dR (fun n => !([9, 10] : List Nat).contains n) (opr_call rfl rfl ent22 rfl (c22 b2 r n (by omega) h1 hS.hG3 hS.hG4 hS.hG5 hS.hG2 hS.hG7 hS.hG8) (AViews.refl _ rfl)) rfl rfl rfl ?_ -- d=38 t=56
    refine dP (fun _ => false) (opp_mv (v := .tup _) rfl rfl) rfl rfl ?_
    refine dP (fun _ => false) (opp_extract rfl rfl rfl) rfl rfl ?_
    refine dP (fun _ => false) (opp_extract rfl rfl rfl) rfl rfl ?_
    refine dP (fun _ => false) (opp_extract rfl rfl rfl) rfl rfl ?_
    refine dR (fun _ => false) (opr_alloc (n := 9) rfl z55) rfl rfl rfl ?_
    refine dR (fun _ => false) (opr_alloc (n := 10) rfl z26) rfl rfl rfl ?_
    refine dR0 (fun n => Nat.beq n 9) (opr_store (v := .agg _) (trn := (.agg _)) rfl rfl rfl rfl bi rfl rfl rfl rfl fr2 ty55 (fun _ _ h => h)) rfl rfl rfl ?_
    refine dR0 (fun n => Nat.beq n 10) (opr_store (v := .agg _) (trn := (.agg _)) rfl rfl rfl rfl bi rfl rfl rfl rfl fr2 ty26 (fun _ _ h => h)) rfl rfl rfl ?_
    refine dP (fun _ => false) (opp_as (v := .err _) rfl rfl) rfl rfl ?_
    refine And.intro (by kernel_rfl) ?_
    refine awp_seq ?_
    refine awp_seq ?_
    refine awp_draw hmix rfl (by kernel_rfl) ?_
    refine dP (fun _ => false) (opp_mv (v := .err _) rfl rfl) rfl rfl ?_
    refine dP (fun _ => false) (opp_mv (v := .int _ _) rfl rfl) rfl rfl ?_
    refine dR (fun n => !([] : List Nat).contains n) (opr_call rfl rfl ent52 rfl (c52 (Sp.take r n).2.2 _ hc1 hS) (AViews.refl _ rfl)) rfl rfl rfl ?_ -- d=44 t=4
    refine dP (fun _ => false) (opp_not rfl rfl) rfl rfl ?_
    refine dP (fun _ => false) (opp_mv (v := .bool _) rfl rfl) rfl rfl ?_
    first
      | refine dG _ (fun n => Nat.beq n 10) rfl rfl rfl rfl (fun hg => (And.intro gi (True.intro))) (fun hg => opp_loadP rfl rfl rfl rfl bi rfl ty26) ?_
      | refine dG _ (fun n => Nat.beq n 10) rfl rfl rfl rfl (fun hg => (And.intro gi (True.intro))) (fun hg => opp_loadF rfl rfl ty26) ?_
    first
      | refine dG _ (fun n => Nat.beq n 4) rfl rfl rfl rfl (fun hg => (And.intro gi (True.intro))) (fun hg => opp_loadP rfl rfl rfl rfl bi rfl ty26) ?_
      | refine dG _ (fun n => Nat.beq n 4) rfl rfl rfl rfl (fun hg => (And.intro gi (True.intro))) (fun hg => opp_loadF rfl rfl ty26) ?_
    refine dG _ (fun _ => false) rfl rfl rfl rfl (fun hg => (And.intro gi (And.intro gi (True.intro)))) (fun hg => opp_eqAgg rfl rfl rfl (eq26 ..) eg26 rfl (.inr ⟨rfl, rfl⟩)) ?_
    refine dPick (fun _ => false) rfl rfl rfl rfl (by exact True.intro) rfl rfl (fun hg => gi) (fun hg => gi) ?_
    refine dP (fun _ => false) (opp_mv (v := .bool _) rfl rfl) rfl rfl ?_
    first
      | refine dG _ (fun n => Nat.beq n 9) rfl rfl rfl rfl (fun hg => (And.intro gi (True.intro))) (fun hg => opp_loadP rfl rfl rfl rfl bi rfl ty55) ?_
      | refine dG _ (fun n => Nat.beq n 9) rfl rfl rfl rfl (fun hg => (And.intro gi (True.intro))) (fun hg => opp_loadF rfl rfl ty55) ?_
    refine dGR _ (fun n => !([] : List Nat).contains n) rfl rfl rfl rfl (fun hg => (And.intro gi (And.intro gi (True.intro)))) (fun hg => (opr_call rfl rfl ent38 rfl (c38 _ (Sp.take r n).1) (AViews.refl _ rfl))) ?_
    first
      | refine dG _ (fun n => Nat.beq n 3) rfl rfl rfl rfl (fun hg => (And.intro gi (True.intro))) (fun hg => opp_loadP rfl rfl rfl rfl bi rfl ty76) ?_
      | refine dG _ (fun n => Nat.beq n 3) rfl rfl rfl rfl (fun hg => (And.intro gi (True.intro))) (fun hg => opp_loadF rfl rfl ty76) ?_
    refine dGR _ (fun n => !([] : List Nat).contains n) rfl rfl rfl rfl (fun hg => (And.intro gi (And.intro gi (And.intro gi (True.intro))))) (fun hg => (opr_call rfl rfl ent36 rfl (c36 _ _ (Sp.take r n).1 (Sp.take r n).1 hl) (AViews.refl _ rfl))) ?_
    refine dG _ (fun _ => false) rfl rfl rfl rfl (fun hg => (And.intro gi (True.intro))) (fun hg => opp_not rfl rfl) ?_
    refine dPick (fun _ => false) rfl rfl rfl rfl (by exact True.intro) rfl rfl (fun hg => gi) (fun hg => gi) ?_
    refine And.intro (by kernel_rfl) ?_
    refine awp_cond _ rfl (fun hc8 => ?_) (fun hc8 => ?_)
    · (try simp only [cmpI, errD_nil, Bool.not_eq_true', Bool.not_eq_false', decide_eq_true_eq, decide_eq_false_iff_not] at hc8); have ht57 := hc8
      exfalso; simp at ht57
    · (try simp only [cmpI, errD_nil, Bool.not_eq_true', Bool.not_eq_false', decide_eq_true_eq, decide_eq_false_iff_not] at hc8); have ht57 := hc8
      refine awp_skip ?_
      refine awp_seq ?_
      refine awp_region rfl ?_
      first
        | refine sP (opp_fieldP rfl rfl fld78_1 rfl) rfl rfl ?_
        | refine sP (opp_fieldF rfl rfl rfl fld78_1 rfl rfl) rfl rfl ?_
      first
        | refine sP (opp_loadP rfl rfl rfl rfl bi rfl ty76) rfl rfl ?_
        | refine sP (opp_loadF rfl rfl ty76) rfl rfl ?_
      refine sR (opr_call rfl rfl ent33 rfl (c33 b2 r) (AViews.refl _ rfl)) rfl rfl rfl ?_ -- d=61 t=55
      refine sR (opr_call rfl rfl ent23 rfl (c23 b2 r (by omega) hS.hG3) (AViews.refl _ rfl)) rfl rfl rfl ?_ -- d=62 t=58
      refine sP (opp_mv (v := .tup _) rfl rfl) rfl rfl ?_
      refine sP (opp_extract rfl rfl rfl) rfl rfl ?_
      refine sP (opp_extract rfl rfl rfl) rfl rfl ?_
      refine sP (opp_extract rfl rfl rfl) rfl rfl ?_
      first
        | refine sP (opp_as (v := .sl _ _ _ _) rfl rfl) rfl rfl ?_
        | refine sP (opp_as (v := .osl _ _ _ _ _) rfl rfl) rfl rfl ?_
      refine sP (opp_as (v := .bool _) rfl rfl) rfl rfl ?_
      refine sP (opp_as (v := .err _) rfl rfl) rfl rfl ?_
      refine awp_seq ?_
      refine awp_region rfl ?_
      refine sP (opp_mv (v := .err _) rfl rfl) rfl rfl ?_
      refine sP (opp_mv (v := .int _ _) rfl rfl) rfl rfl ?_
      refine sR (opr_call rfl rfl ent52 rfl (c52 (Sp.wholeR r).2.2 _ hc2 hS) (AViews.refl _ rfl)) rfl rfl rfl ?_ -- d=68 t=4
      refine sP (opp_mv (v := .bool _) rfl rfl) rfl rfl ?_
      refine sG _ rfl rfl rfl rfl (fun hg => (And.intro gi (True.intro))) (fun hg => opp_mv (v := .bool _) rfl rfl) ?_
      refine sG _ rfl rfl rfl rfl (fun hg => (And.intro gi (True.intro))) (fun hg => opp_mv (v := .bool _) rfl rfl) ?_
      refine sG _ rfl rfl rfl rfl (fun hg => (And.intro gi (And.intro gi (True.intro)))) (fun hg => opp_boolEq rfl rfl rfl un4 (.inl ⟨rfl, rfl⟩)) ?_
      refine sPick rfl rfl rfl rfl (by exact True.intro) rfl rfl (fun hg => gi) (fun hg => gi) ?_
      refine sP (opp_mv (v := .bool _) rfl rfl) rfl rfl ?_
      first
        | refine sG _ rfl rfl rfl rfl (fun hg => (And.intro gi (True.intro))) (fun hg => opp_mv (v := .sl _ _ _ _) rfl rfl) ?_
        | refine sG _ rfl rfl rfl rfl (fun hg => (And.intro gi (True.intro))) (fun hg => opp_mv (v := .osl _ _ _ _ _) rfl rfl) ?_
      refine sG _ rfl rfl rfl rfl (fun hg => (And.intro gi (True.intro))) (fun hg => opp_bytesStr rfl rfl _ rfl (fun j hj => rfl) un36 unu8 un9) ?_
      refine sG _ rfl rfl rfl rfl (fun hg => (And.intro gi (True.intro))) (fun hg => opp_mv (v := .str _) rfl rfl) ?_
      refine sG _ rfl rfl rfl rfl (fun hg => (And.intro gi (And.intro gi (True.intro)))) (fun hg => opp_strEq rfl rfl rfl (.inl ⟨rfl, rfl⟩)) ?_
      refine sPick rfl rfl rfl rfl (by exact True.intro) rfl rfl (fun hg => gi) (fun hg => gi) ?_
      refine sP (opp_as (v := .bool _) rfl rfl) rfl rfl ?_
      refine awp_ret ?_
      repeat (first | refine athen_ret ?_ | refine ain_ret ?_)
      first
        | refine apost_ret (aend1 (r0 := .bool _) (.tmp .nil) (.noN rfl rfl) ⟨Wk.v ?_, rfl, rfl⟩)
        | refine apost_ret (aend1s (r0 := .bool _) (.tmp .nil) shut rfl ⟨Wk.v ?_, rfl, rfl⟩)
      exact .of (by simp)
end
end Go.Proofs.YtgaihhimkodmmaaDoor

