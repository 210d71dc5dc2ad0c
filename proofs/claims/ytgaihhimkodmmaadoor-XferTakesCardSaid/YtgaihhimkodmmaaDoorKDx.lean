/- Layer 22: an image on its way (walks over this dump). -/
import Derived.Test.YtgaihhimkodmmaaDoorKCx
import Derived.Test.YtgaihhimkodmmaaDoorS2
namespace Go.Proofs.YtgaihhimkodmmaaDoor
attribute [local irreducible] Tryd.prog
open Go.Fy
set_option linter.unusedSimpArgs false
section
variable {ea : Nat → Addr} {cds : List Nat} {gl : Nat → Option AV}
theorem c77 (b : Bool) (s : Send) (hG2 : gl 2 = some (.err (.code 12))) (hG6 : gl 6 = some (.err (.code 11))) :
    APure (V ea cds gl) 77 [sendAV b s] false (.tup [.sl 10 (decide ((Sp.cutS s).1 = [])) (Sp.cutS s).1.length (noAt (Sp.cutS s).1), .err (errD (Sp.cutS s).2)]) := by
  refine acalls_of_body (N := 16) Tryd.func77 rfl rfl (Nat.le_of_ble_eq_true rfl) fun C hV hN hM hO => ?_
  obtain ⟨_, _, w0, G0, σ0, _, own0⟩ := C; dsimp only at hV hN hM hO; subst hV; subst hN; subst hM
  refine awp_seq ?_
  refine awp_region rfl ?_
  refine sR (opr_box (y := .agg _) (n := 1) rfl rfl rfl) rfl rfl rfl ?_
  first
    | refine sP (opp_as (v := .sl _ _ _ _) rfl rfl) rfl rfl ?_
    | refine sP (opp_as (v := .osl _ _ _ _ _) rfl rfl) rfl rfl ?_
  refine sP (opp_as (v := .err _) rfl rfl) rfl rfl ?_
  refine awp_seq ?_
  refine awp_region rfl ?_
  first
    | refine sP (opp_fieldP rfl rfl fld45_0 rfl) rfl rfl ?_
    | refine sP (opp_fieldF rfl rfl rfl fld45_0 rfl rfl) rfl rfl ?_
  first
    | refine sP (opp_loadP rfl rfl rfl rfl bi rfl ty3) rfl rfl ?_
    | refine sP (opp_loadF rfl rfl ty3) rfl rfl ?_
  first
    | refine sP (opp_fieldP rfl rfl fld45_1 rfl) rfl rfl ?_
    | refine sP (opp_fieldF rfl rfl rfl fld45_1 rfl rfl) rfl rfl ?_
  first
    | refine sP (opp_loadP rfl rfl rfl rfl bi rfl ty23) rfl rfl ?_
    | refine sP (opp_loadF rfl rfl ty23) rfl rfl ?_
  first
    | refine sP (opp_fieldP rfl rfl fld45_2 rfl) rfl rfl ?_
    | refine sP (opp_fieldF rfl rfl rfl fld45_2 rfl rfl) rfl rfl ?_
  first
    | refine sP (opp_loadP rfl rfl rfl rfl bi rfl ty3) rfl rfl ?_
    | refine sP (opp_loadF rfl rfl ty3) rfl rfl ?_
  first
    | refine sP (opp_fieldP rfl rfl fld45_3 rfl) rfl rfl ?_
    | refine sP (opp_fieldF rfl rfl rfl fld45_3 rfl rfl) rfl rfl ?_
  first
    | refine sP (opp_loadP rfl rfl rfl rfl bi rfl ty9) rfl rfl ?_
    | refine sP (opp_loadF rfl rfl ty9) rfl rfl ?_
  refine sR (opr_strBytes (n := 12) rfl rfl un9 un36 unu8) rfl rfl rfl ?_
  refine sR (opr_call rfl rfl ent40 rfl (c40 _ _ _ _ _ hG2 hG6) (.cons (aview_noN rfl) (.cons (aview_noN rfl) (.cons (aview_noN rfl) (.cons (aview_osl0 rfl (Nat.le_refl _)) .nil))))) rfl rfl rfl ?_ -- d=13 t=49
  refine sP (opp_extract rfl rfl rfl) rfl rfl ?_
  refine sP (opp_extract rfl rfl rfl) rfl rfl ?_
  first
    | refine sP (opp_as (v := .sl _ _ _ _) rfl rfl) rfl rfl ?_
    | refine sP (opp_as (v := .osl _ _ _ _ _) rfl rfl) rfl rfl ?_
  refine sP (opp_as (v := .err _) rfl rfl) rfl rfl ?_
  refine awp_ret ?_
  repeat (first | refine athen_ret ?_ | refine ain_ret ?_)
  first
    | refine apost_ret (aend (l := [.sl _ _ _ _, .err _]) (.tmp (.tmp .nil)) (fun h => by cases h) (.cons (.noN rfl rfl) (.cons (.noN rfl rfl) .nil)) ⟨Wk.v ?_, rfl, rfl⟩)
    | refine apost_ret (aends (l := [.sl _ _ _ _, .err _]) (.tmp (.tmp .nil)) (fun h => by cases h) (.cons shut (fun h => by cases h) (.cons shut (fun h => by cases h) .nil)) rfl ⟨Wk.v ?_, rfl, rfl⟩)
    | refine apost_ret (aend (l := [.osl _ _ _ _ _, .err _]) (.tmp (.tmp .nil)) (fun h => by cases h) (.cons (.noN rfl rfl) (.cons (.noN rfl rfl) .nil)) ⟨Wk.v ?_, rfl, rfl⟩)
    | refine apost_ret (aends (l := [.osl _ _ _ _ _, .err _]) (.tmp (.tmp .nil)) (fun h => by cases h) (.cons shut (fun h => by cases h) (.cons shut (fun h => by cases h) .nil)) rfl ⟨Wk.v ?_, rfl, rfl⟩)
  exact .refl
theorem c20 (p : Int) (x : Xid) (st : Int) (b : Bool) (im : List UInt8) (hG2 : gl 2 = some (.err (.code 12))) (hG6 : gl 6 = some (.err (.code 11))) :
    APure (V ea cds gl) 20 [.int .i64 p, xidAV x, .int .i64 st, .sl 1 b im.length (bAt im)] false (.tup [sendAV (decide ((Sp.start p x st im).2 ≠ 0)) (Sp.start p x st im).1, .err (errD (Sp.start p x st im).2)]) := by
  refine acalls_of_body (N := 33) Tryd.func20 rfl rfl (Nat.le_of_ble_eq_true rfl) fun C hV hN hM hO => ?_
  obtain ⟨_, _, w0, G0, σ0, _, own0⟩ := C; dsimp only at hV hN hM hO; subst hV; subst hN; subst hM
  refine awp_seq ?_
  refine awp_region rfl ?_
  refine sR (opr_box (y := .agg _) (n := 5) rfl rfl rfl) rfl rfl rfl ?_
  refine sR (opr_alloc (n := 8) rfl z45) rfl rfl rfl ?_
  refine sP (opp_as (v := .err _) rfl rfl) rfl rfl ?_
  refine awp_seq ?_
  refine awp_region rfl ?_
  refine sP (opp_mv (v := .int _ _) rfl rfl) rfl rfl ?_
  first
    | refine sP (opp_loadP rfl rfl rfl rfl bi rfl ty23) rfl rfl ?_
    | refine sP (opp_loadF rfl rfl ty23) rfl rfl ?_
  refine sP (opp_mv (v := .int _ _) rfl rfl) rfl rfl ?_
  first
    | refine sP (opp_mv (v := .sl _ _ _ _) rfl rfl) rfl rfl ?_
    | refine sP (opp_mv (v := .osl _ _ _ _ _) rfl rfl) rfl rfl ?_
  refine sP (opp_bytesStr rfl rfl _ rfl (fun j hj => rfl) un36 unu8 un9) rfl rfl ?_
  refine sP (opp_build rfl z45 bld45 rfl [.int _ _, .agg _, .int _ _, .str _, .sl 1 true 0 (fun _ => .top), .int .i64 0] rfl) rfl rfl ?_
  refine sR (opr_alloc (n := 10) rfl z45) rfl rfl rfl ?_
  refine sR0 (opr_store (v := .agg _) (trn := (.agg _)) rfl rfl rfl rfl bi rfl rfl rfl rfl fr2 ty45 (fun _ _ h => h)) rfl rfl rfl ?_
  refine awp_seq ?_
  refine awp_region rfl ?_
  first
    | refine sP (opp_loadP rfl rfl rfl rfl bi rfl ty45) rfl rfl ?_
    | refine sP (opp_loadF rfl rfl ty45) rfl rfl ?_
  refine sR (opr_call rfl rfl ent77 rfl (c77 true ⟨p, x, st, im, [], 0⟩ hG2 hG6) (.cons (aview_wk rfl wkt) .nil)) rfl rfl rfl ?_ -- d=21 t=49
  refine sP (opp_mv (v := .tup _) rfl rfl) rfl rfl ?_
  refine sP (opp_extract rfl rfl rfl) rfl rfl ?_
  refine sP (opp_extract rfl rfl rfl) rfl rfl ?_
  first
    | refine sP (opp_as (v := .sl _ _ _ _) rfl rfl) rfl rfl ?_
    | refine sP (opp_as (v := .osl _ _ _ _ _) rfl rfl) rfl rfl ?_
  refine sP (opp_as (v := .err _) rfl rfl) rfl rfl ?_
  refine awp_seq ?_
  refine awp_seq ?_
  refine awp_region rfl ?_
  refine sP (opp_mv (v := .err _) rfl rfl) rfl rfl ?_
  refine sP (opp_errNil rfl rfl rfl un29 (.inr ⟨rfl, rfl⟩)) rfl rfl ?_
  refine awp_cond _ rfl (fun hc5 => ?_) (fun hc5 => ?_)
  · try simp only [cmpI, errD_nil, Bool.not_eq_true', Bool.not_eq_false', decide_eq_true_eq, decide_eq_false_iff_not] at hc5; have ht25 := hc5
    refine awp_seq ?_
    refine awp_region rfl ?_
    refine sP (opp_build rfl z45 bld45 rfl [.int .i64 0, .agg [.int .i64 0, .int .i64 0, .int .i64 0], .int .i64 0, .str [], .sl 1 true 0 (fun _ => .top), .int .i64 0] rfl) rfl rfl ?_
    refine sP (opp_mv (v := .err _) rfl rfl) rfl rfl ?_
    refine sR0 (opr_store (v := .agg _) (trn := (.agg _)) rfl rfl rfl rfl bi rfl rfl rfl rfl fr2 ty45 (fun _ _ h => h)) rfl rfl rfl ?_
    refine sP (opp_as (v := .err _) rfl rfl) rfl rfl ?_
    refine awp_ret ?_
    repeat (first | refine athen_ret ?_ | refine ain_ret ?_)
    first
      | refine apost_ret (aend (l := [.agg _, .err _]) (.cell rfl rfl rfl (by exact True.intro) rfl ty45 (.tmp .nil)) (fun h => by cases h) (.cons (.noN rfl rfl) (.cons (.noN rfl rfl) .nil)) ⟨Wk.v ?_, rfl, rfl⟩)
      | refine apost_ret (aends (l := [.agg _, .err _]) (.cell rfl rfl rfl (by exact True.intro) rfl ty45 (.tmp .nil)) (fun h => by cases h) (.cons shut (fun h => by cases h) (.cons shut (fun h => by cases h) .nil)) rfl ⟨Wk.v ?_, rfl, rfl⟩)
    have hc : (Sp.cut p x st im).2 ≠ 0 := by simpa [errD_nil, Sp.cutS] using ht25
    rw [show Sp.start p x st im = (Sp.zeroSend, (Sp.cut p x st im).2) from if_pos hc]; simp only [hc, ne_eq, not_false_eq_true, decide_true, sendAV, Sp.zeroSend, xidAV, List.length_nil]; (repeat' (first | exact Wk.refl | exact Wk.sl0 | apply Wk.tup | apply Wk.agg | apply WkL.cons | exact WkL.nil | refine Wk.sl (fun _ _ => ?_)))
  · try simp only [cmpI, errD_nil, Bool.not_eq_true', Bool.not_eq_false', decide_eq_true_eq, decide_eq_false_iff_not] at hc5; have ht25 := hc5
    refine awp_skip ?_
    refine awp_seq ?_
    have hcut : (Sp.cut p x st im).2 = 0 := by simpa [errD_nil, Sp.cutS] using ht25
    have hcl := Sp.cut_len p x st im
    have hcl2 : (Sp.cutS ⟨p, x, st, im, [], 0⟩).1.length ≤ 32 := hcl.1
    refine awp_region rfl ?_
    first
      | refine sP (opp_mv (v := .sl _ _ _ _) rfl rfl) rfl rfl ?_
      | refine sP (opp_mv (v := .osl _ _ _ _ _) rfl rfl) rfl rfl ?_
    first
      | refine sP (opp_lenSl rfl rfl un48) rfl rfl ?_
      | refine sP (opp_lenOsl rfl rfl un48) rfl rfl ?_
    refine sR (opr_make (n := 30) rfl rfl rfl eb43 z4 (by omega) (by omega) (by omega) (by omega)) rfl rfl rfl ?_
    first
      | refine sP (opp_fieldP rfl rfl fld45_4 rfl) rfl rfl ?_
      | refine sP (opp_fieldF rfl rfl rfl fld45_4 rfl rfl) rfl rfl ?_
    first
      | refine sR0 (opr_store (v := .sl _ _ _ _) (trn := (.agg [_, _, _, _, .sl _ _ _ _, _])) rfl rfl rfl rfl bi rfl rfl rfl rfl fr2 ty43 (fun _ _ h => h)) rfl rfl rfl ?_
      | refine sR0 (opr_store (v := .osl _ _ _ _ _) (trn := (.agg [_, _, _, _, .osl _ _ _ _ _, _])) rfl rfl rfl rfl bi rfl rfl rfl rfl fr2 ty43 (fun _ _ h => h)) rfl rfl rfl ?_
    refine awp_seq ?_
    refine awp_region rfl ?_
    first
      | refine sP (opp_loadP rfl rfl rfl rfl bi rfl ty45) rfl rfl ?_
      | refine sP (opp_loadF rfl rfl ty45) rfl rfl ?_
    refine sR0 (opr_store (v := .agg _) (trn := (.agg _)) rfl rfl rfl rfl bi rfl rfl rfl rfl fr2 ty45 (fun _ _ h => h)) rfl rfl rfl ?_
    refine sP (opp_as (v := .err _) rfl rfl) rfl rfl ?_
    refine awp_ret ?_
    repeat (first | refine athen_ret ?_ | refine ain_ret ?_)
    first
      | refine apost_ret (aend (l := [.agg _, .err _]) (.cell rfl rfl rfl (by exact True.intro) rfl ty45 (.tmp .nil)) (fun h => by cases h) (.cons (.noN rfl rfl) (.cons (.noN rfl rfl) .nil)) ⟨Wk.v ?_, rfl, rfl⟩)
      | refine apost_ret (aends (l := [.agg _, .err _]) (.cell rfl rfl rfl (by exact True.intro) rfl ty45 (.tmp .nil)) (fun h => by cases h) (.cons shut (fun h => by cases h) (.cons shut (fun h => by cases h) .nil)) rfl ⟨Wk.v ?_, rfl, rfl⟩)
    rw [show Sp.start p x st im = (⟨p, x, st, im, List.replicate (Sp.cut p x st im).1.length false, 0⟩, 0) from if_neg (by simp [hcut])]
    simp only [ne_eq, not_true_eq_false, decide_false, sendAV, xidAV, List.length_replicate, errD, if_true]; (repeat' (first | exact Wk.refl | exact Wk.sl0 | apply Wk.tup | apply Wk.agg | apply WkL.cons | exact WkL.nil | refine Wk.sl (fun _ _ => ?_)))
    rename_i j hj; simp only [blAt, List.getD_eq_getElem?_getD, List.getElem?_replicate]; split <;> rfl
theorem c55 (b : Bool) (s : Send) (hG2 : gl 2 = some (.err (.code 12))) (hG6 : gl 6 = some (.err (.code 11))) :
    APure (V ea cds gl) 55 [sendAV b s] false (.bool (Sp.goodSend s)) := by
  refine acalls_of_body (N := 25) Tryd.func55 rfl rfl (Nat.le_of_ble_eq_true rfl) fun C hV hN hM hO => ?_
  obtain ⟨_, _, w0, G0, σ0, _, own0⟩ := C; dsimp only at hV hN hM hO; subst hV; subst hN; subst hM
  refine awp_seq ?_
  refine awp_region rfl ?_
  refine sR (opr_box (y := .agg _) (n := 1) rfl rfl rfl) rfl rfl rfl ?_
  refine sP (opp_as (v := .bool _) rfl rfl) rfl rfl ?_
  refine awp_seq ?_
  refine awp_region rfl ?_
  first
    | refine sP (opp_loadP rfl rfl rfl rfl bi rfl ty45) rfl rfl ?_
    | refine sP (opp_loadF rfl rfl ty45) rfl rfl ?_
  refine sR (opr_call rfl rfl ent77 rfl (c77 b s hG2 hG6) (AViews.refl _ rfl)) rfl rfl rfl ?_ -- d=7 t=49
  refine sP (opp_mv (v := .tup _) rfl rfl) rfl rfl ?_
  refine sP (opp_extract rfl rfl rfl) rfl rfl ?_
  refine sP (opp_extract rfl rfl rfl) rfl rfl ?_
  first
    | refine sP (opp_as (v := .sl _ _ _ _) rfl rfl) rfl rfl ?_
    | refine sP (opp_as (v := .osl _ _ _ _ _) rfl rfl) rfl rfl ?_
  refine sP (opp_as (v := .err _) rfl rfl) rfl rfl ?_
  refine awp_seq ?_
  refine awp_region rfl ?_
  refine sP (opp_mv (v := .err _) rfl rfl) rfl rfl ?_
  refine sP (opp_errNil rfl rfl rfl un29 (.inl ⟨rfl, rfl⟩)) rfl rfl ?_
  refine sP (opp_mv (v := .bool _) rfl rfl) rfl rfl ?_
  first
    | refine sG _ rfl rfl rfl rfl (fun hg => (And.intro gi (True.intro))) (fun hg => opp_mv (v := .sl _ _ _ _) rfl rfl) ?_
    | refine sG _ rfl rfl rfl rfl (fun hg => (And.intro gi (True.intro))) (fun hg => opp_mv (v := .osl _ _ _ _ _) rfl rfl) ?_
  first
    | refine sG _ rfl rfl rfl rfl (fun hg => (And.intro gi (True.intro))) (fun hg => opp_lenSl rfl rfl un48) ?_
    | refine sG _ rfl rfl rfl rfl (fun hg => (And.intro gi (True.intro))) (fun hg => opp_lenOsl rfl rfl un48) ?_
  first
    | refine sG _ rfl rfl rfl rfl (fun hg => (And.intro gi (True.intro))) (fun hg => opp_fieldP rfl rfl fld45_4 rfl) ?_
    | refine sG _ rfl rfl rfl rfl (fun hg => (And.intro gi (True.intro))) (fun hg => opp_fieldF rfl rfl rfl fld45_4 rfl rfl) ?_
  first
    | refine sG _ rfl rfl rfl rfl (fun hg => (And.intro gi (True.intro))) (fun hg => opp_loadP rfl rfl rfl rfl bi rfl ty43) ?_
    | refine sG _ rfl rfl rfl rfl (fun hg => (And.intro gi (True.intro))) (fun hg => opp_loadF rfl rfl ty43) ?_
  first
    | refine sG _ rfl rfl rfl rfl (fun hg => (And.intro gi (True.intro))) (fun hg => opp_lenSl rfl rfl un43) ?_
    | refine sG _ rfl rfl rfl rfl (fun hg => (And.intro gi (True.intro))) (fun hg => opp_lenOsl rfl rfl un43) ?_
  refine sG _ rfl rfl rfl rfl (fun hg => (And.intro gi (And.intro gi (True.intro)))) (fun hg => opp_cmp rfl rfl rfl rfl) ?_
  refine sPick rfl rfl rfl rfl (by exact True.intro) rfl rfl (fun hg => gi) (fun hg => gi) ?_
  refine sP (opp_mv (v := .bool _) rfl rfl) rfl rfl ?_
  first
    | refine sG _ rfl rfl rfl rfl (fun hg => (And.intro gi (True.intro))) (fun hg => opp_fieldP rfl rfl fld45_5 rfl) ?_
    | refine sG _ rfl rfl rfl rfl (fun hg => (And.intro gi (True.intro))) (fun hg => opp_fieldF rfl rfl rfl fld45_5 rfl rfl) ?_
  first
    | refine sG _ rfl rfl rfl rfl (fun hg => (And.intro gi (True.intro))) (fun hg => opp_loadP rfl rfl rfl rfl bi rfl ty3) ?_
    | refine sG _ rfl rfl rfl rfl (fun hg => (And.intro gi (True.intro))) (fun hg => opp_loadF rfl rfl ty3) ?_
  refine sG _ rfl rfl rfl rfl (fun hg => (And.intro gi (And.intro gi (True.intro)))) (fun hg => opp_cmp rfl rfl rfl rfl) ?_
  refine sPick rfl rfl rfl rfl (by exact True.intro) rfl rfl (fun hg => gi) (fun hg => gi) ?_
  refine sP (opp_as (v := .bool _) rfl rfl) rfl rfl ?_
  refine awp_ret ?_
  repeat (first | refine athen_ret ?_ | refine ain_ret ?_)
  first
    | refine apost_ret (aend1 (r0 := .bool _) (.tmp .nil) (.noN rfl rfl) ⟨Wk.v ?_, rfl, rfl⟩)
    | refine apost_ret (aend1s (r0 := .bool _) (.tmp .nil) shut rfl ⟨Wk.v ?_, rfl, rfl⟩)
  refine .of (congrArg AV.bool ?_)
  rw [Bool.eq_iff_iff]; simp [Sp.goodSend, errD_nil, cmpI, and_assoc, Int.natCast_inj]
theorem c21 (b : Bool) (s : Send) (hG2 : gl 2 = some (.err (.code 12))) (hG6 : gl 6 = some (.err (.code 11))) (hG3 : gl 3 = some (.err (.code 9))) :
    APure (V ea cds gl) 21 [sendAV b s] false (.tup [.sl 10 (decide ((Sp.due s).1 = [])) (Sp.due s).1.length (noAt (Sp.due s).1), .err (errD (Sp.due s).2)]) := by
  refine acalls_of_body (N := 37) Tryd.func21 rfl rfl (Nat.le_of_ble_eq_true rfl) fun C hV hN hM hO => ?_
  obtain ⟨_, _, w0, G0, σ0, _, own0⟩ := C; dsimp only at hV hN hM hO; subst hV; subst hN; subst hM
  refine awp_seq ?_
  refine awp_region rfl ?_
  refine sR (opr_box (y := .agg _) (n := 1) rfl rfl rfl) rfl rfl rfl ?_
  first
    | refine sP (opp_as (v := .sl _ _ _ _) rfl rfl) rfl rfl ?_
    | refine sP (opp_as (v := .osl _ _ _ _ _) rfl rfl) rfl rfl ?_
  refine sP (opp_as (v := .err _) rfl rfl) rfl rfl ?_
  refine awp_seq ?_
  refine awp_seq ?_
  refine awp_region rfl ?_
  first
    | refine sP (opp_loadP rfl rfl rfl rfl bi rfl ty45) rfl rfl ?_
    | refine sP (opp_loadF rfl rfl ty45) rfl rfl ?_
  refine sR (opr_call rfl rfl ent55 rfl (c55 b s hG2 hG6) (AViews.refl _ rfl)) rfl rfl rfl ?_ -- d=10 t=4
  refine sP (opp_not rfl rfl) rfl rfl ?_
  refine awp_cond _ rfl (fun hc3 => ?_) (fun hc3 => ?_)
  · try simp only [cmpI, errD_nil, Bool.not_eq_true', Bool.not_eq_false', decide_eq_true_eq, decide_eq_false_iff_not] at hc3; have ht11 := hc3
    refine awp_seq ?_
    refine awp_draw hmix rfl (by kernel_rfl) ?_
    refine dP (fun _ => false) (opp_loadF rfl (ev_glob hG3) ty29) rfl rfl ?_
    first
      | refine dP (fun _ => false) (opp_as (v := .sl _ _ _ _) rfl rfl) rfl rfl ?_
      | refine dP (fun _ => false) (opp_as (v := .osl _ _ _ _ _) rfl rfl) rfl rfl ?_
    refine dP (fun _ => false) (opp_as (v := .err _) rfl rfl) rfl rfl ?_
    refine And.intro (by kernel_rfl) ?_
    refine awp_ret ?_
    repeat (first | refine athen_ret ?_ | refine ain_ret ?_)
    first
      | refine apost_ret (aend (l := [.sl _ _ _ _, .err _]) (.tmp (.tmp .nil)) (fun h => by cases h) (.cons (.noN rfl rfl) (.cons (.noN rfl rfl) .nil)) ⟨Wk.v ?_, rfl, rfl⟩)
      | refine apost_ret (aends (l := [.sl _ _ _ _, .err _]) (.tmp (.tmp .nil)) (fun h => by cases h) (.cons shut (fun h => by cases h) (.cons shut (fun h => by cases h) .nil)) rfl ⟨Wk.v ?_, rfl, rfl⟩)
      | refine apost_ret (aend (l := [.osl _ _ _ _ _, .err _]) (.tmp (.tmp .nil)) (fun h => by cases h) (.cons (.noN rfl rfl) (.cons (.noN rfl rfl) .nil)) ⟨Wk.v ?_, rfl, rfl⟩)
      | refine apost_ret (aends (l := [.osl _ _ _ _ _, .err _]) (.tmp (.tmp .nil)) (fun h => by cases h) (.cons shut (fun h => by cases h) (.cons shut (fun h => by cases h) .nil)) rfl ⟨Wk.v ?_, rfl, rfl⟩)
    rw [show Sp.due s = ([], 9) by simp [Sp.due, hc3]]; show Wk _ (.tup [.sl 10 true 0 _, .err (.code 9)]); (repeat' (first | exact Wk.refl | exact Wk.sl0 | apply Wk.tup | apply Wk.agg | apply WkL.cons | exact WkL.nil | refine Wk.sl (fun _ _ => ?_)))
  · try simp only [cmpI, errD_nil, Bool.not_eq_true', Bool.not_eq_false', decide_eq_true_eq, decide_eq_false_iff_not] at hc3; have ht11 := hc3
    refine awp_skip ?_
    refine awp_seq ?_
    have hgs : (((Sp.cutS s).2 = 0) ∧ (Sp.cutS s).1.length = s.acked.length) ∧ 0 ≤ s.rounds := by simpa [Sp.goodSend] using hc3
    have hcl : (Sp.cutS s).1.length ≤ 32 := (Sp.cut_len _ _ _ _).1
    refine awp_region rfl ?_
    first
      | refine sP (opp_loadP rfl rfl rfl rfl bi rfl ty45) rfl rfl ?_
      | refine sP (opp_loadF rfl rfl ty45) rfl rfl ?_
    refine sR (opr_call rfl rfl ent77 rfl (c77 b s hG2 hG6) (AViews.refl _ rfl)) rfl rfl rfl ?_ -- d=15 t=49
    refine sP (opp_mv (v := .tup _) rfl rfl) rfl rfl ?_
    refine sP (opp_extract rfl rfl rfl) rfl rfl ?_
    refine sP (opp_extract rfl rfl rfl) rfl rfl ?_
    first
      | refine sP (opp_as (v := .sl _ _ _ _) rfl rfl) rfl rfl ?_
      | refine sP (opp_as (v := .osl _ _ _ _ _) rfl rfl) rfl rfl ?_
    refine sP (opp_as (v := .err _) rfl rfl) rfl rfl ?_
    refine awp_seq ?_
    refine awp_region rfl ?_
    first
      | refine sP (opp_as (v := .sl _ _ _ _) rfl rfl) rfl rfl ?_
      | refine sP (opp_as (v := .osl _ _ _ _ _) rfl rfl) rfl rfl ?_
    refine awp_seq ?_
    refine awp_seq ?_
    refine awp_region rfl ?_
    first
      | refine sP (opp_mv (v := .sl _ _ _ _) rfl rfl) rfl rfl ?_
      | refine sP (opp_mv (v := .osl _ _ _ _ _) rfl rfl) rfl rfl ?_
    first
      | refine sP (opp_lenSl rfl rfl un48) rfl rfl ?_
      | refine sP (opp_lenOsl rfl rfl un48) rfl rfl ?_
    refine sP (opp_mv (v := .int _ _) rfl rfl) rfl rfl ?_
    refine awp_block ?_
    refine awp_loopK (ι := Nat × Bool) (fun p => p.1 ≤ (Sp.cutS s).1.length ∧ (p.2 = true ↔ (Sp.dueTo s p.1) = [])) (fun p => [(6, cond p.2 (.sl 1 true 0 (fun _ => .top)) (.osl 1006 10 0 (Sp.dueTo s p.1).length (Sp.dueTo s p.1).length)), (7, .top), (8, .top), (20, .int .i64 p.1), (21, .top), (22, .top), (23, .top), (24, .top), (25, .top), (26, .top), (27, .top), (28, .top), (29, .top), (30, .top), (31, .top), (32, .top), (33, .top), (34, .top), (35, .top)]) (fun p => [(1006, cond p.2 none (some (.arr 10 (Sp.dueTo s p.1).length (noAt (Sp.dueTo s p.1)))))]) [1006] (fun p => (Sp.cutS s).1.length - p.1) ((0, true)) (⟨Nat.zero_le _, by simp [Sp.dueTo]⟩) (by
      refine imp_over [] rfl rfl (by kernel_rfl) ?_ ?_
      · refine And.intro wkv ?_
        refine And.intro wkv ?_
        refine And.intro wkv ?_
        refine And.intro wkv ?_
        refine And.intro wkv ?_
        refine And.intro wkv ?_
        refine And.intro wkv ?_
        refine And.intro wkv ?_
        refine And.intro wkv ?_
        refine And.intro wkv ?_
        refine And.intro wkv ?_
        refine And.intro wkv ?_
        refine And.intro wkv ?_
        refine And.intro wkv ?_
        refine And.intro wkv ?_
        refine And.intro wkv ?_
        refine And.intro wkv ?_
        refine And.intro wkv ?_
        refine And.intro wkv ?_
        exact True.intro
      · exact True.intro
      ) ?_
    intro p hi1; obtain ⟨i, e⟩ := p; rcases e with _ | _
    · dsimp only [cond] at hi1 ⊢
      refine awp_seq ?_
      refine awp_region rfl ?_
      refine sP (opp_cmp rfl rfl rfl rfl) rfl rfl ?_
      refine awp_seq ?_
      refine awp_cond _ rfl (fun hc9 => ?_) (fun hc9 => ?_)
      · try simp only [cmpI, errD_nil, Bool.not_eq_true', Bool.not_eq_false', decide_eq_true_eq, decide_eq_false_iff_not] at hc9; have ht21 := hc9
        refine awp_skip ?_
        refine awp_seq ?_
        refine awp_block ?_
        refine awp_seq ?_
        refine awp_region rfl ?_
        refine sP (opp_mv (v := .int _ _) rfl rfl) rfl rfl ?_
        first
          | refine sP (opp_indexSl rfl rfl rfl el48 (by omega) (by omega)) rfl rfl ?_
          | refine sP (opp_indexOsl0 rfl rfl rfl el48 (by omega) (by omega)) rfl rfl ?_
          | refine sP (opp_indexOsl rfl rfl rfl el48 (by omega) (by omega)) rfl rfl ?_
        first
          | refine sP (opp_loadP rfl rfl rfl rfl bi rfl ty26) rfl rfl ?_
          | refine sP (opp_loadF rfl rfl ty26) rfl rfl ?_
        refine sR (opr_alloc (n := 8) rfl z26) rfl rfl rfl ?_
        refine sP (opp_as (v := .int _ _) rfl rfl) rfl rfl ?_
        refine sR0 (opr_store (v := .agg _) (trn := (.agg _)) rfl rfl rfl rfl bi rfl rfl rfl rfl fr2 ty26 (fun _ _ h => h)) rfl rfl rfl ?_
        refine awp_seq ?_
        refine awp_region rfl ?_
        first
          | refine sP (opp_fieldP rfl rfl fld45_4 rfl) rfl rfl ?_
          | refine sP (opp_fieldF rfl rfl rfl fld45_4 rfl rfl) rfl rfl ?_
        first
          | refine sP (opp_loadP rfl rfl rfl rfl bi rfl ty43) rfl rfl ?_
          | refine sP (opp_loadF rfl rfl ty43) rfl rfl ?_
        refine sP (opp_mv (v := .int _ _) rfl rfl) rfl rfl ?_
        first
          | refine sP (opp_indexSl rfl rfl rfl el43 (by omega) (by omega)) rfl rfl ?_
          | refine sP (opp_indexOsl0 rfl rfl rfl el43 (by omega) (by omega)) rfl rfl ?_
          | refine sP (opp_indexOsl rfl rfl rfl el43 (by omega) (by omega)) rfl rfl ?_
        first
          | refine sP (opp_loadP rfl rfl rfl rfl bi rfl ty4) rfl rfl ?_
          | refine sP (opp_loadF rfl rfl ty4) rfl rfl ?_
        refine sP (opp_not rfl rfl) rfl rfl ?_
        refine awp_cond _ rfl (fun hc12 => ?_) (fun hc12 => ?_)
        · try simp only [cmpI, errD_nil, Bool.not_eq_true', Bool.not_eq_false', decide_eq_true_eq, decide_eq_false_iff_not] at hc12; have ht30 := hc12
          have hdl := Sp.dueTo_len s i
          refine awp_region rfl ?_
          first
            | refine sP (opp_mv (v := .sl _ _ _ _) rfl rfl) rfl rfl ?_
            | refine sP (opp_mv (v := .osl _ _ _ _ _) rfl rfl) rfl rfl ?_
          first
            | refine sP (opp_loadP rfl rfl rfl rfl bi rfl ty26) rfl rfl ?_
            | refine sP (opp_loadF rfl rfl ty26) rfl rfl ?_
          refine sR (opr_buildSlice (n := 33) (g := fun j => if j = 0 then .agg _ else .agg [.int .i64 0, .int .i64 0, .agg [.int .i64 0, .int .i64 0, .int .i64 0], .int .i64 0, .int .i64 0, .int .i64 0, .int .u32 0, .str []]) rfl eb48 z26 (by decide) rfl rfl) rfl rfl rfl ?_
          first
            | refine sR (opr_append (d := 34) rfl rfl rfl (by omega) (.osl0 rfl (by omega)) eb48 z26 (by omega) (by omega)) rfl rfl rfl ?_
            | refine sR (opr_append (d := 34) rfl rfl rfl (by omega) .sl eb48 z26 (by omega) (by omega)) rfl rfl rfl ?_
            | refine sR (opr_append (d := 34) rfl rfl rfl (by omega) (.osl rfl (by omega) (fun _ _ => rfl)) eb48 z26 (by omega) (by omega)) rfl rfl rfl ?_
            | refine sR (opr_appendNil (d := 34) rfl rfl (.osl0 rfl (by omega)) eb48 z26 (by omega) (by omega) (by omega)) rfl rfl rfl ?_
            | refine sR (opr_appendNil (d := 34) rfl rfl .sl eb48 z26 (by omega) (by omega) (by omega)) rfl rfl rfl ?_
            | refine sR (opr_appendNil (d := 34) rfl rfl (.osl rfl (by omega) (fun _ _ => rfl)) eb48 z26 (by omega) (by omega) (by omega)) rfl rfl rfl ?_
          first
            | refine sP (opp_as (v := .sl _ _ _ _) rfl rfl) rfl rfl ?_
            | refine sP (opp_as (v := .osl _ _ _ _ _) rfl rfl) rfl rfl ?_
          refine awp_region rfl ?_
          first
            | refine sP (opp_arith rfl rfl rfl (.inl ⟨rfl, w64 (by omega)⟩)) rfl rfl ?_
            | refine sP (opp_arith rfl rfl rfl (.inl ⟨rfl, rfl⟩)) rfl rfl ?_
          refine sP (opp_mv (v := .int _ _) rfl rfl) rfl rfl ?_
          have hs1 : Sp.dueTo s (i + 1) = Sp.dueTo s i ++ [(Sp.cutS s).1.getD i Sp.zero] := by rw [Sp.dueTo_succ, if_pos (by simpa using ht30)]
          refine Exists.intro ((i + 1, false)) (And.intro (And.intro (And.intro (by show i + 1 ≤ (Sp.cutS s).1.length; omega) (by rw [hs1]; simp)) (by omega)) (by
            refine imp_over [(1006, 34)] rfl rfl (by kernel_rfl) ?_ ?_
            · refine And.intro (by exact Or.inr (And.intro rfl (WkV.of (by show AV.osl 34 10 0 _ _ = AV.osl 34 10 0 _ _; rw [hs1]; simp)))) ?_
              refine And.intro wkv ?_
              refine And.intro wkv ?_
              refine And.intro wkv ?_
              refine And.intro wkv ?_
              refine And.intro wkv ?_
              refine And.intro wkv ?_
              refine And.intro wkv ?_
              refine And.intro wkv ?_
              refine And.intro wkv ?_
              refine And.intro wkv ?_
              refine And.intro wkv ?_
              refine And.intro wkv ?_
              refine And.intro wkv ?_
              refine And.intro wkv ?_
              refine And.intro wkv ?_
              refine And.intro wkv ?_
              refine And.intro wkv ?_
              refine And.intro wkv ?_
              exact True.intro
            · refine And.intro (And.intro rfl (And.intro rfl (Exists.intro _ (And.intro rfl (by show WkC (AV.arr 10 _ _) (AV.arr 10 _ _); rw [hs1, List.length_append]; exact WkC.arr (fun j hj => no_append _ _ j _ rfl _ hj)))))) ?_
              exact True.intro
            ))
        · try simp only [cmpI, errD_nil, Bool.not_eq_true', Bool.not_eq_false', decide_eq_true_eq, decide_eq_false_iff_not] at hc12; have ht30 := hc12
          refine awp_skip ?_
          refine awp_region rfl ?_
          first
            | refine sP (opp_arith rfl rfl rfl (.inl ⟨rfl, w64 (by omega)⟩)) rfl rfl ?_
            | refine sP (opp_arith rfl rfl rfl (.inl ⟨rfl, rfl⟩)) rfl rfl ?_
          refine sP (opp_mv (v := .int _ _) rfl rfl) rfl rfl ?_
          have hs1 : Sp.dueTo s (i + 1) = Sp.dueTo s i := by rw [Sp.dueTo_succ, if_neg (by simpa using ht30)]
          refine Exists.intro ((i + 1, false)) (And.intro (And.intro (And.intro (by show i + 1 ≤ (Sp.cutS s).1.length; omega) (by rw [hs1]; exact hi1.2)) (by omega)) (by
            refine imp_over [] rfl rfl (by kernel_rfl) ?_ ?_
            · refine And.intro (by rw [hs1]; exact Or.inr (And.intro rfl (WkV.refl _))) ?_
              refine And.intro wkv ?_
              refine And.intro wkv ?_
              refine And.intro wkv ?_
              refine And.intro wkv ?_
              refine And.intro wkv ?_
              refine And.intro wkv ?_
              refine And.intro wkv ?_
              refine And.intro wkv ?_
              refine And.intro wkv ?_
              refine And.intro wkv ?_
              refine And.intro wkv ?_
              refine And.intro wkv ?_
              refine And.intro wkv ?_
              refine And.intro wkv ?_
              refine And.intro wkv ?_
              refine And.intro wkv ?_
              refine And.intro wkv ?_
              refine And.intro wkv ?_
              exact True.intro
            · refine And.intro (And.intro rfl (And.intro rfl (Exists.intro _ (And.intro rfl (by rw [hs1]; exact WkC.refl _))))) ?_
              exact True.intro
            ))
      · try simp only [cmpI, errD_nil, Bool.not_eq_true', Bool.not_eq_false', decide_eq_true_eq, decide_eq_false_iff_not] at hc9; have ht21 := hc9
        refine awp_exit ?_
        refine awp_seq ?_
        refine awp_region rfl ?_
        first
          | refine sP (opp_mv (v := .sl _ _ _ _) rfl rfl) rfl rfl ?_
          | refine sP (opp_mv (v := .osl _ _ _ _ _) rfl rfl) rfl rfl ?_
        first
          | refine sP (opp_as (v := .sl _ _ _ _) rfl rfl) rfl rfl ?_
          | refine sP (opp_as (v := .osl _ _ _ _ _) rfl rfl) rfl rfl ?_
        refine sP (opp_as (v := .err _) rfl rfl) rfl rfl ?_
        refine awp_ret ?_
        repeat (first | refine athen_ret ?_ | refine ain_ret ?_)
        first
          | refine apost_ret (aend (l := [.sl _ _ _ _, .err _]) (.tmp (.tmp .nil)) (fun h => by cases h) (.cons (.noN rfl rfl) (.cons (.noN rfl rfl) .nil)) ⟨Wk.v ?_, rfl, rfl⟩)
          | refine apost_ret (aends (l := [.sl _ _ _ _, .err _]) (.tmp (.tmp .nil)) (fun h => by cases h) (.cons shut (fun h => by cases h) (.cons shut (fun h => by cases h) .nil)) rfl ⟨Wk.v ?_, rfl, rfl⟩)
          | refine apost_ret (aend (l := [.osl _ _ _ _ _, .err _]) (.tmp (.tmp .nil)) (fun h => by cases h) (.cons (.noN rfl rfl) (.cons (.noN rfl rfl) .nil)) ⟨Wk.v ?_, rfl, rfl⟩)
          | refine apost_ret (aends (l := [.osl _ _ _ _ _, .err _]) (.tmp (.tmp .nil)) (fun h => by cases h) (.cons shut (fun h => by cases h) (.cons shut (fun h => by cases h) .nil)) rfl ⟨Wk.v ?_, rfl, rfl⟩)
        have hi2 : i = (Sp.cutS s).1.length := by omega
        subst hi2
        have hne : Sp.dueTo s (Sp.cutS s).1.length ≠ [] := fun h => by have := hi1.2.2 h; cases this
        rw [show Sp.due s = (Sp.dueTo s (Sp.cutS s).1.length, 0) by simp [Sp.due, hc3]]
        simp only [decide_eq_false hne]; (repeat' (first | exact Wk.refl | exact Wk.sl0 | apply Wk.tup | apply Wk.agg | apply WkL.cons | exact WkL.nil | refine Wk.sl (fun _ _ => ?_)))
    · dsimp only [cond] at hi1 ⊢
      refine awp_seq ?_
      refine awp_region rfl ?_
      refine sP (opp_cmp rfl rfl rfl rfl) rfl rfl ?_
      refine awp_seq ?_
      refine awp_cond _ rfl (fun hc18 => ?_) (fun hc18 => ?_)
      · try simp only [cmpI, errD_nil, Bool.not_eq_true', Bool.not_eq_false', decide_eq_true_eq, decide_eq_false_iff_not] at hc18; have ht21 := hc18
        refine awp_skip ?_
        refine awp_seq ?_
        refine awp_block ?_
        refine awp_seq ?_
        refine awp_region rfl ?_
        refine sP (opp_mv (v := .int _ _) rfl rfl) rfl rfl ?_
        first
          | refine sP (opp_indexSl rfl rfl rfl el48 (by omega) (by omega)) rfl rfl ?_
          | refine sP (opp_indexOsl0 rfl rfl rfl el48 (by omega) (by omega)) rfl rfl ?_
          | refine sP (opp_indexOsl rfl rfl rfl el48 (by omega) (by omega)) rfl rfl ?_
        first
          | refine sP (opp_loadP rfl rfl rfl rfl bi rfl ty26) rfl rfl ?_
          | refine sP (opp_loadF rfl rfl ty26) rfl rfl ?_
        refine sR (opr_alloc (n := 8) rfl z26) rfl rfl rfl ?_
        refine sP (opp_as (v := .int _ _) rfl rfl) rfl rfl ?_
        refine sR0 (opr_store (v := .agg _) (trn := (.agg _)) rfl rfl rfl rfl bi rfl rfl rfl rfl fr2 ty26 (fun _ _ h => h)) rfl rfl rfl ?_
        refine awp_seq ?_
        refine awp_region rfl ?_
        first
          | refine sP (opp_fieldP rfl rfl fld45_4 rfl) rfl rfl ?_
          | refine sP (opp_fieldF rfl rfl rfl fld45_4 rfl rfl) rfl rfl ?_
        first
          | refine sP (opp_loadP rfl rfl rfl rfl bi rfl ty43) rfl rfl ?_
          | refine sP (opp_loadF rfl rfl ty43) rfl rfl ?_
        refine sP (opp_mv (v := .int _ _) rfl rfl) rfl rfl ?_
        first
          | refine sP (opp_indexSl rfl rfl rfl el43 (by omega) (by omega)) rfl rfl ?_
          | refine sP (opp_indexOsl0 rfl rfl rfl el43 (by omega) (by omega)) rfl rfl ?_
          | refine sP (opp_indexOsl rfl rfl rfl el43 (by omega) (by omega)) rfl rfl ?_
        first
          | refine sP (opp_loadP rfl rfl rfl rfl bi rfl ty4) rfl rfl ?_
          | refine sP (opp_loadF rfl rfl ty4) rfl rfl ?_
        refine sP (opp_not rfl rfl) rfl rfl ?_
        refine awp_cond _ rfl (fun hc21 => ?_) (fun hc21 => ?_)
        · try simp only [cmpI, errD_nil, Bool.not_eq_true', Bool.not_eq_false', decide_eq_true_eq, decide_eq_false_iff_not] at hc21; have ht30 := hc21
          have hdl := Sp.dueTo_len s i
          refine awp_region rfl ?_
          first
            | refine sP (opp_mv (v := .sl _ _ _ _) rfl rfl) rfl rfl ?_
            | refine sP (opp_mv (v := .osl _ _ _ _ _) rfl rfl) rfl rfl ?_
          first
            | refine sP (opp_loadP rfl rfl rfl rfl bi rfl ty26) rfl rfl ?_
            | refine sP (opp_loadF rfl rfl ty26) rfl rfl ?_
          refine sR (opr_buildSlice (n := 33) (g := fun j => if j = 0 then .agg _ else .agg [.int .i64 0, .int .i64 0, .agg [.int .i64 0, .int .i64 0, .int .i64 0], .int .i64 0, .int .i64 0, .int .i64 0, .int .u32 0, .str []]) rfl eb48 z26 (by decide) rfl rfl) rfl rfl rfl ?_
          first
            | refine sR (opr_append (d := 34) rfl rfl rfl (by omega) (.osl0 rfl (by omega)) eb48 z26 (by omega) (by omega)) rfl rfl rfl ?_
            | refine sR (opr_append (d := 34) rfl rfl rfl (by omega) .sl eb48 z26 (by omega) (by omega)) rfl rfl rfl ?_
            | refine sR (opr_append (d := 34) rfl rfl rfl (by omega) (.osl rfl (by omega) (fun _ _ => rfl)) eb48 z26 (by omega) (by omega)) rfl rfl rfl ?_
            | refine sR (opr_appendNil (d := 34) rfl rfl (.osl0 rfl (by omega)) eb48 z26 (by omega) (by omega) (by omega)) rfl rfl rfl ?_
            | refine sR (opr_appendNil (d := 34) rfl rfl .sl eb48 z26 (by omega) (by omega) (by omega)) rfl rfl rfl ?_
            | refine sR (opr_appendNil (d := 34) rfl rfl (.osl rfl (by omega) (fun _ _ => rfl)) eb48 z26 (by omega) (by omega) (by omega)) rfl rfl rfl ?_
          first
            | refine sP (opp_as (v := .sl _ _ _ _) rfl rfl) rfl rfl ?_
            | refine sP (opp_as (v := .osl _ _ _ _ _) rfl rfl) rfl rfl ?_
          refine awp_region rfl ?_
          first
            | refine sP (opp_arith rfl rfl rfl (.inl ⟨rfl, w64 (by omega)⟩)) rfl rfl ?_
            | refine sP (opp_arith rfl rfl rfl (.inl ⟨rfl, rfl⟩)) rfl rfl ?_
          refine sP (opp_mv (v := .int _ _) rfl rfl) rfl rfl ?_
          have hs1 : Sp.dueTo s (i + 1) = Sp.dueTo s i ++ [(Sp.cutS s).1.getD i Sp.zero] := by rw [Sp.dueTo_succ, if_pos (by simpa using ht30)]
          have hs0 : Sp.dueTo s i = [] := hi1.2.1 rfl
          refine Exists.intro ((i + 1, false)) (And.intro (And.intro (And.intro (by show i + 1 ≤ (Sp.cutS s).1.length; omega) (by rw [hs1]; simp)) (by omega)) (by
            refine imp_over [(1006, 34)] rfl rfl (by kernel_rfl) ?_ ?_
            · refine And.intro (by exact Or.inr (And.intro rfl (WkV.of (by show AV.osl 34 10 0 _ _ = AV.osl 34 10 0 _ _; rw [hs1, hs0]; simp)))) ?_
              refine And.intro wkv ?_
              refine And.intro wkv ?_
              refine And.intro wkv ?_
              refine And.intro wkv ?_
              refine And.intro wkv ?_
              refine And.intro wkv ?_
              refine And.intro wkv ?_
              refine And.intro wkv ?_
              refine And.intro wkv ?_
              refine And.intro wkv ?_
              refine And.intro wkv ?_
              refine And.intro wkv ?_
              refine And.intro wkv ?_
              refine And.intro wkv ?_
              refine And.intro wkv ?_
              refine And.intro wkv ?_
              refine And.intro wkv ?_
              refine And.intro wkv ?_
              exact True.intro
            · refine And.intro (And.intro rfl (And.intro rfl (Exists.intro _ (And.intro rfl (by show WkC (AV.arr 10 _ _) (AV.arr 10 _ _); rw [hs1, hs0]; exact WkC.arr (fun j hj => by have h0 : j = 0 := (by simpa using hj); subst h0; rfl)))))) ?_
              exact True.intro
            ))
        · try simp only [cmpI, errD_nil, Bool.not_eq_true', Bool.not_eq_false', decide_eq_true_eq, decide_eq_false_iff_not] at hc21; have ht30 := hc21
          refine awp_skip ?_
          refine awp_region rfl ?_
          first
            | refine sP (opp_arith rfl rfl rfl (.inl ⟨rfl, w64 (by omega)⟩)) rfl rfl ?_
            | refine sP (opp_arith rfl rfl rfl (.inl ⟨rfl, rfl⟩)) rfl rfl ?_
          refine sP (opp_mv (v := .int _ _) rfl rfl) rfl rfl ?_
          have hs1 : Sp.dueTo s (i + 1) = Sp.dueTo s i := by rw [Sp.dueTo_succ, if_neg (by simpa using ht30)]
          refine Exists.intro ((i + 1, true)) (And.intro (And.intro (And.intro (by show i + 1 ≤ (Sp.cutS s).1.length; omega) (by rw [hs1]; exact hi1.2)) (by omega)) (by
            refine imp_over [] rfl rfl (by kernel_rfl) ?_ ?_
            · refine And.intro wkv ?_
              refine And.intro wkv ?_
              refine And.intro wkv ?_
              refine And.intro wkv ?_
              refine And.intro wkv ?_
              refine And.intro wkv ?_
              refine And.intro wkv ?_
              refine And.intro wkv ?_
              refine And.intro wkv ?_
              refine And.intro wkv ?_
              refine And.intro wkv ?_
              refine And.intro wkv ?_
              refine And.intro wkv ?_
              refine And.intro wkv ?_
              refine And.intro wkv ?_
              refine And.intro wkv ?_
              refine And.intro wkv ?_
              refine And.intro wkv ?_
              refine And.intro wkv ?_
              exact True.intro
            · exact True.intro
            ))
      · try simp only [cmpI, errD_nil, Bool.not_eq_true', Bool.not_eq_false', decide_eq_true_eq, decide_eq_false_iff_not] at hc18; have ht21 := hc18
        refine awp_exit ?_
        refine awp_seq ?_
        refine awp_region rfl ?_
        first
          | refine sP (opp_mv (v := .sl _ _ _ _) rfl rfl) rfl rfl ?_
          | refine sP (opp_mv (v := .osl _ _ _ _ _) rfl rfl) rfl rfl ?_
        first
          | refine sP (opp_as (v := .sl _ _ _ _) rfl rfl) rfl rfl ?_
          | refine sP (opp_as (v := .osl _ _ _ _ _) rfl rfl) rfl rfl ?_
        refine sP (opp_as (v := .err _) rfl rfl) rfl rfl ?_
        refine awp_ret ?_
        repeat (first | refine athen_ret ?_ | refine ain_ret ?_)
        first
          | refine apost_ret (aend (l := [.sl _ _ _ _, .err _]) (.tmp (.tmp .nil)) (fun h => by cases h) (.cons (.noN rfl rfl) (.cons (.noN rfl rfl) .nil)) ⟨Wk.v ?_, rfl, rfl⟩)
          | refine apost_ret (aends (l := [.sl _ _ _ _, .err _]) (.tmp (.tmp .nil)) (fun h => by cases h) (.cons shut (fun h => by cases h) (.cons shut (fun h => by cases h) .nil)) rfl ⟨Wk.v ?_, rfl, rfl⟩)
          | refine apost_ret (aend (l := [.osl _ _ _ _ _, .err _]) (.tmp (.tmp .nil)) (fun h => by cases h) (.cons (.noN rfl rfl) (.cons (.noN rfl rfl) .nil)) ⟨Wk.v ?_, rfl, rfl⟩)
          | refine apost_ret (aends (l := [.osl _ _ _ _ _, .err _]) (.tmp (.tmp .nil)) (fun h => by cases h) (.cons shut (fun h => by cases h) (.cons shut (fun h => by cases h) .nil)) rfl ⟨Wk.v ?_, rfl, rfl⟩)
        have hi2 : i = (Sp.cutS s).1.length := by omega
        subst hi2
        have hne : Sp.dueTo s (Sp.cutS s).1.length = [] := hi1.2.1 rfl
        rw [show Sp.due s = (Sp.dueTo s (Sp.cutS s).1.length, 0) by simp [Sp.due, hc3], hne]
        show Wk _ (.tup [.sl 10 true 0 _, .err .nil]); (repeat' (first | exact Wk.refl | exact Wk.sl0 | apply Wk.tup | apply Wk.agg | apply WkL.cons | exact WkL.nil | refine Wk.sl (fun _ _ => ?_)))
end
end Go.Proofs.YtgaihhimkodmmaaDoor

