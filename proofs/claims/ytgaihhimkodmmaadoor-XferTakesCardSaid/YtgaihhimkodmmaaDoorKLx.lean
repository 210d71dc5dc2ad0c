/- The document's answers for layer 20: an image is cut; for layer 22: an image is started (walks over this dump). -/
import Derived.Test.YtgaihhimkodmmaaDoorKEx
import Derived.Test.YtgaihhimkodmmaaDoorS5
namespace Go.Proofs.YtgaihhimkodmmaaDoor
attribute [local irreducible] Tryd.prog
open Go.Fy
set_option linter.unusedSimpArgs false
set_option linter.unusedVariables false
section
variable {ea : Nat → Addr} {cds : List Nat} {gl : Nat → Option AV}
theorem c104 (a : Int) : APure (V ea cds gl) 104 [.int .i64 a] false (.bool (Sp.goodPart a)) := by
  refine acalls_of_body (N := 9) Tryd.func104 rfl rfl (Nat.le_of_ble_eq_true rfl) fun C hV hN hM hO => ?_
  obtain ⟨_, _, w0, G0, σ0, _, own0⟩ := C; dsimp only at hV hN hM hO; subst hV; subst hN; subst hM
  refine awp_seq ?_
  refine awp_region rfl ?_
  refine sP (opp_as (v := .bool _) rfl rfl) rfl rfl ?_
  refine awp_seq ?_
  refine awp_region rfl ?_
  refine sP (opp_mv (v := .int _ _) rfl rfl) rfl rfl ?_
  refine sP (opp_cmp rfl rfl rfl rfl) rfl rfl ?_
  refine sP (opp_mv (v := .bool _) rfl rfl) rfl rfl ?_
  refine sG _ rfl rfl rfl rfl (fun hg => (And.intro gi (True.intro))) (fun hg => opp_mv (v := .int _ _) rfl rfl) ?_
  refine sG _ rfl rfl rfl rfl (fun hg => (And.intro gi (And.intro gi (True.intro)))) (fun hg => opp_cmp rfl rfl rfl rfl) ?_
  refine sPick rfl rfl rfl rfl (by exact True.intro) rfl rfl (fun hg => gi) (fun hg => gi) ?_
  refine sP (opp_as (v := .bool _) rfl rfl) rfl rfl ?_
  refine awp_ret ?_
  repeat (first | refine athen_ret ?_ | refine ain_ret ?_)
  first
    | refine apost_ret (aend1 (r0 := .bool _) (.tmp .nil) (.noN rfl rfl) ⟨Wk.v ?_, rfl, rfl⟩)
    | refine apost_ret (aend1s (r0 := .bool _) (.tmp .nil) shut rfl ⟨Wk.v ?_, rfl, rfl⟩)
  refine .of (congrArg AV.bool ?_)
  simp only [cmpI, Sp.goodPart, Sp.within]; by_cases h1 : 0 ≤ a <;> simp [h1]; omega
theorem c105 (x : Xid) : APure (V ea cds gl) 105 [xidAV x] false (.bool (Sp.goodXid x)) := by
  refine acalls_of_body (N := 31) Tryd.func105 rfl rfl (Nat.le_of_ble_eq_true rfl) fun C hV hN hM hO => ?_
  obtain ⟨_, _, w0, G0, σ0, _, own0⟩ := C; dsimp only at hV hN hM hO; subst hV; subst hN; subst hM
  refine awp_seq ?_
  refine awp_region rfl ?_
  refine sR (opr_box (y := .agg _) (n := 1) rfl rfl rfl) rfl rfl rfl ?_
  refine sP (opp_as (v := .bool _) rfl rfl) rfl rfl ?_
  refine awp_seq ?_
  refine awp_region rfl ?_
  first
    | refine sP (opp_fieldP rfl rfl fld23_0 rfl) rfl rfl ?_
    | refine sP (opp_fieldF rfl rfl rfl fld23_0 rfl rfl) rfl rfl ?_
  first
    | refine sP (opp_loadP rfl rfl rfl rfl bi rfl ty3) rfl rfl ?_
    | refine sP (opp_loadF rfl rfl ty3) rfl rfl ?_
  refine sP (opp_cmp rfl rfl rfl rfl) rfl rfl ?_
  refine sP (opp_mv (v := .bool _) rfl rfl) rfl rfl ?_
  first
    | refine sG _ rfl rfl rfl rfl (fun hg => (And.intro gi (True.intro))) (fun hg => opp_fieldP rfl rfl fld23_0 rfl) ?_
    | refine sG _ rfl rfl rfl rfl (fun hg => (And.intro gi (True.intro))) (fun hg => opp_fieldF rfl rfl rfl fld23_0 rfl rfl) ?_
  first
    | refine sG _ rfl rfl rfl rfl (fun hg => (And.intro gi (True.intro))) (fun hg => opp_loadP rfl rfl rfl rfl bi rfl ty3) ?_
    | refine sG _ rfl rfl rfl rfl (fun hg => (And.intro gi (True.intro))) (fun hg => opp_loadF rfl rfl ty3) ?_
  refine sG _ rfl rfl rfl rfl (fun hg => (And.intro gi (And.intro gi (True.intro)))) (fun hg => opp_cmp rfl rfl rfl rfl) ?_
  refine sPick rfl rfl rfl rfl (by exact True.intro) rfl rfl (fun hg => gi) (fun hg => gi) ?_
  refine sP (opp_mv (v := .bool _) rfl rfl) rfl rfl ?_
  first
    | refine sG _ rfl rfl rfl rfl (fun hg => (And.intro gi (True.intro))) (fun hg => opp_fieldP rfl rfl fld23_1 rfl) ?_
    | refine sG _ rfl rfl rfl rfl (fun hg => (And.intro gi (True.intro))) (fun hg => opp_fieldF rfl rfl rfl fld23_1 rfl rfl) ?_
  first
    | refine sG _ rfl rfl rfl rfl (fun hg => (And.intro gi (True.intro))) (fun hg => opp_loadP rfl rfl rfl rfl bi rfl ty3) ?_
    | refine sG _ rfl rfl rfl rfl (fun hg => (And.intro gi (True.intro))) (fun hg => opp_loadF rfl rfl ty3) ?_
  refine sG _ rfl rfl rfl rfl (fun hg => (And.intro gi (And.intro gi (True.intro)))) (fun hg => opp_cmp rfl rfl rfl rfl) ?_
  refine sPick rfl rfl rfl rfl (by exact True.intro) rfl rfl (fun hg => gi) (fun hg => gi) ?_
  refine sP (opp_mv (v := .bool _) rfl rfl) rfl rfl ?_
  first
    | refine sG _ rfl rfl rfl rfl (fun hg => (And.intro gi (True.intro))) (fun hg => opp_fieldP rfl rfl fld23_1 rfl) ?_
    | refine sG _ rfl rfl rfl rfl (fun hg => (And.intro gi (True.intro))) (fun hg => opp_fieldF rfl rfl rfl fld23_1 rfl rfl) ?_
  first
    | refine sG _ rfl rfl rfl rfl (fun hg => (And.intro gi (True.intro))) (fun hg => opp_loadP rfl rfl rfl rfl bi rfl ty3) ?_
    | refine sG _ rfl rfl rfl rfl (fun hg => (And.intro gi (True.intro))) (fun hg => opp_loadF rfl rfl ty3) ?_
  refine sG _ rfl rfl rfl rfl (fun hg => (And.intro gi (And.intro gi (True.intro)))) (fun hg => opp_cmp rfl rfl rfl rfl) ?_
  refine sPick rfl rfl rfl rfl (by exact True.intro) rfl rfl (fun hg => gi) (fun hg => gi) ?_
  refine sP (opp_mv (v := .bool _) rfl rfl) rfl rfl ?_
  first
    | refine sG _ rfl rfl rfl rfl (fun hg => (And.intro gi (True.intro))) (fun hg => opp_fieldP rfl rfl fld23_2 rfl) ?_
    | refine sG _ rfl rfl rfl rfl (fun hg => (And.intro gi (True.intro))) (fun hg => opp_fieldF rfl rfl rfl fld23_2 rfl rfl) ?_
  first
    | refine sG _ rfl rfl rfl rfl (fun hg => (And.intro gi (True.intro))) (fun hg => opp_loadP rfl rfl rfl rfl bi rfl ty3) ?_
    | refine sG _ rfl rfl rfl rfl (fun hg => (And.intro gi (True.intro))) (fun hg => opp_loadF rfl rfl ty3) ?_
  refine sG _ rfl rfl rfl rfl (fun hg => (And.intro gi (And.intro gi (True.intro)))) (fun hg => opp_cmp rfl rfl rfl rfl) ?_
  refine sPick rfl rfl rfl rfl (by exact True.intro) rfl rfl (fun hg => gi) (fun hg => gi) ?_
  refine sP (opp_mv (v := .bool _) rfl rfl) rfl rfl ?_
  first
    | refine sG _ rfl rfl rfl rfl (fun hg => (And.intro gi (True.intro))) (fun hg => opp_fieldP rfl rfl fld23_2 rfl) ?_
    | refine sG _ rfl rfl rfl rfl (fun hg => (And.intro gi (True.intro))) (fun hg => opp_fieldF rfl rfl rfl fld23_2 rfl rfl) ?_
  first
    | refine sG _ rfl rfl rfl rfl (fun hg => (And.intro gi (True.intro))) (fun hg => opp_loadP rfl rfl rfl rfl bi rfl ty3) ?_
    | refine sG _ rfl rfl rfl rfl (fun hg => (And.intro gi (True.intro))) (fun hg => opp_loadF rfl rfl ty3) ?_
  refine sG _ rfl rfl rfl rfl (fun hg => (And.intro gi (And.intro gi (True.intro)))) (fun hg => opp_cmp rfl rfl rfl rfl) ?_
  refine sPick rfl rfl rfl rfl (by exact True.intro) rfl rfl (fun hg => gi) (fun hg => gi) ?_
  refine sP (opp_as (v := .bool _) rfl rfl) rfl rfl ?_
  refine awp_ret ?_
  repeat (first | refine athen_ret ?_ | refine ain_ret ?_)
  first
    | refine apost_ret (aend1 (r0 := .bool _) (.tmp .nil) (.noN rfl rfl) ⟨Wk.v ?_, rfl, rfl⟩)
    | refine apost_ret (aend1s (r0 := .bool _) (.tmp .nil) shut rfl ⟨Wk.v ?_, rfl, rfl⟩)
  refine .of (congrArg AV.bool ?_)
  simp only [cmpI, Sp.goodXid, Sp.within]
  by_cases h1 : 1 ≤ x.boot <;> by_cases h2 : x.boot ≤ 2147483647 <;> by_cases h3 : 1 ≤ x.peer <;> by_cases h4 : x.peer ≤ 2147483647 <;> by_cases h5 : 1 ≤ x.num <;> by_cases h6 : x.num ≤ 2147483647 <;> simp [h1, h2, h3, h4, h5, h6]
/-- The first i pieces. -/
def notesTo (p : Int) (x : Xid) (st : Int) (im : List UInt8) (i : Nat) : List Note := (List.range i).map fun j => Sp.cutNote p x st im j j (Sp.total im)
theorem notesTo_succ (p : Int) (x : Xid) (st : Int) (im : List UInt8) (i : Nat) : notesTo p x st im (i + 1) = notesTo p x st im i ++ [Sp.cutNote p x st im i i (Sp.total im)] := by simp [notesTo, List.range_succ]
theorem notesTo_len (p : Int) (x : Xid) (st : Int) (im : List UInt8) (i : Nat) : (notesTo p x st im i).length = i := by simp [notesTo]
theorem c49 (p : Int) (x : Xid) (st : Int) (b : Bool) (im : List UInt8) (h0 : im.length ≤ 281474976710656) :
    APure (V ea cds gl) 49 [.int .i64 p, xidAV x, .int .i64 st, .sl 1 b im.length (bAt im)] true (.tup [.sl 10 (decide ((Sp.cut p x st im).1 = [])) (Sp.cut p x st im).1.length (noAt (Sp.cut p x st im).1), .int .i64 ((Sp.cut p x st im).2 : Nat)]) := by
  have htot : Sp.total im = (im.length + 127) / 128 := rfl
  refine acalls_of_body (N := 70) Tryd.func49 rfl rfl (Nat.le_of_ble_eq_true rfl) fun C hV hN hM hO => ?_
  obtain ⟨_, _, w0, G0, σ0, _, own0⟩ := C; dsimp only at hV hN hM hO; subst hV; subst hN; subst hM
  refine awp_seq ?_
  refine awp_region rfl ?_
  refine sR (opr_box (y := .agg _) (n := 5) rfl rfl rfl) rfl rfl rfl ?_
  first
    | refine sP (opp_as (v := .sl _ _ _ _) rfl rfl) rfl rfl ?_
    | refine sP (opp_as (v := .osl _ _ _ _ _) rfl rfl) rfl rfl ?_
  refine sP (opp_as (v := .int _ _) rfl rfl) rfl rfl ?_
  refine awp_seq ?_
  refine awp_seq ?_
  refine awp_region rfl ?_
  refine sP (opp_mv (v := .int _ _) rfl rfl) rfl rfl ?_
  refine sR (opr_call rfl rfl ent104 rfl (c104 _) (AViews.refl _ rfl)) rfl rfl rfl ?_ -- d=14 t=4
  refine sP (opp_not rfl rfl) rfl rfl ?_
  refine sP (opp_mv (v := .bool _) rfl rfl) rfl rfl ?_
  first
    | refine sG _ rfl rfl rfl rfl (fun hg => (And.intro gi (True.intro))) (fun hg => opp_loadP rfl rfl rfl rfl bi rfl ty23) ?_
    | refine sG _ rfl rfl rfl rfl (fun hg => (And.intro gi (True.intro))) (fun hg => opp_loadF rfl rfl ty23) ?_
  refine sGR _ rfl rfl rfl rfl (fun hg => (And.intro gi (And.intro gi (True.intro)))) (fun hg => (opr_call rfl rfl ent105 rfl (c105 _) (AViews.refl _ rfl))) ?_
  refine sG _ rfl rfl rfl rfl (fun hg => (And.intro gi (True.intro))) (fun hg => opp_not rfl rfl) ?_
  refine sPick rfl rfl rfl rfl (by exact True.intro) rfl rfl (fun hg => gi) (fun hg => gi) ?_
  refine sP (opp_mv (v := .bool _) rfl rfl) rfl rfl ?_
  refine sG _ rfl rfl rfl rfl (fun hg => (And.intro gi (True.intro))) (fun hg => opp_mv (v := .int _ _) rfl rfl) ?_
  refine sG _ rfl rfl rfl rfl (fun hg => (And.intro gi (And.intro gi (True.intro)))) (fun hg => opp_cmp rfl rfl rfl rfl) ?_
  refine sG _ rfl rfl rfl rfl (fun hg => (And.intro gi (True.intro))) (fun hg => opp_mv (v := .bool _) rfl rfl) ?_
  refine sG _ rfl rfl rfl rfl (fun hg => (And.intro gi (True.intro))) (fun hg => opp_mv (v := .int _ _) rfl rfl) ?_
  refine sG _ rfl rfl rfl rfl (fun hg => (And.intro gi (And.intro gi (True.intro)))) (fun hg => opp_cmp rfl rfl rfl rfl) ?_
  refine sPickG _ rfl rfl rfl rfl rfl rfl (fun hg => by first | exact True.intro | exact And.intro hg True.intro | (refine And.intro ?_ True.intro; simp_all; done)) rfl rfl (fun h0 hg => g2) (fun h0 hg => g2) ?_
  refine sPick rfl rfl rfl rfl (by exact True.intro) rfl rfl (fun hg => gi) (fun hg => gi) ?_
  refine awp_cond _ rfl (fun hc3 => ?_) (fun hc3 => ?_)
  · (try simp only [cmpI, errD_nil, Bool.not_eq_true', Bool.not_eq_false', decide_eq_true_eq, decide_eq_false_iff_not] at hc3); have ht28 := hc3
    refine awp_seq ?_
    refine awp_region rfl ?_
    first
      | refine sP (opp_as (v := .sl _ _ _ _) rfl rfl) rfl rfl ?_
      | refine sP (opp_as (v := .osl _ _ _ _ _) rfl rfl) rfl rfl ?_
    refine sP (opp_as (v := .int _ _) rfl rfl) rfl rfl ?_
    refine awp_ret ?_
    repeat (first | refine athen_ret ?_ | refine ain_ret ?_)
    first
      | refine apost_ret (aend (l := [.sl _ _ _ _, .int _ _]) (.tmp (.tmp .nil)) (fun h => by cases h) (.cons (.noN rfl rfl) (.cons (.noN rfl rfl) .nil)) ⟨Wk.v ?_, rfl, rfl⟩)
      | refine apost_ret (aends (l := [.sl _ _ _ _, .int _ _]) (.tmp (.tmp .nil)) (fun h => by cases h) (.cons shut (fun h => by cases h) (.cons shut (fun h => by cases h) .nil)) rfl ⟨Wk.v ?_, rfl, rfl⟩)
      | refine apost_ret (aend (l := [.osl _ _ _ _ _, .int _ _]) (.tmp (.tmp .nil)) (fun h => by cases h) (.cons (.noN rfl rfl) (.cons (.noN rfl rfl) .nil)) ⟨Wk.v ?_, rfl, rfl⟩)
      | refine apost_ret (aends (l := [.osl _ _ _ _ _, .int _ _]) (.tmp (.tmp .nil)) (fun h => by cases h) (.cons shut (fun h => by cases h) (.cons shut (fun h => by cases h) .nil)) rfl ⟨Wk.v ?_, rfl, rfl⟩)
    have hq : (Sp.goodPart p && Sp.goodXid x && Sp.goodStage st) = false := by
      revert ht28; simp only [Sp.goodStage]; cases Sp.goodPart p <;> cases Sp.goodXid x <;> by_cases h1 : st = 1 <;> by_cases h2 : st = 2 <;> simp [cmpI, h1, h2]
    rw [show Sp.cut p x st im = ([], 12) from if_pos hq]; show Wk _ (.tup [.sl 10 true 0 _, .int .i64 12]); (repeat' (first | exact Wk.refl | exact Wk.sl0 | apply Wk.tup | apply Wk.agg | apply WkL.cons | exact WkL.nil | refine Wk.sl (fun _ _ => ?_)))
  · (try simp only [cmpI, errD_nil, Bool.not_eq_true', Bool.not_eq_false', decide_eq_true_eq, decide_eq_false_iff_not] at hc3); have ht28 := hc3
    refine awp_skip ?_
    refine awp_seq ?_
    refine awp_seq ?_
    have hq : ¬ (Sp.goodPart p && Sp.goodXid x && Sp.goodStage st) = false := by
      revert ht28; simp only [Sp.goodStage]; cases Sp.goodPart p <;> cases Sp.goodXid x <;> by_cases h1 : st = 1 <;> by_cases h2 : st = 2 <;> simp [cmpI, h1, h2]
    refine awp_region rfl ?_
    first
      | refine sP (opp_mv (v := .sl _ _ _ _) rfl rfl) rfl rfl ?_
      | refine sP (opp_mv (v := .osl _ _ _ _ _) rfl rfl) rfl rfl ?_
    first
      | refine sP (opp_lenSl rfl rfl un36) rfl rfl ?_
      | refine sP (opp_lenOsl rfl rfl un36) rfl rfl ?_
    refine sP (opp_cmp rfl rfl rfl rfl) rfl rfl ?_
    refine sP (opp_mv (v := .bool _) rfl rfl) rfl rfl ?_
    first
      | refine sG _ rfl rfl rfl rfl (fun hg => (And.intro gi (True.intro))) (fun hg => opp_mv (v := .sl _ _ _ _) rfl rfl) ?_
      | refine sG _ rfl rfl rfl rfl (fun hg => (And.intro gi (True.intro))) (fun hg => opp_mv (v := .osl _ _ _ _ _) rfl rfl) ?_
    first
      | refine sG _ rfl rfl rfl rfl (fun hg => (And.intro gi (True.intro))) (fun hg => opp_lenSl rfl rfl un36) ?_
      | refine sG _ rfl rfl rfl rfl (fun hg => (And.intro gi (True.intro))) (fun hg => opp_lenOsl rfl rfl un36) ?_
    refine sG _ rfl rfl rfl rfl (fun hg => (And.intro gi (And.intro gi (True.intro)))) (fun hg => opp_cmp rfl rfl rfl rfl) ?_
    refine sPick rfl rfl rfl rfl (by exact True.intro) rfl rfl (fun hg => gi) (fun hg => gi) ?_
    refine awp_cond _ rfl (fun hc6 => ?_) (fun hc6 => ?_)
    · (try simp only [cmpI, errD_nil, Bool.not_eq_true', Bool.not_eq_false', decide_eq_true_eq, decide_eq_false_iff_not] at hc6); have ht36 := hc6
      refine awp_seq ?_
      refine awp_region rfl ?_
      first
        | refine sP (opp_as (v := .sl _ _ _ _) rfl rfl) rfl rfl ?_
        | refine sP (opp_as (v := .osl _ _ _ _ _) rfl rfl) rfl rfl ?_
      refine sP (opp_as (v := .int _ _) rfl rfl) rfl rfl ?_
      refine awp_ret ?_
      repeat (first | refine athen_ret ?_ | refine ain_ret ?_)
      first
        | refine apost_ret (aend (l := [.sl _ _ _ _, .int _ _]) (.tmp (.tmp .nil)) (fun h => by cases h) (.cons (.noN rfl rfl) (.cons (.noN rfl rfl) .nil)) ⟨Wk.v ?_, rfl, rfl⟩)
        | refine apost_ret (aends (l := [.sl _ _ _ _, .int _ _]) (.tmp (.tmp .nil)) (fun h => by cases h) (.cons shut (fun h => by cases h) (.cons shut (fun h => by cases h) .nil)) rfl ⟨Wk.v ?_, rfl, rfl⟩)
        | refine apost_ret (aend (l := [.osl _ _ _ _ _, .int _ _]) (.tmp (.tmp .nil)) (fun h => by cases h) (.cons (.noN rfl rfl) (.cons (.noN rfl rfl) .nil)) ⟨Wk.v ?_, rfl, rfl⟩)
        | refine apost_ret (aends (l := [.osl _ _ _ _ _, .int _ _]) (.tmp (.tmp .nil)) (fun h => by cases h) (.cons shut (fun h => by cases h) (.cons shut (fun h => by cases h) .nil)) rfl ⟨Wk.v ?_, rfl, rfl⟩)
      have hw : Sp.within im.length 1 4096 = false := by
        simp only [Sp.within, decide_eq_false_iff_not]; by_cases h1 : im.length = 0
        · omega
        · simp [cmpI, h1] at ht36; omega
      rw [show Sp.cut p x st im = ([], 11) by rw [Sp.cut, if_neg hq, if_pos hw]]; show Wk _ (.tup [.sl 10 true 0 _, .int .i64 11]); (repeat' (first | exact Wk.refl | exact Wk.sl0 | apply Wk.tup | apply Wk.agg | apply WkL.cons | exact WkL.nil | refine Wk.sl (fun _ _ => ?_)))
    · (try simp only [cmpI, errD_nil, Bool.not_eq_true', Bool.not_eq_false', decide_eq_true_eq, decide_eq_false_iff_not] at hc6); have ht36 := hc6
      refine awp_skip ?_
      refine awp_seq ?_
      have hw : 1 ≤ im.length ∧ im.length ≤ 4096 := by
        by_cases h1 : im.length = 0
        · simp [h1] at ht36
        · simp [cmpI, h1] at ht36; omega
      have hcut : Sp.cut p x st im = (notesTo p x st im (Sp.total im), 0) := by
        have hw2 : ¬ Sp.within im.length 1 4096 = false := by simp only [Sp.within, decide_eq_false_iff_not]; omega
        rw [Sp.cut, if_neg hq, if_neg hw2]; rfl
      refine awp_region rfl ?_
      refine sP (opp_as (v := .int _ _) rfl rfl) rfl rfl ?_
      refine awp_seq ?_
      refine awp_block ?_
      refine awp_loopK (ι := Nat) (fun i => i ≤ Sp.total im) (fun i => [(10, .int .i64 i), (37, .top), (38, .top), (39, .top), (40, .top), (41, .top), (42, .top), (43, .top)]) (fun i => []) [] (fun i => Sp.total im - i) (0) (Nat.zero_le _) (by
        refine imp_over [] rfl rfl (by kernel_rfl) ?_ ?_
        · refine And.intro wkv ?_
          refine And.intro wkv ?_
          refine And.intro wkv ?_
          refine And.intro wkv ?_
          refine And.intro wkv ?_
          refine And.intro wkv ?_
          refine And.intro wkv ?_
          refine And.intro wkv ?_
          exact True.intro
        · exact True.intro
        ) ?_
      intro i hi1
      refine awp_seq ?_
      refine awp_seq ?_
      refine awp_region rfl ?_
      refine sP (opp_mv (v := .int _ _) rfl rfl) rfl rfl ?_
      first
        | refine sP (opp_arith rfl rfl rfl (.inr <| .inr <| .inl ⟨rfl, w64 (by omega)⟩)) rfl rfl ?_
        | refine sP (opp_arith rfl rfl rfl (.inr <| .inr <| .inl ⟨rfl, rfl⟩)) rfl rfl ?_
      first
        | refine sP (opp_mv (v := .sl _ _ _ _) rfl rfl) rfl rfl ?_
        | refine sP (opp_mv (v := .osl _ _ _ _ _) rfl rfl) rfl rfl ?_
      first
        | refine sP (opp_lenSl rfl rfl un36) rfl rfl ?_
        | refine sP (opp_lenOsl rfl rfl un36) rfl rfl ?_
      refine sP (opp_cmp rfl rfl rfl rfl) rfl rfl ?_
      refine awp_cond _ rfl (fun hc10 => ?_) (fun hc10 => ?_)
      · (try simp only [cmpI, errD_nil, Bool.not_eq_true', Bool.not_eq_false', decide_eq_true_eq, decide_eq_false_iff_not] at hc10); have ht41 := hc10
        refine awp_skip ?_
        refine awp_block ?_
        refine awp_region rfl ?_
        refine sP (opp_mv (v := .int _ _) rfl rfl) rfl rfl ?_
        first
          | refine sP (opp_arith rfl rfl rfl (.inl ⟨rfl, w64 (by omega)⟩)) rfl rfl ?_
          | refine sP (opp_arith rfl rfl rfl (.inl ⟨rfl, rfl⟩)) rfl rfl ?_
        refine sP (opp_as (v := .int _ _) rfl rfl) rfl rfl ?_
        refine Exists.intro (i + 1) (And.intro (And.intro ((by show i + 1 ≤ Sp.total im; omega)) (by omega)) (by
          refine imp_over [] rfl rfl (by kernel_rfl) ?_ ?_
          · refine And.intro wkv ?_
            refine And.intro wkv ?_
            refine And.intro wkv ?_
            refine And.intro wkv ?_
            refine And.intro wkv ?_
            refine And.intro wkv ?_
            refine And.intro wkv ?_
            refine And.intro wkv ?_
            exact True.intro
          · exact True.intro
          ))
      · (try simp only [cmpI, errD_nil, Bool.not_eq_true', Bool.not_eq_false', decide_eq_true_eq, decide_eq_false_iff_not] at hc10); have ht41 := hc10
        refine awp_exit ?_
        refine awp_seq ?_
        have hi0 : i = Sp.total im := by omega
        subst hi0
        refine awp_region rfl ?_
        first
          | refine sP (opp_as (v := .sl _ _ _ _) rfl rfl) rfl rfl ?_
          | refine sP (opp_as (v := .osl _ _ _ _ _) rfl rfl) rfl rfl ?_
        refine awp_seq ?_
        refine awp_seq ?_
        refine awp_region rfl ?_
        refine sP (opp_as (v := .int _ _) rfl rfl) rfl rfl ?_
        refine awp_block ?_
        refine awp_loopK (ι := Nat × Bool) (fun p2 => p2.1 ≤ Sp.total im ∧ (p2.2 = true ↔ p2.1 = 0)) (fun p2 => [(11, cond p2.2 (.sl 1 true 0 (fun _ => .top)) (.osl 1011 10 0 (notesTo p x st im p2.1).length (notesTo p x st im p2.1).length)), (12, .int .i64 p2.1), (44, .top), (45, .top), (46, .top), (47, .top), (48, .top), (49, .top), (50, .top), (51, .top), (52, .top), (53, .top), (54, .top), (55, .top), (56, .top), (57, .top), (58, .top), (59, .top), (60, .top), (61, .top), (62, .top), (63, .top), (64, .top), (65, .top), (66, .top), (67, .top), (68, .top)]) (fun p2 => [(1011, cond p2.2 none (some (.arr 10 (notesTo p x st im p2.1).length (noAt (notesTo p x st im p2.1)))))]) [1011] (fun p2 => Sp.total im - p2.1) ((0, true)) (⟨Nat.zero_le _, by simp⟩) (by
          refine imp_over [] rfl rfl (by kernel_rfl) ?_ ?_
          · refine And.intro wkv ?_
            refine And.intro wkv ?_
            refine And.intro wkv ?_
            refine And.intro wkv ?_
            refine And.intro wkv ?_
            refine And.intro wkv ?_
            refine And.intro wkv ?_
            refine And.intro wkv ?_
            refine And.intro wkv ?_
            refine And.intro wkv ?_
            refine And.intro wkv ?_
            refine And.intro wkv ?_
            refine And.intro wkv ?_
            refine And.intro wkv ?_
            refine And.intro wkv ?_
            refine And.intro wkv ?_
            refine And.intro wkv ?_
            refine And.intro wkv ?_
            refine And.intro wkv ?_
            refine And.intro wkv ?_
            refine And.intro wkv ?_
            refine And.intro wkv ?_
            refine And.intro wkv ?_
            refine And.intro wkv ?_
            refine And.intro wkv ?_
            refine And.intro wkv ?_
            refine And.intro wkv ?_
            exact True.intro
          · exact True.intro
          ) ?_
        intro p2 hi1; obtain ⟨i, e⟩ := p2; rcases e with _ | _
        · dsimp only [cond] at hi1 ⊢; have hdl := notesTo_len p x st im i
          refine awp_seq ?_
          refine awp_seq ?_
          refine awp_region rfl ?_
          refine sP (opp_mv (v := .int _ _) rfl rfl) rfl rfl ?_
          refine sP (opp_mv (v := .int _ _) rfl rfl) rfl rfl ?_
          refine sP (opp_cmp rfl rfl rfl rfl) rfl rfl ?_
          refine awp_cond _ rfl (fun hc15 => ?_) (fun hc15 => ?_)
          · (try simp only [cmpI, errD_nil, Bool.not_eq_true', Bool.not_eq_false', decide_eq_true_eq, decide_eq_false_iff_not] at hc15); have ht46 := hc15
            refine awp_skip ?_
            refine awp_seq ?_
            refine awp_block ?_
            refine awp_draw hmix rfl (by kernel_rfl) ?_
            first
              | refine dP (fun _ => false) (opp_mv (v := .sl _ _ _ _) rfl rfl) rfl rfl ?_
              | refine dP (fun _ => false) (opp_mv (v := .osl _ _ _ _ _) rfl rfl) rfl rfl ?_
            refine dP (fun _ => false) (opp_mv (v := .int _ _) rfl rfl) rfl rfl ?_
            first
              | refine dP (fun n => Nat.beq n 5) (opp_loadP rfl rfl rfl rfl bi rfl ty23) rfl rfl ?_
              | refine dP (fun n => Nat.beq n 5) (opp_loadF rfl rfl ty23) rfl rfl ?_
            refine dP (fun _ => false) (opp_mv (v := .int _ _) rfl rfl) rfl rfl ?_
            refine dP (fun _ => false) (opp_mv (v := .int _ _) rfl rfl) rfl rfl ?_
            refine dP (fun _ => false) (opp_mv (v := .int _ _) rfl rfl) rfl rfl ?_
            first
              | refine dP (fun _ => false) (opp_mv (v := .sl _ _ _ _) rfl rfl) rfl rfl ?_
              | refine dP (fun _ => false) (opp_mv (v := .osl _ _ _ _ _) rfl rfl) rfl rfl ?_
            refine dP (fun _ => false) (opp_mv (v := .int _ _) rfl rfl) rfl rfl ?_
            first
              | refine dP (fun _ => false) (opp_arith rfl rfl rfl (.inr <| .inr <| .inl ⟨rfl, w64 (by omega)⟩)) rfl rfl ?_
              | refine dP (fun _ => false) (opp_arith rfl rfl rfl (.inr <| .inr <| .inl ⟨rfl, rfl⟩)) rfl rfl ?_
            first
              | refine dP (fun _ => false) (opp_mv (v := .sl _ _ _ _) rfl rfl) rfl rfl ?_
              | refine dP (fun _ => false) (opp_mv (v := .osl _ _ _ _ _) rfl rfl) rfl rfl ?_
            first
              | refine dP (fun _ => false) (opp_lenSl rfl rfl un36) rfl rfl ?_
              | refine dP (fun _ => false) (opp_lenOsl rfl rfl un36) rfl rfl ?_
            refine dP (fun _ => false) (opp_mv (v := .int _ _) rfl rfl) rfl rfl ?_
            first
              | refine dP (fun _ => false) (opp_arith rfl rfl rfl (.inr <| .inr <| .inl ⟨rfl, w64 (by omega)⟩)) rfl rfl ?_
              | refine dP (fun _ => false) (opp_arith rfl rfl rfl (.inr <| .inr <| .inl ⟨rfl, rfl⟩)) rfl rfl ?_
            first
              | refine dP (fun _ => false) (opp_arith rfl rfl rfl (.inl ⟨rfl, w64 (by omega)⟩)) rfl rfl ?_
              | refine dP (fun _ => false) (opp_arith rfl rfl rfl (.inl ⟨rfl, rfl⟩)) rfl rfl ?_
            refine dP (fun _ => false) (opp_min rfl rfl rfl) rfl rfl ?_
            refine dP (fun _ => false) (opp_sliceSl rfl rfl rfl rfl el36 (by omega) (by omega) (by omega)) rfl rfl ?_
            refine dP (fun _ => false) (opp_bytesStr rfl rfl (Sp.pieceOf im i) (by rw [Sp.pieceOf_length]; omega) (fun j hj => by rw [Sp.pieceOf_get im i j (by omega), show 128 * i + j = ((i : Int) * 128).toNat + j by omega]; rfl) un36 unu8 un9) rfl rfl ?_
            refine dP (fun _ => false) (opp_build rfl z26 bld26 rfl [.int _ _, .int _ _, .agg _, .int _ _, .int _ _, .int _ _, .int .u32 0, .str _] rfl) rfl rfl ?_
            refine dR (fun _ => false) (opr_buildSlice (n := 67) (g := fun j => if j = 0 then .agg _ else .agg [.int .i64 0, .int .i64 0, .agg [.int .i64 0, .int .i64 0, .int .i64 0], .int .i64 0, .int .i64 0, .int .i64 0, .int .u32 0, .str []]) rfl eb48 z26 (by decide) rfl rfl) rfl rfl rfl ?_
            first
              | refine dR (fun n => Nat.beq n 67 || Nat.beq n 1011) (opr_append (d := 68) rfl rfl rfl (by omega) (.osl0 rfl (by omega)) eb48 z26 (by omega) (by omega)) rfl rfl rfl ?_
              | refine dR (fun n => Nat.beq n 67 || Nat.beq n 1011) (opr_append (d := 68) rfl rfl rfl (by omega) .sl eb48 z26 (by omega) (by omega)) rfl rfl rfl ?_
              | refine dR (fun n => Nat.beq n 67 || Nat.beq n 1011) (opr_append (d := 68) rfl rfl rfl (by omega) (.osl rfl (by omega) (fun _ _ => rfl)) eb48 z26 (by omega) (by omega)) rfl rfl rfl ?_
              | refine dR (fun n => Nat.beq n 67 || Nat.beq n 1011) (opr_appendNil (d := 68) rfl rfl (.osl0 rfl (by omega)) eb48 z26 (by omega) (by omega) (by omega)) rfl rfl rfl ?_
              | refine dR (fun n => Nat.beq n 67 || Nat.beq n 1011) (opr_appendNil (d := 68) rfl rfl .sl eb48 z26 (by omega) (by omega) (by omega)) rfl rfl rfl ?_
              | refine dR (fun n => Nat.beq n 67 || Nat.beq n 1011) (opr_appendNil (d := 68) rfl rfl (.osl rfl (by omega) (fun _ _ => rfl)) eb48 z26 (by omega) (by omega) (by omega)) rfl rfl rfl ?_
            first
              | refine dP (fun _ => false) (opp_as (v := .sl _ _ _ _) rfl rfl) rfl rfl ?_
              | refine dP (fun _ => false) (opp_as (v := .osl _ _ _ _ _) rfl rfl) rfl rfl ?_
            refine And.intro (by kernel_rfl) ?_
            refine awp_region rfl ?_
            refine sP (opp_mv (v := .int _ _) rfl rfl) rfl rfl ?_
            first
              | refine sP (opp_arith rfl rfl rfl (.inl ⟨rfl, w64 (by omega)⟩)) rfl rfl ?_
              | refine sP (opp_arith rfl rfl rfl (.inl ⟨rfl, rfl⟩)) rfl rfl ?_
            refine sP (opp_as (v := .int _ _) rfl rfl) rfl rfl ?_
            refine Exists.intro ((i + 1, false)) (And.intro (And.intro (And.intro (by show i + 1 ≤ Sp.total im; omega) (by simp)) (by omega)) (by
              refine imp_over [(1011, 68)] rfl rfl (by kernel_rfl) ?_ ?_
              · refine And.intro (by exact Or.inr (And.intro rfl (WkV.of (by show AV.osl 68 10 0 _ _ = AV.osl 68 10 0 _ _; rw [notesTo_succ]; simp)))) ?_
                refine And.intro wkv ?_
                refine And.intro wkv ?_
                refine And.intro wkv ?_
                refine And.intro wkv ?_
                refine And.intro wkv ?_
                refine And.intro wkv ?_
                refine And.intro wkv ?_
                refine And.intro wkv ?_
                refine And.intro wkv ?_
                refine And.intro wkv ?_
                refine And.intro wkv ?_
                refine And.intro wkv ?_
                refine And.intro wkv ?_
                refine And.intro wkv ?_
                refine And.intro wkv ?_
                refine And.intro wkv ?_
                refine And.intro wkv ?_
                refine And.intro wkv ?_
                refine And.intro wkv ?_
                refine And.intro wkv ?_
                refine And.intro wkv ?_
                refine And.intro wkv ?_
                refine And.intro wkv ?_
                refine And.intro wkv ?_
                refine And.intro wkv ?_
                refine And.intro wkv ?_
                exact True.intro
              · refine And.intro (And.intro rfl (And.intro rfl (Exists.intro _ (And.intro rfl (by show WkC (AV.arr 10 _ _) (AV.arr 10 _ _); rw [notesTo_succ, List.length_append]; exact WkC.arr (fun j hj => no_append _ (Sp.cutNote p x st im i i (Sp.total im)) j _ rfl _ hj)))))) ?_
                exact True.intro
              ))
          · (try simp only [cmpI, errD_nil, Bool.not_eq_true', Bool.not_eq_false', decide_eq_true_eq, decide_eq_false_iff_not] at hc15); have ht46 := hc15
            refine awp_exit ?_
            refine awp_seq ?_
            refine awp_region rfl ?_
            first
              | refine sP (opp_mv (v := .sl _ _ _ _) rfl rfl) rfl rfl ?_
              | refine sP (opp_mv (v := .osl _ _ _ _ _) rfl rfl) rfl rfl ?_
            first
              | refine sP (opp_as (v := .sl _ _ _ _) rfl rfl) rfl rfl ?_
              | refine sP (opp_as (v := .osl _ _ _ _ _) rfl rfl) rfl rfl ?_
            refine sP (opp_as (v := .int _ _) rfl rfl) rfl rfl ?_
            refine awp_ret ?_
            repeat (first | refine athen_ret ?_ | refine ain_ret ?_)
            first
              | refine apost_ret (aend (l := [.sl _ _ _ _, .int _ _]) (.tmp (.tmp .nil)) (fun h => by cases h) (.cons (.noN rfl rfl) (.cons (.noN rfl rfl) .nil)) ⟨Wk.v ?_, rfl, rfl⟩)
              | refine apost_ret (aends (l := [.sl _ _ _ _, .int _ _]) (.tmp (.tmp .nil)) (fun h => by cases h) (.cons shut (fun h => by cases h) (.cons shut (fun h => by cases h) .nil)) rfl ⟨Wk.v ?_, rfl, rfl⟩)
              | refine apost_ret (aend (l := [.osl _ _ _ _ _, .int _ _]) (.tmp (.tmp .nil)) (fun h => by cases h) (.cons (.noN rfl rfl) (.cons (.noN rfl rfl) .nil)) ⟨Wk.v ?_, rfl, rfl⟩)
              | refine apost_ret (aends (l := [.osl _ _ _ _ _, .int _ _]) (.tmp (.tmp .nil)) (fun h => by cases h) (.cons shut (fun h => by cases h) (.cons shut (fun h => by cases h) .nil)) rfl ⟨Wk.v ?_, rfl, rfl⟩)
            have hi2 : i = Sp.total im := by omega
            subst hi2
            have hne : notesTo p x st im (Sp.total im) ≠ [] := fun h => by have := congrArg List.length h; rw [notesTo_len] at this; simp at this; omega
            rw [hcut]; simp only [decide_eq_false hne]; (repeat' (first | exact Wk.refl | exact Wk.sl0 | apply Wk.tup | apply Wk.agg | apply WkL.cons | exact WkL.nil | refine Wk.sl (fun _ _ => ?_)))
        · dsimp only [cond] at hi1 ⊢; have hdl := notesTo_len p x st im i
          refine awp_seq ?_
          refine awp_seq ?_
          refine awp_region rfl ?_
          refine sP (opp_mv (v := .int _ _) rfl rfl) rfl rfl ?_
          refine sP (opp_mv (v := .int _ _) rfl rfl) rfl rfl ?_
          refine sP (opp_cmp rfl rfl rfl rfl) rfl rfl ?_
          refine awp_cond _ rfl (fun hc20 => ?_) (fun hc20 => ?_)
          · (try simp only [cmpI, errD_nil, Bool.not_eq_true', Bool.not_eq_false', decide_eq_true_eq, decide_eq_false_iff_not] at hc20); have ht46 := hc20
            refine awp_skip ?_
            refine awp_seq ?_
            refine awp_block ?_
            refine awp_draw hmix rfl (by kernel_rfl) ?_
            first
              | refine dP (fun _ => false) (opp_mv (v := .sl _ _ _ _) rfl rfl) rfl rfl ?_
              | refine dP (fun _ => false) (opp_mv (v := .osl _ _ _ _ _) rfl rfl) rfl rfl ?_
            refine dP (fun _ => false) (opp_mv (v := .int _ _) rfl rfl) rfl rfl ?_
            first
              | refine dP (fun n => Nat.beq n 5) (opp_loadP rfl rfl rfl rfl bi rfl ty23) rfl rfl ?_
              | refine dP (fun n => Nat.beq n 5) (opp_loadF rfl rfl ty23) rfl rfl ?_
            refine dP (fun _ => false) (opp_mv (v := .int _ _) rfl rfl) rfl rfl ?_
            refine dP (fun _ => false) (opp_mv (v := .int _ _) rfl rfl) rfl rfl ?_
            refine dP (fun _ => false) (opp_mv (v := .int _ _) rfl rfl) rfl rfl ?_
            first
              | refine dP (fun _ => false) (opp_mv (v := .sl _ _ _ _) rfl rfl) rfl rfl ?_
              | refine dP (fun _ => false) (opp_mv (v := .osl _ _ _ _ _) rfl rfl) rfl rfl ?_
            refine dP (fun _ => false) (opp_mv (v := .int _ _) rfl rfl) rfl rfl ?_
            first
              | refine dP (fun _ => false) (opp_arith rfl rfl rfl (.inr <| .inr <| .inl ⟨rfl, w64 (by omega)⟩)) rfl rfl ?_
              | refine dP (fun _ => false) (opp_arith rfl rfl rfl (.inr <| .inr <| .inl ⟨rfl, rfl⟩)) rfl rfl ?_
            first
              | refine dP (fun _ => false) (opp_mv (v := .sl _ _ _ _) rfl rfl) rfl rfl ?_
              | refine dP (fun _ => false) (opp_mv (v := .osl _ _ _ _ _) rfl rfl) rfl rfl ?_
            first
              | refine dP (fun _ => false) (opp_lenSl rfl rfl un36) rfl rfl ?_
              | refine dP (fun _ => false) (opp_lenOsl rfl rfl un36) rfl rfl ?_
            refine dP (fun _ => false) (opp_mv (v := .int _ _) rfl rfl) rfl rfl ?_
            first
              | refine dP (fun _ => false) (opp_arith rfl rfl rfl (.inr <| .inr <| .inl ⟨rfl, w64 (by omega)⟩)) rfl rfl ?_
              | refine dP (fun _ => false) (opp_arith rfl rfl rfl (.inr <| .inr <| .inl ⟨rfl, rfl⟩)) rfl rfl ?_
            first
              | refine dP (fun _ => false) (opp_arith rfl rfl rfl (.inl ⟨rfl, w64 (by omega)⟩)) rfl rfl ?_
              | refine dP (fun _ => false) (opp_arith rfl rfl rfl (.inl ⟨rfl, rfl⟩)) rfl rfl ?_
            refine dP (fun _ => false) (opp_min rfl rfl rfl) rfl rfl ?_
            refine dP (fun _ => false) (opp_sliceSl rfl rfl rfl rfl el36 (by omega) (by omega) (by omega)) rfl rfl ?_
            refine dP (fun _ => false) (opp_bytesStr rfl rfl (Sp.pieceOf im i) (by rw [Sp.pieceOf_length]; omega) (fun j hj => by rw [Sp.pieceOf_get im i j (by omega), show 128 * i + j = ((i : Int) * 128).toNat + j by omega]; rfl) un36 unu8 un9) rfl rfl ?_
            refine dP (fun _ => false) (opp_build rfl z26 bld26 rfl [.int _ _, .int _ _, .agg _, .int _ _, .int _ _, .int _ _, .int .u32 0, .str _] rfl) rfl rfl ?_
            refine dR (fun _ => false) (opr_buildSlice (n := 67) (g := fun j => if j = 0 then .agg _ else .agg [.int .i64 0, .int .i64 0, .agg [.int .i64 0, .int .i64 0, .int .i64 0], .int .i64 0, .int .i64 0, .int .i64 0, .int .u32 0, .str []]) rfl eb48 z26 (by decide) rfl rfl) rfl rfl rfl ?_
            first
              | refine dR (fun n => Nat.beq n 67 || Nat.beq n 1011) (opr_append (d := 68) rfl rfl rfl (by omega) (.osl0 rfl (by omega)) eb48 z26 (by omega) (by omega)) rfl rfl rfl ?_
              | refine dR (fun n => Nat.beq n 67 || Nat.beq n 1011) (opr_append (d := 68) rfl rfl rfl (by omega) .sl eb48 z26 (by omega) (by omega)) rfl rfl rfl ?_
              | refine dR (fun n => Nat.beq n 67 || Nat.beq n 1011) (opr_append (d := 68) rfl rfl rfl (by omega) (.osl rfl (by omega) (fun _ _ => rfl)) eb48 z26 (by omega) (by omega)) rfl rfl rfl ?_
              | refine dR (fun n => Nat.beq n 67 || Nat.beq n 1011) (opr_appendNil (d := 68) rfl rfl (.osl0 rfl (by omega)) eb48 z26 (by omega) (by omega) (by omega)) rfl rfl rfl ?_
              | refine dR (fun n => Nat.beq n 67 || Nat.beq n 1011) (opr_appendNil (d := 68) rfl rfl .sl eb48 z26 (by omega) (by omega) (by omega)) rfl rfl rfl ?_
              | refine dR (fun n => Nat.beq n 67 || Nat.beq n 1011) (opr_appendNil (d := 68) rfl rfl (.osl rfl (by omega) (fun _ _ => rfl)) eb48 z26 (by omega) (by omega) (by omega)) rfl rfl rfl ?_
            first
              | refine dP (fun _ => false) (opp_as (v := .sl _ _ _ _) rfl rfl) rfl rfl ?_
              | refine dP (fun _ => false) (opp_as (v := .osl _ _ _ _ _) rfl rfl) rfl rfl ?_
            refine And.intro (by kernel_rfl) ?_
            refine awp_region rfl ?_
            refine sP (opp_mv (v := .int _ _) rfl rfl) rfl rfl ?_
            first
              | refine sP (opp_arith rfl rfl rfl (.inl ⟨rfl, w64 (by omega)⟩)) rfl rfl ?_
              | refine sP (opp_arith rfl rfl rfl (.inl ⟨rfl, rfl⟩)) rfl rfl ?_
            refine sP (opp_as (v := .int _ _) rfl rfl) rfl rfl ?_
            have hi0 : i = 0 := hi1.2.1 rfl
            refine Exists.intro ((i + 1, false)) (And.intro (And.intro (And.intro (by show i + 1 ≤ Sp.total im; omega) (by simp)) (by omega)) (by
              refine imp_over [(1011, 68)] rfl rfl (by kernel_rfl) ?_ ?_
              · refine And.intro (by exact Or.inr (And.intro rfl (WkV.of (by show AV.osl 68 10 0 _ _ = AV.osl 68 10 0 _ _; rw [notesTo_succ, hi0]; rfl)))) ?_
                refine And.intro wkv ?_
                refine And.intro wkv ?_
                refine And.intro wkv ?_
                refine And.intro wkv ?_
                refine And.intro wkv ?_
                refine And.intro wkv ?_
                refine And.intro wkv ?_
                refine And.intro wkv ?_
                refine And.intro wkv ?_
                refine And.intro wkv ?_
                refine And.intro wkv ?_
                refine And.intro wkv ?_
                refine And.intro wkv ?_
                refine And.intro wkv ?_
                refine And.intro wkv ?_
                refine And.intro wkv ?_
                refine And.intro wkv ?_
                refine And.intro wkv ?_
                refine And.intro wkv ?_
                refine And.intro wkv ?_
                refine And.intro wkv ?_
                refine And.intro wkv ?_
                refine And.intro wkv ?_
                refine And.intro wkv ?_
                refine And.intro wkv ?_
                refine And.intro wkv ?_
                exact True.intro
              · refine And.intro (And.intro rfl (And.intro rfl (Exists.intro _ (And.intro rfl (by show WkC (AV.arr 10 _ _) (AV.arr 10 _ _); rw [notesTo_succ, hi0]; exact WkC.arr (fun j hj => by have h0 : j = 0 := (by simpa using hj); subst h0; rfl)))))) ?_
                exact True.intro
              ))
          · (try simp only [cmpI, errD_nil, Bool.not_eq_true', Bool.not_eq_false', decide_eq_true_eq, decide_eq_false_iff_not] at hc20); have ht46 := hc20
            refine awp_exit ?_
            refine awp_seq ?_
            refine awp_region rfl ?_
            first
              | refine sP (opp_mv (v := .sl _ _ _ _) rfl rfl) rfl rfl ?_
              | refine sP (opp_mv (v := .osl _ _ _ _ _) rfl rfl) rfl rfl ?_
            first
              | refine sP (opp_as (v := .sl _ _ _ _) rfl rfl) rfl rfl ?_
              | refine sP (opp_as (v := .osl _ _ _ _ _) rfl rfl) rfl rfl ?_
            refine sP (opp_as (v := .int _ _) rfl rfl) rfl rfl ?_
            refine awp_ret ?_
            repeat (first | refine athen_ret ?_ | refine ain_ret ?_)
            first
              | refine apost_ret (aend (l := [.sl _ _ _ _, .int _ _]) (.tmp (.tmp .nil)) (fun h => by cases h) (.cons (.noN rfl rfl) (.cons (.noN rfl rfl) .nil)) ⟨Wk.v ?_, rfl, rfl⟩)
              | refine apost_ret (aends (l := [.sl _ _ _ _, .int _ _]) (.tmp (.tmp .nil)) (fun h => by cases h) (.cons shut (fun h => by cases h) (.cons shut (fun h => by cases h) .nil)) rfl ⟨Wk.v ?_, rfl, rfl⟩)
              | refine apost_ret (aend (l := [.osl _ _ _ _ _, .int _ _]) (.tmp (.tmp .nil)) (fun h => by cases h) (.cons (.noN rfl rfl) (.cons (.noN rfl rfl) .nil)) ⟨Wk.v ?_, rfl, rfl⟩)
              | refine apost_ret (aends (l := [.osl _ _ _ _ _, .int _ _]) (.tmp (.tmp .nil)) (fun h => by cases h) (.cons shut (fun h => by cases h) (.cons shut (fun h => by cases h) .nil)) rfl ⟨Wk.v ?_, rfl, rfl⟩)
            exfalso; have := hi1.2.1 rfl; omega
end
end Go.Proofs.YtgaihhimkodmmaaDoor

