/- Layer 22: boundaries, acknowledgements (walks over this dump). -/
import Derived.Test.YtgaihhimkodmmaaDoorKEx
import Derived.Test.YtgaihhimkodmmaaDoorS5
namespace Go.Proofs.YtgaihhimkodmmaaDoor
attribute [local irreducible] Tryd.prog
open Go.Fy
set_option linter.unusedSimpArgs false
section
variable {ea : Nat → Addr} {cds : List Nat} {gl : Nat → Option AV}
theorem c25 (f : Int) : APure (V ea cds gl) 25 [.int .i64 f] false (.int .i64 (Sp.times f)) := by
  refine acalls_of_body (N := 8) Tryd.func25 rfl rfl (Nat.le_of_ble_eq_true rfl) fun C hV hN hM hO => ?_
  obtain ⟨_, _, w0, G0, σ0, _, own0⟩ := C; dsimp only at hV hN hM hO; subst hV; subst hN; subst hM
  refine awp_seq ?_
  refine awp_region rfl ?_
  refine sP (opp_as (v := .int _ _) rfl rfl) rfl rfl ?_
  refine awp_seq ?_
  refine awp_seq ?_
  refine awp_region rfl ?_
  refine sP (opp_mv (v := .int _ _) rfl rfl) rfl rfl ?_
  refine awp_block ?_
  refine awp_seq ?_
  refine awp_region rfl ?_
  refine sP (opp_cmp rfl rfl rfl rfl) rfl rfl ?_
  refine sP (opp_as (v := .bool _) rfl rfl) rfl rfl ?_
  refine awp_cond _ rfl (fun hc4 => ?_) (fun hc4 => ?_)
  · try simp only [cmpI, errD_nil, Bool.not_eq_true', Bool.not_eq_false', decide_eq_true_eq, decide_eq_false_iff_not] at hc4; have ht4 := hc4
    refine awp_seq ?_
    refine awp_region rfl ?_
    refine sP (opp_as (v := .int _ _) rfl rfl) rfl rfl ?_
    refine awp_ret ?_
    repeat (first | refine athen_ret ?_ | refine ain_ret ?_)
    first
      | refine apost_ret (aend1 (r0 := .int _ _) (.tmp .nil) (.noN rfl rfl) ⟨Wk.v ?_, rfl, rfl⟩)
      | refine apost_ret (aend1s (r0 := .int _ _) (.tmp .nil) shut rfl ⟨Wk.v ?_, rfl, rfl⟩)
    exact .of (by simp_all [Sp.times])
  · try simp only [cmpI, errD_nil, Bool.not_eq_true', Bool.not_eq_false', decide_eq_true_eq, decide_eq_false_iff_not] at hc4; have ht4 := hc4
    refine awp_seq ?_
    refine awp_region rfl ?_
    refine sP (opp_cmp rfl rfl rfl rfl) rfl rfl ?_
    refine sP (opp_as (v := .bool _) rfl rfl) rfl rfl ?_
    refine awp_cond _ rfl (fun hc7 => ?_) (fun hc7 => ?_)
    · try simp only [cmpI, errD_nil, Bool.not_eq_true', Bool.not_eq_false', decide_eq_true_eq, decide_eq_false_iff_not] at hc7; have ht6 := hc7
      refine awp_seq ?_
      refine awp_region rfl ?_
      refine sP (opp_as (v := .int _ _) rfl rfl) rfl rfl ?_
      refine awp_ret ?_
      repeat (first | refine athen_ret ?_ | refine ain_ret ?_)
      first
        | refine apost_ret (aend1 (r0 := .int _ _) (.tmp .nil) (.noN rfl rfl) ⟨Wk.v ?_, rfl, rfl⟩)
        | refine apost_ret (aend1s (r0 := .int _ _) (.tmp .nil) shut rfl ⟨Wk.v ?_, rfl, rfl⟩)
      exact .of (by simp_all [Sp.times])
    · try simp only [cmpI, errD_nil, Bool.not_eq_true', Bool.not_eq_false', decide_eq_true_eq, decide_eq_false_iff_not] at hc7; have ht6 := hc7
      refine awp_skip ?_
      refine awp_seq ?_
      refine awp_region rfl ?_
      refine sP (opp_as (v := .int _ _) rfl rfl) rfl rfl ?_
      refine awp_ret ?_
      repeat (first | refine athen_ret ?_ | refine ain_ret ?_)
      first
        | refine apost_ret (aend1 (r0 := .int _ _) (.tmp .nil) (.noN rfl rfl) ⟨Wk.v ?_, rfl, rfl⟩)
        | refine apost_ret (aend1s (r0 := .int _ _) (.tmp .nil) shut rfl ⟨Wk.v ?_, rfl, rfl⟩)
      exact .of (by simp_all [Sp.times])
theorem c26 (b : Bool) (n : Nat) (f : Nat → Int) (i : Nat) (h0 : n ≤ 4611686018427387904) (h1 : i ≤ 4611686018427387904) : APure (V ea cds gl) 26 [.sl 1 b n (fun j => .int .i64 (f j)), .int .i64 i] false (.int .i64 (Sp.fate n f i)) := by
  refine acalls_of_body (N := 15) Tryd.func26 rfl rfl (Nat.le_of_ble_eq_true rfl) fun C hV hN hM hO => ?_
  obtain ⟨_, _, w0, G0, σ0, _, own0⟩ := C; dsimp only at hV hN hM hO; subst hV; subst hN; subst hM
  refine awp_seq ?_
  refine awp_region rfl ?_
  refine sP (opp_as (v := .int _ _) rfl rfl) rfl rfl ?_
  refine awp_seq ?_
  refine awp_seq ?_
  refine awp_region rfl ?_
  first
    | refine sP (opp_mv (v := .sl _ _ _ _) rfl rfl) rfl rfl ?_
    | refine sP (opp_mv (v := .osl _ _ _ _ _) rfl rfl) rfl rfl ?_
  first
    | refine sP (opp_lenSl rfl rfl un42) rfl rfl ?_
    | refine sP (opp_lenOsl rfl rfl un42) rfl rfl ?_
  refine sP (opp_cmp rfl rfl rfl rfl) rfl rfl ?_
  refine awp_cond _ rfl (fun hc3 => ?_) (fun hc3 => ?_)
  · try simp only [cmpI, errD_nil, Bool.not_eq_true', Bool.not_eq_false', decide_eq_true_eq, decide_eq_false_iff_not] at hc3; have ht7 := hc3
    refine awp_seq ?_
    refine awp_region rfl ?_
    refine sP (opp_as (v := .int _ _) rfl rfl) rfl rfl ?_
    refine awp_ret ?_
    repeat (first | refine athen_ret ?_ | refine ain_ret ?_)
    first
      | refine apost_ret (aend1 (r0 := .int _ _) (.tmp .nil) (.noN rfl rfl) ⟨Wk.v ?_, rfl, rfl⟩)
      | refine apost_ret (aend1s (r0 := .int _ _) (.tmp .nil) shut rfl ⟨Wk.v ?_, rfl, rfl⟩)
    exact .of (by simp_all [Sp.fate])
  · try simp only [cmpI, errD_nil, Bool.not_eq_true', Bool.not_eq_false', decide_eq_true_eq, decide_eq_false_iff_not] at hc3; have ht7 := hc3
    refine awp_skip ?_
    refine awp_seq ?_
    have hm : i % n < n := Nat.mod_lt _ (by omega)
    have hm2 : Int.tmod (i : Int) (n : Int) = ((i % n : Nat) : Int) := by rw [Int.tmod_eq_emod_of_nonneg (by omega)]; rfl
    have hm3 : IntKind.i64.wrap (Int.tmod (i : Int) (n : Int)) = ((i % n : Nat) : Int) := by rw [hm2]; exact w64 ⟨by omega, by omega⟩
    refine awp_region rfl ?_
    first
      | refine sP (opp_mv (v := .sl _ _ _ _) rfl rfl) rfl rfl ?_
      | refine sP (opp_mv (v := .osl _ _ _ _ _) rfl rfl) rfl rfl ?_
    refine sP (opp_mv (v := .int _ _) rfl rfl) rfl rfl ?_
    first
      | refine sP (opp_mv (v := .sl _ _ _ _) rfl rfl) rfl rfl ?_
      | refine sP (opp_mv (v := .osl _ _ _ _ _) rfl rfl) rfl rfl ?_
    first
      | refine sP (opp_lenSl rfl rfl un42) rfl rfl ?_
      | refine sP (opp_lenOsl rfl rfl un42) rfl rfl ?_
    refine sP (opp_arith rfl rfl rfl (.inr <| .inr <| .inr <| .inr <| .inl ⟨rfl, by omega, rfl⟩)) rfl rfl ?_
    first
      | refine sP (opp_indexSl rfl rfl rfl el42 (by omega) (by omega)) rfl rfl ?_
      | refine sP (opp_indexOsl0 rfl rfl rfl el42 (by omega) (by omega)) rfl rfl ?_
      | refine sP (opp_indexOsl rfl rfl rfl el42 (by omega) (by omega)) rfl rfl ?_
    first
      | refine sP (opp_loadP rfl rfl rfl rfl bi rfl ty3) rfl rfl ?_
      | refine sP (opp_loadF rfl rfl ty3) rfl rfl ?_
    refine sP (opp_as (v := .int _ _) rfl rfl) rfl rfl ?_
    refine awp_ret ?_
    repeat (first | refine athen_ret ?_ | refine ain_ret ?_)
    first
      | refine apost_ret (aend1 (r0 := .int _ _) (.tmp .nil) (.noN rfl rfl) ⟨Wk.v ?_, rfl, rfl⟩)
      | refine apost_ret (aend1s (r0 := .int _ _) (.tmp .nil) shut rfl ⟨Wk.v ?_, rfl, rfl⟩)
    have hn : ¬ n = 0 := by omega
    exact .of (by rw [hm2, Int.toNat_natCast, Sp.fate, if_neg hn])
theorem co79 (s : Send) (h1 : s.acked.length ≤ 1099511627776) : AOwn (V ea cds gl) 79 [sendAV false s] false (.agg [.int .i64 s.part, xidAV s.xid, .int .i64 s.stage, .str s.image, .osl 5 1 0 s.acked.length s.acked.length, .int .i64 s.rounds]) [(5, some (.arr 1 s.acked.length (blAt s.acked)))] := by
  refine aown_of_body (N := 8) Tryd.func79 rfl rfl (Nat.le_of_ble_eq_true rfl) fun C hV hN hM hO => ?_
  obtain ⟨_, _, w0, G0, σ0, _, own0⟩ := C; dsimp only at hV hN hM hO; subst hV; subst hN; subst hM
  refine awp_seq ?_
  refine awp_region rfl ?_
  refine sR (opr_box (y := .agg _) (n := 1) rfl rfl rfl) rfl rfl rfl ?_
  refine sR (opr_alloc (n := 2) rfl z45) rfl rfl rfl ?_
  refine awp_seq ?_
  refine awp_region rfl ?_
  first
    | refine sP (opp_fieldP rfl rfl fld45_4 rfl) rfl rfl ?_
    | refine sP (opp_fieldF rfl rfl rfl fld45_4 rfl rfl) rfl rfl ?_
  first
    | refine sP (opp_loadP rfl rfl rfl rfl bi rfl ty43) rfl rfl ?_
    | refine sP (opp_loadF rfl rfl ty43) rfl rfl ?_
  first
      | refine sR (opr_callO (rl := [(7, 5)]) (r1 := .osl _ _ _ _ _) (H1 := [(5, some (.arr _ _ _))]) (n1 := [5]) rfl rfl ent119 rfl (co119 s.acked.length (blAt s.acked) (by omega)) (AViews.refl _ rfl) rfl rfl rfl rfl) rfl rfl rfl ?_
      | refine sR (opr_callO (rl := [(7, 5)]) (r1 := .sl _ _ _ _) (H1 := [(5, some (.arr _ _ _))]) (n1 := [5]) rfl rfl ent119 rfl (co119 s.acked.length (blAt s.acked) (by omega)) (AViews.refl _ rfl) rfl rfl rfl rfl) rfl rfl rfl ?_
  first
    | refine sP (opp_fieldP rfl rfl fld45_4 rfl) rfl rfl ?_
    | refine sP (opp_fieldF rfl rfl rfl fld45_4 rfl rfl) rfl rfl ?_
  first
    | refine sR0 (opr_store (v := .sl _ _ _ _) (trn := (.agg [_, _, _, _, .sl _ _ _ _, _])) rfl rfl rfl rfl bi rfl rfl rfl rfl fr2 ty43 (fun _ _ h => h)) rfl rfl rfl ?_
    | refine sR0 (opr_store (v := .osl _ _ _ _ _) (trn := (.agg [_, _, _, _, .osl _ _ _ _ _, _])) rfl rfl rfl rfl bi rfl rfl rfl rfl fr2 ty43 (fun _ _ h => h)) rfl rfl rfl ?_
  refine awp_seq ?_
  refine awp_region rfl ?_
  first
    | refine sP (opp_loadP rfl rfl rfl rfl bi rfl ty45) rfl rfl ?_
    | refine sP (opp_loadF rfl rfl ty45) rfl rfl ?_
  refine sR0 (opr_store (v := .agg _) (trn := (.agg _)) rfl rfl rfl rfl bi rfl rfl rfl rfl fr2 ty45 (fun _ _ h => h)) rfl rfl rfl ?_
  refine awp_ret ?_
  repeat (first | refine athen_ret ?_ | refine ain_ret ?_)
  refine opost_ret (oend1 (r0 := .agg _) (.cell rfl rfl rfl (by exact True.intro) rfl ty45 .nil) shut rfl ?_ (And.intro (Exists.intro _ (Exists.intro _ (And.intro rfl (And.intro shut (And.intro (fun h => by cases h) (And.intro ?_ rfl)))))) True.intro))
  · exact .refl
  · exact .refl
theorem c28 (b : Bool) (s : Send) (hG2 : gl 2 = some (.err (.code 12))) (hG6 : gl 6 = some (.err (.code 11))) (hG3 : gl 3 = some (.err (.code 9))) :
    APure (V ea cds gl) 28 [sendAV b s] false (.tup [.bool (Sp.arrived s).1, .err (errD (Sp.arrived s).2)]) := by
  refine acalls_of_body (N := 12) Tryd.func28 rfl rfl (Nat.le_of_ble_eq_true rfl) fun C hV hN hM hO => ?_
  obtain ⟨_, _, w0, G0, σ0, _, own0⟩ := C; dsimp only at hV hN hM hO; subst hV; subst hN; subst hM
  refine awp_seq ?_
  refine awp_region rfl ?_
  refine sR (opr_box (y := .agg _) (n := 1) rfl rfl rfl) rfl rfl rfl ?_
  refine sP (opp_as (v := .bool _) rfl rfl) rfl rfl ?_
  refine sP (opp_as (v := .err _) rfl rfl) rfl rfl ?_
  refine awp_seq ?_
  refine awp_seq ?_
  refine awp_region rfl ?_
  first
    | refine sP (opp_loadP rfl rfl rfl rfl bi rfl ty45) rfl rfl ?_
    | refine sP (opp_loadF rfl rfl ty45) rfl rfl ?_
  refine sR (opr_call rfl rfl ent55 rfl (c55 b s hG2 hG6) (AViews.refl _ rfl)) rfl rfl rfl ?_ -- d=5 t=4
  refine sP (opp_not rfl rfl) rfl rfl ?_
  refine awp_cond _ rfl (fun hc3 => ?_) (fun hc3 => ?_)
  · try simp only [cmpI, errD_nil, Bool.not_eq_true', Bool.not_eq_false', decide_eq_true_eq, decide_eq_false_iff_not] at hc3; have ht6 := hc3
    refine awp_seq ?_
    refine awp_draw hmix rfl (by kernel_rfl) ?_
    refine dP (fun _ => false) (opp_loadF rfl (ev_glob hG3) ty29) rfl rfl ?_
    refine dP (fun _ => false) (opp_as (v := .bool _) rfl rfl) rfl rfl ?_
    refine dP (fun _ => false) (opp_as (v := .err _) rfl rfl) rfl rfl ?_
    refine And.intro (by kernel_rfl) ?_
    refine awp_ret ?_
    repeat (first | refine athen_ret ?_ | refine ain_ret ?_)
    first
      | refine apost_ret (aend (l := [.bool _, .err _]) (.tmp (.tmp .nil)) (fun h => by cases h) (.cons (.noN rfl rfl) (.cons (.noN rfl rfl) .nil)) ⟨Wk.v ?_, rfl, rfl⟩)
      | refine apost_ret (aends (l := [.bool _, .err _]) (.tmp (.tmp .nil)) (fun h => by cases h) (.cons shut (fun h => by cases h) (.cons shut (fun h => by cases h) .nil)) rfl ⟨Wk.v ?_, rfl, rfl⟩)
    rw [show Sp.arrived s = (false, 9) by simp [Sp.arrived, hc3]]; exact .refl
  · try simp only [cmpI, errD_nil, Bool.not_eq_true', Bool.not_eq_false', decide_eq_true_eq, decide_eq_false_iff_not] at hc3; have ht6 := hc3
    refine awp_skip ?_
    refine awp_seq ?_
    have hgs : Sp.goodSend s = true := by simpa using hc3
    have hgl := Sp.goodSend_len hgs
    refine awp_region rfl ?_
    first
      | refine sP (opp_fieldP rfl rfl fld45_4 rfl) rfl rfl ?_
      | refine sP (opp_fieldF rfl rfl rfl fld45_4 rfl rfl) rfl rfl ?_
    first
      | refine sP (opp_loadP rfl rfl rfl rfl bi rfl ty43) rfl rfl ?_
      | refine sP (opp_loadF rfl rfl ty43) rfl rfl ?_
    refine sR (opr_call rfl rfl ent80 rfl (c80 b s.acked.length (fun j => s.acked.getD j false) false (by omega)) (AViews.refl _ rfl)) rfl rfl rfl ?_ -- d=10 t=4
    refine sP (opp_not rfl rfl) rfl rfl ?_
    refine sP (opp_as (v := .bool _) rfl rfl) rfl rfl ?_
    refine sP (opp_as (v := .err _) rfl rfl) rfl rfl ?_
    refine awp_ret ?_
    repeat (first | refine athen_ret ?_ | refine ain_ret ?_)
    first
      | refine apost_ret (aend (l := [.bool _, .err _]) (.tmp (.tmp .nil)) (fun h => by cases h) (.cons (.noN rfl rfl) (.cons (.noN rfl rfl) .nil)) ⟨Wk.v ?_, rfl, rfl⟩)
      | refine apost_ret (aends (l := [.bool _, .err _]) (.tmp (.tmp .nil)) (fun h => by cases h) (.cons shut (fun h => by cases h) (.cons shut (fun h => by cases h) .nil)) rfl ⟨Wk.v ?_, rfl, rfl⟩)
    rw [show Sp.arrived s = (s.acked.all id, 0) by simp [Sp.arrived, hgs]]; rw [← Sp.none_false]; exact .refl
theorem c24 (b : Bool) (s : Send) (t : Int) (h0 : b = true → s.acked.length = 0) (ht : t ≤ 9223372036854775807) (hG2 : gl 2 = some (.err (.code 12))) (hG6 : gl 6 = some (.err (.code 11))) (hG3 : gl 3 = some (.err (.code 9))) :
    APure (V ea cds gl) 24 [sendAV b s, .int .i64 t] false (.tup [sendAV (decide ((Sp.round s t).2.2.2 ≠ 0)) (Sp.round s t).1, .sl 10 (decide ((Sp.round s t).2.1 = [])) (Sp.round s t).2.1.length (noAt (Sp.round s t).2.1), .bool (Sp.round s t).2.2.1, .err (errD (Sp.round s t).2.2.2)]) := by
  refine acalls_of_body (N := 33) Tryd.func24 rfl rfl (Nat.le_of_ble_eq_true rfl) fun C hV hN hM hO => ?_
  obtain ⟨_, _, w0, G0, σ0, _, own0⟩ := C; dsimp only at hV hN hM hO; subst hV; subst hN; subst hM
  refine awp_seq ?_
  refine awp_region rfl ?_
  refine sR (opr_box (y := .agg _) (n := 2) rfl rfl rfl) rfl rfl rfl ?_
  refine sR (opr_alloc (n := 4) rfl z45) rfl rfl rfl ?_
  first
    | refine sP (opp_as (v := .sl _ _ _ _) rfl rfl) rfl rfl ?_
    | refine sP (opp_as (v := .osl _ _ _ _ _) rfl rfl) rfl rfl ?_
  refine sP (opp_as (v := .bool _) rfl rfl) rfl rfl ?_
  refine sP (opp_as (v := .err _) rfl rfl) rfl rfl ?_
  refine awp_seq ?_
  refine awp_region rfl ?_
  first
    | refine sP (opp_loadP rfl rfl rfl rfl bi rfl ty45) rfl rfl ?_
    | refine sP (opp_loadF rfl rfl ty45) rfl rfl ?_
  refine sR (opr_call rfl rfl ent21 rfl (c21 b s hG2 hG6 hG3) (AViews.refl _ rfl)) rfl rfl rfl ?_ -- d=13 t=49
  refine sP (opp_mv (v := .tup _) rfl rfl) rfl rfl ?_
  refine sP (opp_extract rfl rfl rfl) rfl rfl ?_
  refine sP (opp_extract rfl rfl rfl) rfl rfl ?_
  first
    | refine sP (opp_as (v := .sl _ _ _ _) rfl rfl) rfl rfl ?_
    | refine sP (opp_as (v := .osl _ _ _ _ _) rfl rfl) rfl rfl ?_
  refine sP (opp_as (v := .err _) rfl rfl) rfl rfl ?_
  refine awp_seq ?_
  refine awp_seq ?_
  refine awp_region rfl ?_
  refine sP (opp_mv (v := .err _) rfl rfl) rfl rfl ?_
  refine sP (opp_errNil rfl rfl rfl un29 (.inr ⟨rfl, rfl⟩)) rfl rfl ?_
  refine awp_cond _ rfl (fun hc4 => ?_) (fun hc4 => ?_)
  · try simp only [cmpI, errD_nil, Bool.not_eq_true', Bool.not_eq_false', decide_eq_true_eq, decide_eq_false_iff_not] at hc4; have ht17 := hc4
    refine awp_seq ?_
    refine awp_region rfl ?_
    refine sP (opp_build rfl z45 bld45 rfl [.int .i64 0, .agg [.int .i64 0, .int .i64 0, .int .i64 0], .int .i64 0, .str [], .sl 1 true 0 (fun _ => .top), .int .i64 0] rfl) rfl rfl ?_
    refine sP (opp_mv (v := .err _) rfl rfl) rfl rfl ?_
    refine sR0 (opr_store (v := .agg _) (trn := (.agg _)) rfl rfl rfl rfl bi rfl rfl rfl rfl fr2 ty45 (fun _ _ h => h)) rfl rfl rfl ?_
    first
      | refine sP (opp_as (v := .sl _ _ _ _) rfl rfl) rfl rfl ?_
      | refine sP (opp_as (v := .osl _ _ _ _ _) rfl rfl) rfl rfl ?_
    refine sP (opp_as (v := .bool _) rfl rfl) rfl rfl ?_
    refine sP (opp_as (v := .err _) rfl rfl) rfl rfl ?_
    refine awp_ret ?_
    repeat (first | refine athen_ret ?_ | refine ain_ret ?_)
    first
      | refine apost_ret (aend (l := [.agg _, .sl _ _ _ _, .bool _, .err _]) (.cell rfl rfl rfl (by exact True.intro) rfl ty45 (.tmp (.tmp (.tmp .nil)))) (fun h => by cases h) (.cons (.noN rfl rfl) (.cons (.noN rfl rfl) (.cons (.noN rfl rfl) (.cons (.noN rfl rfl) .nil)))) ⟨Wk.v ?_, rfl, rfl⟩)
      | refine apost_ret (aends (l := [.agg _, .sl _ _ _ _, .bool _, .err _]) (.cell rfl rfl rfl (by exact True.intro) rfl ty45 (.tmp (.tmp (.tmp .nil)))) (fun h => by cases h) (.cons shut (fun h => by cases h) (.cons shut (fun h => by cases h) (.cons shut (fun h => by cases h) (.cons shut (fun h => by cases h) .nil)))) rfl ⟨Wk.v ?_, rfl, rfl⟩)
      | refine apost_ret (aend (l := [.agg _, .osl _ _ _ _ _, .bool _, .err _]) (.cell rfl rfl rfl (by exact True.intro) rfl ty45 (.tmp (.tmp (.tmp .nil)))) (fun h => by cases h) (.cons (.noN rfl rfl) (.cons (.noN rfl rfl) (.cons (.noN rfl rfl) (.cons (.noN rfl rfl) .nil)))) ⟨Wk.v ?_, rfl, rfl⟩)
      | refine apost_ret (aends (l := [.agg _, .osl _ _ _ _ _, .bool _, .err _]) (.cell rfl rfl rfl (by exact True.intro) rfl ty45 (.tmp (.tmp (.tmp .nil)))) (fun h => by cases h) (.cons shut (fun h => by cases h) (.cons shut (fun h => by cases h) (.cons shut (fun h => by cases h) (.cons shut (fun h => by cases h) .nil)))) rfl ⟨Wk.v ?_, rfl, rfl⟩)
    have hd : ¬ (Sp.due s).2 = 0 := by simpa [errD_nil] using hc4
    rw [show Sp.round s t = (Sp.zeroSend, [], false, (Sp.due s).2) from if_pos hd]; simp only [hd, ne_eq, not_false_eq_true, decide_true, sendAV, Sp.zeroSend, xidAV, List.length_nil]; (repeat' (first | exact Wk.refl | exact Wk.sl0 | apply Wk.tup | apply Wk.agg | apply WkL.cons | exact WkL.nil | refine Wk.sl (fun _ _ => ?_)))
  · try simp only [cmpI, errD_nil, Bool.not_eq_true', Bool.not_eq_false', decide_eq_true_eq, decide_eq_false_iff_not] at hc4; have ht17 := hc4
    refine awp_skip ?_
    refine awp_seq ?_
    have hgs : Sp.goodSend s = true := (Sp.due_good s).1.1 (by simpa [errD_nil] using hc4)
    have hgl := Sp.goodSend_len hgs
    have hb0 : b = false := by cases b with
      | false => rfl
      | true => have := h0 rfl; omega
    subst hb0
    refine awp_region rfl ?_
    first
      | refine sP (opp_loadP rfl rfl rfl rfl bi rfl ty45) rfl rfl ?_
      | refine sP (opp_loadF rfl rfl ty45) rfl rfl ?_
    refine sR (opr_callO (rl := [(5, 21)]) (r1 := .agg _) (H1 := [(21, some (.arr _ _ _))]) (n1 := [21]) rfl rfl ent79 rfl (co79 s (by omega)) (AViews.refl _ rfl) rfl rfl rfl rfl) rfl rfl rfl ?_
    refine sR (opr_alloc (n := 10) rfl z45) rfl rfl rfl ?_
    refine sR0 (opr_store (v := .agg _) (trn := (.agg _)) rfl rfl rfl rfl bi rfl rfl rfl rfl fr2 ty45 (fun _ _ h => h)) rfl rfl rfl ?_
    refine awp_seq ?_
    refine awp_seq ?_
    refine awp_region rfl ?_
    first
      | refine sP (opp_fieldP rfl rfl fld45_5 rfl) rfl rfl ?_
      | refine sP (opp_fieldF rfl rfl rfl fld45_5 rfl rfl) rfl rfl ?_
    first
      | refine sP (opp_loadP rfl rfl rfl rfl bi rfl ty3) rfl rfl ?_
      | refine sP (opp_loadF rfl rfl ty3) rfl rfl ?_
    refine sP (opp_mv (v := .int _ _) rfl rfl) rfl rfl ?_
    refine sP (opp_cmp rfl rfl rfl rfl) rfl rfl ?_
    refine awp_cond _ rfl (fun hc8 => ?_) (fun hc8 => ?_)
    · try simp only [cmpI, errD_nil, Bool.not_eq_true', Bool.not_eq_false', decide_eq_true_eq, decide_eq_false_iff_not] at hc8; have ht25 := hc8
      refine awp_seq ?_
      refine awp_region rfl ?_
      first
        | refine sP (opp_loadP rfl rfl rfl rfl bi rfl ty45) rfl rfl ?_
        | refine sP (opp_loadF rfl rfl ty45) rfl rfl ?_
      refine sR0 (opr_store (v := .agg _) (trn := (.agg _)) rfl rfl rfl rfl bi rfl rfl rfl rfl fr2 ty45 (fun _ _ h => h)) rfl rfl rfl ?_
      first
        | refine sP (opp_as (v := .sl _ _ _ _) rfl rfl) rfl rfl ?_
        | refine sP (opp_as (v := .osl _ _ _ _ _) rfl rfl) rfl rfl ?_
      refine sP (opp_as (v := .bool _) rfl rfl) rfl rfl ?_
      refine sP (opp_as (v := .err _) rfl rfl) rfl rfl ?_
      refine awp_ret ?_
      repeat (first | refine athen_ret ?_ | refine ain_ret ?_)
      first
        | refine apost_ret (aend (l := [.agg _, .sl _ _ _ _, .bool _, .err _]) (.cell rfl rfl rfl (by exact True.intro) rfl ty45 (.tmp (.tmp (.tmp .nil)))) (fun h => by cases h) (.cons (.noN rfl rfl) (.cons (.noN rfl rfl) (.cons (.noN rfl rfl) (.cons (.noN rfl rfl) .nil)))) ⟨Wk.v ?_, rfl, rfl⟩)
        | refine apost_ret (aends (l := [.agg _, .sl _ _ _ _, .bool _, .err _]) (.cell rfl rfl rfl (by exact True.intro) rfl ty45 (.tmp (.tmp (.tmp .nil)))) (fun h => by cases h) (.cons shut (fun h => by cases h) (.cons shut (fun h => by cases h) (.cons shut (fun h => by cases h) (.cons shut (fun h => by cases h) .nil)))) rfl ⟨Wk.v ?_, rfl, rfl⟩)
        | refine apost_ret (aend (l := [.agg _, .osl _ _ _ _ _, .bool _, .err _]) (.cell rfl rfl rfl (by exact True.intro) rfl ty45 (.tmp (.tmp (.tmp .nil)))) (fun h => by cases h) (.cons (.noN rfl rfl) (.cons (.noN rfl rfl) (.cons (.noN rfl rfl) (.cons (.noN rfl rfl) .nil)))) ⟨Wk.v ?_, rfl, rfl⟩)
        | refine apost_ret (aends (l := [.agg _, .osl _ _ _ _ _, .bool _, .err _]) (.cell rfl rfl rfl (by exact True.intro) rfl ty45 (.tmp (.tmp (.tmp .nil)))) (fun h => by cases h) (.cons shut (fun h => by cases h) (.cons shut (fun h => by cases h) (.cons shut (fun h => by cases h) (.cons shut (fun h => by cases h) .nil)))) rfl ⟨Wk.v ?_, rfl, rfl⟩)
      have hd : (Sp.due s).2 = 0 := by simpa [errD_nil] using hc4
      rw [show Sp.round s t = (s, [], false, 0) by rw [Sp.round, if_neg (by simp [hd]), if_pos (by omega)]]
      simp only [ne_eq, not_true_eq_false, decide_false, sendAV, xidAV, List.length_nil, errD, if_true]; (repeat' (first | exact Wk.refl | exact Wk.sl0 | apply Wk.tup | apply Wk.agg | apply WkL.cons | exact WkL.nil | refine Wk.sl (fun _ _ => ?_)))
    · try simp only [cmpI, errD_nil, Bool.not_eq_true', Bool.not_eq_false', decide_eq_true_eq, decide_eq_false_iff_not] at hc8; have ht25 := hc8
      refine awp_skip ?_
      refine awp_seq ?_
      refine awp_region rfl ?_
      first
        | refine sP (opp_fieldP rfl rfl fld45_5 rfl) rfl rfl ?_
        | refine sP (opp_fieldF rfl rfl rfl fld45_5 rfl rfl) rfl rfl ?_
      first
        | refine sP (opp_loadP rfl rfl rfl rfl bi rfl ty3) rfl rfl ?_
        | refine sP (opp_loadF rfl rfl ty3) rfl rfl ?_
      first
        | refine sP (opp_arith rfl rfl rfl (.inl ⟨rfl, w64 (by omega)⟩)) rfl rfl ?_
        | refine sP (opp_arith rfl rfl rfl (.inl ⟨rfl, rfl⟩)) rfl rfl ?_
      first
        | refine sP (opp_fieldP rfl rfl fld45_5 rfl) rfl rfl ?_
        | refine sP (opp_fieldF rfl rfl rfl fld45_5 rfl rfl) rfl rfl ?_
      refine sR0 (opr_store (v := .int _ _) (trn := (.agg [_, _, _, _, _, .int _ _])) rfl rfl rfl rfl bi rfl rfl rfl rfl fr2 ty3 (fun _ _ h => h)) rfl rfl rfl ?_
      refine awp_seq ?_
      refine awp_region rfl ?_
      first
        | refine sP (opp_loadP rfl rfl rfl rfl bi rfl ty45) rfl rfl ?_
        | refine sP (opp_loadF rfl rfl ty45) rfl rfl ?_
      first
        | refine sP (opp_mv (v := .sl _ _ _ _) rfl rfl) rfl rfl ?_
        | refine sP (opp_mv (v := .osl _ _ _ _ _) rfl rfl) rfl rfl ?_
      refine sR0 (opr_store (v := .agg _) (trn := (.agg _)) rfl rfl rfl rfl bi rfl rfl rfl rfl fr2 ty45 (fun _ _ h => h)) rfl rfl rfl ?_
      first
        | refine sP (opp_as (v := .sl _ _ _ _) rfl rfl) rfl rfl ?_
        | refine sP (opp_as (v := .osl _ _ _ _ _) rfl rfl) rfl rfl ?_
      refine sP (opp_as (v := .bool _) rfl rfl) rfl rfl ?_
      refine sP (opp_as (v := .err _) rfl rfl) rfl rfl ?_
      refine awp_ret ?_
      repeat (first | refine athen_ret ?_ | refine ain_ret ?_)
      first
        | refine apost_ret (aend (l := [.agg _, .sl _ _ _ _, .bool _, .err _]) (.cell rfl rfl rfl (by exact True.intro) rfl ty45 (.tmp (.tmp (.tmp .nil)))) (fun h => by cases h) (.cons (.noN rfl rfl) (.cons (.noN rfl rfl) (.cons (.noN rfl rfl) (.cons (.noN rfl rfl) .nil)))) ⟨Wk.v ?_, rfl, rfl⟩)
        | refine apost_ret (aends (l := [.agg _, .sl _ _ _ _, .bool _, .err _]) (.cell rfl rfl rfl (by exact True.intro) rfl ty45 (.tmp (.tmp (.tmp .nil)))) (fun h => by cases h) (.cons shut (fun h => by cases h) (.cons shut (fun h => by cases h) (.cons shut (fun h => by cases h) (.cons shut (fun h => by cases h) .nil)))) rfl ⟨Wk.v ?_, rfl, rfl⟩)
        | refine apost_ret (aend (l := [.agg _, .osl _ _ _ _ _, .bool _, .err _]) (.cell rfl rfl rfl (by exact True.intro) rfl ty45 (.tmp (.tmp (.tmp .nil)))) (fun h => by cases h) (.cons (.noN rfl rfl) (.cons (.noN rfl rfl) (.cons (.noN rfl rfl) (.cons (.noN rfl rfl) .nil)))) ⟨Wk.v ?_, rfl, rfl⟩)
        | refine apost_ret (aends (l := [.agg _, .osl _ _ _ _ _, .bool _, .err _]) (.cell rfl rfl rfl (by exact True.intro) rfl ty45 (.tmp (.tmp (.tmp .nil)))) (fun h => by cases h) (.cons shut (fun h => by cases h) (.cons shut (fun h => by cases h) (.cons shut (fun h => by cases h) (.cons shut (fun h => by cases h) .nil)))) rfl ⟨Wk.v ?_, rfl, rfl⟩)
      have hd : (Sp.due s).2 = 0 := by simpa [errD_nil] using hc4
      rw [show Sp.round s t = ({ s with rounds := s.rounds + 1 }, (Sp.due s).1, true, 0) by rw [Sp.round, if_neg (by simp [hd]), if_neg (by omega)]]
      simp only [ne_eq, not_true_eq_false, decide_false, sendAV, xidAV, errD, if_true, w64 (show -9223372036854775808 ≤ s.rounds + 1 ∧ s.rounds + 1 ≤ 9223372036854775807 by omega)]; (repeat' (first | exact Wk.refl | exact Wk.sl0 | apply Wk.tup | apply Wk.agg | apply WkL.cons | exact WkL.nil | refine Wk.sl (fun _ _ => ?_)))
theorem c27 (b : Bool) (s : Send) (n : Note) (h0 : b = true → s.acked.length = 0) (hG2 : gl 2 = some (.err (.code 12))) (hG6 : gl 6 = some (.err (.code 11))) (hG3 : gl 3 = some (.err (.code 9))) (hG4 : gl 4 = some (.err (.code 7))) (hG8 : gl 8 = some (.err (.code 4))) (hG5 : gl 5 = some (.err (.code 10))) :
    APure (V ea cds gl) 27 [sendAV b s, noteAV n] false (.tup [sendAV (decide ((Sp.ack s n).2.2 ≠ 0)) (Sp.ack s n).1, .bool (Sp.ack s n).2.1, .err (errD (Sp.ack s n).2.2)]) := by
  refine acalls_of_body (N := 71) Tryd.func27 rfl rfl (Nat.le_of_ble_eq_true rfl) fun C hV hN hM hO => ?_
  obtain ⟨_, _, w0, G0, σ0, _, own0⟩ := C; dsimp only at hV hN hM hO; subst hV; subst hN; subst hM
  refine awp_seq ?_
  refine awp_region rfl ?_
  refine sR (opr_box (y := .agg _) (n := 2) rfl rfl rfl) rfl rfl rfl ?_
  refine sR (opr_box (y := .agg _) (n := 3) rfl rfl rfl) rfl rfl rfl ?_
  refine sR (opr_alloc (n := 4) rfl z45) rfl rfl rfl ?_
  refine sP (opp_as (v := .bool _) rfl rfl) rfl rfl ?_
  refine sP (opp_as (v := .err _) rfl rfl) rfl rfl ?_
  refine awp_seq ?_
  refine awp_seq ?_
  refine awp_region rfl ?_
  first
    | refine sP (opp_loadP rfl rfl rfl rfl bi rfl ty45) rfl rfl ?_
    | refine sP (opp_loadF rfl rfl ty45) rfl rfl ?_
  refine sR (opr_call rfl rfl ent55 rfl (c55 b s hG2 hG6) (AViews.refl _ rfl)) rfl rfl rfl ?_ -- d=10 t=4
  refine sP (opp_not rfl rfl) rfl rfl ?_
  refine awp_cond _ rfl (fun hc3 => ?_) (fun hc3 => ?_)
  · try simp only [cmpI, errD_nil, Bool.not_eq_true', Bool.not_eq_false', decide_eq_true_eq, decide_eq_false_iff_not] at hc3; have ht11 := hc3
    refine awp_seq ?_
    refine awp_draw hmix rfl (by kernel_rfl) ?_
    refine dP (fun _ => false) (opp_build rfl z45 bld45 rfl [.int .i64 0, .agg [.int .i64 0, .int .i64 0, .int .i64 0], .int .i64 0, .str [], .sl 1 true 0 (fun _ => .top), .int .i64 0] rfl) rfl rfl ?_
    refine dP (fun _ => false) (opp_loadF rfl (ev_glob hG3) ty29) rfl rfl ?_
    refine dR0 (fun n => Nat.beq n 4) (opr_store (v := .agg _) (trn := (.agg _)) rfl rfl rfl rfl bi rfl rfl rfl rfl fr2 ty45 (fun _ _ h => h)) rfl rfl rfl ?_
    refine dP (fun _ => false) (opp_as (v := .bool _) rfl rfl) rfl rfl ?_
    refine dP (fun _ => false) (opp_as (v := .err _) rfl rfl) rfl rfl ?_
    refine And.intro (by kernel_rfl) ?_
    refine awp_ret ?_
    repeat (first | refine athen_ret ?_ | refine ain_ret ?_)
    first
      | refine apost_ret (aend (l := [.agg _, .bool _, .err _]) (.cell rfl rfl rfl (by exact True.intro) rfl ty45 (.tmp (.tmp .nil))) (fun h => by cases h) (.cons (.noN rfl rfl) (.cons (.noN rfl rfl) (.cons (.noN rfl rfl) .nil))) ⟨Wk.v ?_, rfl, rfl⟩)
      | refine apost_ret (aends (l := [.agg _, .bool _, .err _]) (.cell rfl rfl rfl (by exact True.intro) rfl ty45 (.tmp (.tmp .nil))) (fun h => by cases h) (.cons shut (fun h => by cases h) (.cons shut (fun h => by cases h) (.cons shut (fun h => by cases h) .nil))) rfl ⟨Wk.v ?_, rfl, rfl⟩)
    rw [show Sp.ack s n = (Sp.zeroSend, false, 9) by simp [Sp.ack, hc3]]; show Wk _ (.tup [sendAV true Sp.zeroSend, .bool false, .err (.code 9)]); simp only [sendAV, Sp.zeroSend, xidAV, List.length_nil]; (repeat' (first | exact Wk.refl | exact Wk.sl0 | apply Wk.tup | apply Wk.agg | apply WkL.cons | exact WkL.nil | refine Wk.sl (fun _ _ => ?_)))
  · try simp only [cmpI, errD_nil, Bool.not_eq_true', Bool.not_eq_false', decide_eq_true_eq, decide_eq_false_iff_not] at hc3; have ht11 := hc3
    refine awp_skip ?_
    refine awp_seq ?_
    refine awp_seq ?_
    have hgs : Sp.goodSend s = true := by simpa using hc3
    have hgl := Sp.goodSend_len hgs
    have hb0 : b = false := by cases b with
      | false => rfl
      | true => have := h0 rfl; omega
    subst hb0
    refine awp_region rfl ?_
    first
      | refine sP (opp_loadP rfl rfl rfl rfl bi rfl ty26) rfl rfl ?_
      | refine sP (opp_loadF rfl rfl ty26) rfl rfl ?_
    refine sR (opr_call rfl rfl ent47 rfl (c47 n hG4 hG8) (AViews.refl _ rfl)) rfl rfl rfl ?_ -- d=15 t=29
    refine sP (opp_as (v := .err _) rfl rfl) rfl rfl ?_
    refine awp_seq ?_
    refine awp_region rfl ?_
    refine sP (opp_mv (v := .err _) rfl rfl) rfl rfl ?_
    refine sP (opp_errNil rfl rfl rfl un29 (.inr ⟨rfl, rfl⟩)) rfl rfl ?_
    refine awp_cond _ rfl (fun hc7 => ?_) (fun hc7 => ?_)
    · try simp only [cmpI, errD_nil, Bool.not_eq_true', Bool.not_eq_false', decide_eq_true_eq, decide_eq_false_iff_not] at hc7; have ht17 := hc7
      refine awp_seq ?_
      refine awp_region rfl ?_
      refine sP (opp_build rfl z45 bld45 rfl [.int .i64 0, .agg [.int .i64 0, .int .i64 0, .int .i64 0], .int .i64 0, .str [], .sl 1 true 0 (fun _ => .top), .int .i64 0] rfl) rfl rfl ?_
      refine sP (opp_mv (v := .err _) rfl rfl) rfl rfl ?_
      refine sR0 (opr_store (v := .agg _) (trn := (.agg _)) rfl rfl rfl rfl bi rfl rfl rfl rfl fr2 ty45 (fun _ _ h => h)) rfl rfl rfl ?_
      refine sP (opp_as (v := .bool _) rfl rfl) rfl rfl ?_
      refine sP (opp_as (v := .err _) rfl rfl) rfl rfl ?_
      refine awp_ret ?_
      repeat (first | refine athen_ret ?_ | refine ain_ret ?_)
      first
        | refine apost_ret (aend (l := [.agg _, .bool _, .err _]) (.cell rfl rfl rfl (by exact True.intro) rfl ty45 (.tmp (.tmp .nil))) (fun h => by cases h) (.cons (.noN rfl rfl) (.cons (.noN rfl rfl) (.cons (.noN rfl rfl) .nil))) ⟨Wk.v ?_, rfl, rfl⟩)
        | refine apost_ret (aends (l := [.agg _, .bool _, .err _]) (.cell rfl rfl rfl (by exact True.intro) rfl ty45 (.tmp (.tmp .nil))) (fun h => by cases h) (.cons shut (fun h => by cases h) (.cons shut (fun h => by cases h) (.cons shut (fun h => by cases h) .nil))) rfl ⟨Wk.v ?_, rfl, rfl⟩)
      rw [show Sp.ack s n = (Sp.zeroSend, false, Sp.check n) by simp [Sp.ack, hgs, show ¬ Sp.check n = 0 by simpa [errD_nil] using hc7]]
      simp only [show ¬ Sp.check n = 0 by simpa [errD_nil] using hc7, ne_eq, not_false_eq_true, decide_true, sendAV, Sp.zeroSend, xidAV, List.length_nil]; (repeat' (first | exact Wk.refl | exact Wk.sl0 | apply Wk.tup | apply Wk.agg | apply WkL.cons | exact WkL.nil | refine Wk.sl (fun _ _ => ?_)))
    · try simp only [cmpI, errD_nil, Bool.not_eq_true', Bool.not_eq_false', decide_eq_true_eq, decide_eq_false_iff_not] at hc7; have ht17 := hc7
      refine awp_skip ?_
      refine awp_seq ?_
      refine awp_block ?_
      refine awp_seq ?_
      have hck : Sp.check n = 0 := by simpa [errD_nil] using hc7
      refine awp_region rfl ?_
      first
        | refine sP (opp_fieldP rfl rfl fld26_0 rfl) rfl rfl ?_
        | refine sP (opp_fieldF rfl rfl rfl fld26_0 rfl rfl) rfl rfl ?_
      first
        | refine sP (opp_loadP rfl rfl rfl rfl bi rfl ty3) rfl rfl ?_
        | refine sP (opp_loadF rfl rfl ty3) rfl rfl ?_
      refine sP (opp_cmp rfl rfl rfl rfl) rfl rfl ?_
      refine sP (opp_as (v := .bool _) rfl rfl) rfl rfl ?_
      refine awp_cond _ rfl (fun hc10 => ?_) (fun hc10 => ?_)
      · try simp only [cmpI, errD_nil, Bool.not_eq_true', Bool.not_eq_false', decide_eq_true_eq, decide_eq_false_iff_not] at hc10; have ht20 := hc10
        refine awp_seq ?_
        refine awp_draw hmix rfl (by kernel_rfl) ?_
        refine dP (fun _ => false) (opp_build rfl z45 bld45 rfl [.int .i64 0, .agg [.int .i64 0, .int .i64 0, .int .i64 0], .int .i64 0, .str [], .sl 1 true 0 (fun _ => .top), .int .i64 0] rfl) rfl rfl ?_
        refine dP (fun _ => false) (opp_loadF rfl (ev_glob hG4) ty29) rfl rfl ?_
        refine dR0 (fun n => Nat.beq n 4) (opr_store (v := .agg _) (trn := (.agg _)) rfl rfl rfl rfl bi rfl rfl rfl rfl fr2 ty45 (fun _ _ h => h)) rfl rfl rfl ?_
        refine dP (fun _ => false) (opp_as (v := .bool _) rfl rfl) rfl rfl ?_
        refine dP (fun _ => false) (opp_as (v := .err _) rfl rfl) rfl rfl ?_
        refine And.intro (by kernel_rfl) ?_
        refine awp_ret ?_
        repeat (first | refine athen_ret ?_ | refine ain_ret ?_)
        first
          | refine apost_ret (aend (l := [.agg _, .bool _, .err _]) (.cell rfl rfl rfl (by exact True.intro) rfl ty45 (.tmp (.tmp .nil))) (fun h => by cases h) (.cons (.noN rfl rfl) (.cons (.noN rfl rfl) (.cons (.noN rfl rfl) .nil))) ⟨Wk.v ?_, rfl, rfl⟩)
          | refine apost_ret (aends (l := [.agg _, .bool _, .err _]) (.cell rfl rfl rfl (by exact True.intro) rfl ty45 (.tmp (.tmp .nil))) (fun h => by cases h) (.cons shut (fun h => by cases h) (.cons shut (fun h => by cases h) (.cons shut (fun h => by cases h) .nil))) rfl ⟨Wk.v ?_, rfl, rfl⟩)
        rw [show Sp.ack s n = (Sp.zeroSend, false, 7) by simp [Sp.ack, hgs, hck, show ¬ n.kind = 7 by simpa using hc10]]; show Wk _ (.tup [sendAV true Sp.zeroSend, .bool false, .err (.code 7)]); simp only [sendAV, Sp.zeroSend, xidAV, List.length_nil]; (repeat' (first | exact Wk.refl | exact Wk.sl0 | apply Wk.tup | apply Wk.agg | apply WkL.cons | exact WkL.nil | refine Wk.sl (fun _ _ => ?_)))
      · try simp only [cmpI, errD_nil, Bool.not_eq_true', Bool.not_eq_false', decide_eq_true_eq, decide_eq_false_iff_not] at hc10; have ht20 := hc10
        refine awp_seq ?_
        have hk : n.kind = 7 := by simpa using hc10
        have hbn := Sp.check_ack hck hk
        refine awp_region rfl ?_
        first
          | refine sP (opp_fieldP rfl rfl fld26_1 rfl) rfl rfl ?_
          | refine sP (opp_fieldF rfl rfl rfl fld26_1 rfl rfl) rfl rfl ?_
        first
          | refine sP (opp_loadP rfl rfl rfl rfl bi rfl ty3) rfl rfl ?_
          | refine sP (opp_loadF rfl rfl ty3) rfl rfl ?_
        first
          | refine sP (opp_fieldP rfl rfl fld45_0 rfl) rfl rfl ?_
          | refine sP (opp_fieldF rfl rfl rfl fld45_0 rfl rfl) rfl rfl ?_
        first
          | refine sP (opp_loadP rfl rfl rfl rfl bi rfl ty3) rfl rfl ?_
          | refine sP (opp_loadF rfl rfl ty3) rfl rfl ?_
        refine sP (opp_cmp rfl rfl rfl rfl) rfl rfl ?_
        refine sP (opp_mv (v := .bool _) rfl rfl) rfl rfl ?_
        first
          | refine sG _ rfl rfl rfl rfl (fun hg => (And.intro gi (True.intro))) (fun hg => opp_fieldP rfl rfl fld26_2 rfl) ?_
          | refine sG _ rfl rfl rfl rfl (fun hg => (And.intro gi (True.intro))) (fun hg => opp_fieldF rfl rfl rfl fld26_2 rfl rfl) ?_
        first
          | refine sG _ rfl rfl rfl rfl (fun hg => (And.intro gi (True.intro))) (fun hg => opp_loadP rfl rfl rfl rfl bi rfl ty23) ?_
          | refine sG _ rfl rfl rfl rfl (fun hg => (And.intro gi (True.intro))) (fun hg => opp_loadF rfl rfl ty23) ?_
        first
          | refine sG _ rfl rfl rfl rfl (fun hg => (And.intro gi (True.intro))) (fun hg => opp_fieldP rfl rfl fld45_1 rfl) ?_
          | refine sG _ rfl rfl rfl rfl (fun hg => (And.intro gi (True.intro))) (fun hg => opp_fieldF rfl rfl rfl fld45_1 rfl rfl) ?_
        first
          | refine sG _ rfl rfl rfl rfl (fun hg => (And.intro gi (True.intro))) (fun hg => opp_loadP rfl rfl rfl rfl bi rfl ty23) ?_
          | refine sG _ rfl rfl rfl rfl (fun hg => (And.intro gi (True.intro))) (fun hg => opp_loadF rfl rfl ty23) ?_
        refine sG _ rfl rfl rfl rfl (fun hg => (And.intro gi (And.intro gi (True.intro)))) (fun hg => opp_eqAgg rfl rfl rfl (eq23 ..) eg23 rfl (.inr ⟨rfl, rfl⟩)) ?_
        refine sPick rfl rfl rfl rfl (by exact True.intro) rfl rfl (fun hg => gi) (fun hg => gi) ?_
        refine sP (opp_mv (v := .bool _) rfl rfl) rfl rfl ?_
        first
          | refine sG _ rfl rfl rfl rfl (fun hg => (And.intro gi (True.intro))) (fun hg => opp_fieldP rfl rfl fld26_3 rfl) ?_
          | refine sG _ rfl rfl rfl rfl (fun hg => (And.intro gi (True.intro))) (fun hg => opp_fieldF rfl rfl rfl fld26_3 rfl rfl) ?_
        first
          | refine sG _ rfl rfl rfl rfl (fun hg => (And.intro gi (True.intro))) (fun hg => opp_loadP rfl rfl rfl rfl bi rfl ty3) ?_
          | refine sG _ rfl rfl rfl rfl (fun hg => (And.intro gi (True.intro))) (fun hg => opp_loadF rfl rfl ty3) ?_
        first
          | refine sG _ rfl rfl rfl rfl (fun hg => (And.intro gi (True.intro))) (fun hg => opp_fieldP rfl rfl fld45_2 rfl) ?_
          | refine sG _ rfl rfl rfl rfl (fun hg => (And.intro gi (True.intro))) (fun hg => opp_fieldF rfl rfl rfl fld45_2 rfl rfl) ?_
        first
          | refine sG _ rfl rfl rfl rfl (fun hg => (And.intro gi (True.intro))) (fun hg => opp_loadP rfl rfl rfl rfl bi rfl ty3) ?_
          | refine sG _ rfl rfl rfl rfl (fun hg => (And.intro gi (True.intro))) (fun hg => opp_loadF rfl rfl ty3) ?_
        refine sG _ rfl rfl rfl rfl (fun hg => (And.intro gi (And.intro gi (True.intro)))) (fun hg => opp_cmp rfl rfl rfl rfl) ?_
        refine sPick rfl rfl rfl rfl (by exact True.intro) rfl rfl (fun hg => gi) (fun hg => gi) ?_
        refine sP (opp_mv (v := .bool _) rfl rfl) rfl rfl ?_
        first
          | refine sG _ rfl rfl rfl rfl (fun hg => (And.intro gi (True.intro))) (fun hg => opp_fieldP rfl rfl fld26_5 rfl) ?_
          | refine sG _ rfl rfl rfl rfl (fun hg => (And.intro gi (True.intro))) (fun hg => opp_fieldF rfl rfl rfl fld26_5 rfl rfl) ?_
        first
          | refine sG _ rfl rfl rfl rfl (fun hg => (And.intro gi (True.intro))) (fun hg => opp_loadP rfl rfl rfl rfl bi rfl ty3) ?_
          | refine sG _ rfl rfl rfl rfl (fun hg => (And.intro gi (True.intro))) (fun hg => opp_loadF rfl rfl ty3) ?_
        first
          | refine sG _ rfl rfl rfl rfl (fun hg => (And.intro gi (True.intro))) (fun hg => opp_fieldP rfl rfl fld45_4 rfl) ?_
          | refine sG _ rfl rfl rfl rfl (fun hg => (And.intro gi (True.intro))) (fun hg => opp_fieldF rfl rfl rfl fld45_4 rfl rfl) ?_
        first
          | refine sG _ rfl rfl rfl rfl (fun hg => (And.intro gi (True.intro))) (fun hg => opp_loadP rfl rfl rfl rfl bi rfl ty43) ?_
          | refine sG _ rfl rfl rfl rfl (fun hg => (And.intro gi (True.intro))) (fun hg => opp_loadF rfl rfl ty43) ?_
        first
          | refine sG _ rfl rfl rfl rfl (fun hg => (And.intro gi (True.intro))) (fun hg => opp_lenSl rfl rfl un43) ?_
          | refine sG _ rfl rfl rfl rfl (fun hg => (And.intro gi (True.intro))) (fun hg => opp_lenOsl rfl rfl un43) ?_
        refine sG _ rfl rfl rfl rfl (fun hg => (And.intro gi (And.intro gi (True.intro)))) (fun hg => opp_cmp rfl rfl rfl rfl) ?_
        refine sPick rfl rfl rfl rfl (by exact True.intro) rfl rfl (fun hg => gi) (fun hg => gi) ?_
        refine sP (opp_as (v := .bool _) rfl rfl) rfl rfl ?_
        refine awp_cond _ rfl (fun hc13 => ?_) (fun hc13 => ?_)
        · try simp only [cmpI, errD_nil, Bool.not_eq_true', Bool.not_eq_false', decide_eq_true_eq, decide_eq_false_iff_not] at hc13; have ht26 := hc13
          refine awp_seq ?_
          refine awp_draw hmix rfl (by kernel_rfl) ?_
          refine dP (fun _ => false) (opp_build rfl z45 bld45 rfl [.int .i64 0, .agg [.int .i64 0, .int .i64 0, .int .i64 0], .int .i64 0, .str [], .sl 1 true 0 (fun _ => .top), .int .i64 0] rfl) rfl rfl ?_
          refine dP (fun _ => false) (opp_loadF rfl (ev_glob hG5) ty29) rfl rfl ?_
          refine dR0 (fun n => Nat.beq n 4) (opr_store (v := .agg _) (trn := (.agg _)) rfl rfl rfl rfl bi rfl rfl rfl rfl fr2 ty45 (fun _ _ h => h)) rfl rfl rfl ?_
          refine dP (fun _ => false) (opp_as (v := .bool _) rfl rfl) rfl rfl ?_
          refine dP (fun _ => false) (opp_as (v := .err _) rfl rfl) rfl rfl ?_
          refine And.intro (by kernel_rfl) ?_
          refine awp_ret ?_
          repeat (first | refine athen_ret ?_ | refine ain_ret ?_)
          first
            | refine apost_ret (aend (l := [.agg _, .bool _, .err _]) (.cell rfl rfl rfl (by exact True.intro) rfl ty45 (.tmp (.tmp .nil))) (fun h => by cases h) (.cons (.noN rfl rfl) (.cons (.noN rfl rfl) (.cons (.noN rfl rfl) .nil))) ⟨Wk.v ?_, rfl, rfl⟩)
            | refine apost_ret (aends (l := [.agg _, .bool _, .err _]) (.cell rfl rfl rfl (by exact True.intro) rfl ty45 (.tmp (.tmp .nil))) (fun h => by cases h) (.cons shut (fun h => by cases h) (.cons shut (fun h => by cases h) (.cons shut (fun h => by cases h) .nil))) rfl ⟨Wk.v ?_, rfl, rfl⟩)
          have hq : n.part ≠ s.part ∨ n.xid ≠ s.xid ∨ n.stage ≠ s.stage ∨ n.total ≠ s.acked.length := by
            refine Classical.byContradiction fun hne => ?_
            simp only [not_or, Decidable.not_not, ne_eq] at hne
            obtain ⟨h1, h2, h3, h4⟩ := hne
            simp [h1, h2, h3, h4] at hc13
          rw [show Sp.ack s n = (Sp.zeroSend, false, 10) by simp only [Sp.ack, hgs, hck, hk]; simp [if_pos hq]]; show Wk _ (.tup [sendAV true Sp.zeroSend, .bool false, .err (.code 10)]); simp only [sendAV, Sp.zeroSend, xidAV, List.length_nil]; (repeat' (first | exact Wk.refl | exact Wk.sl0 | apply Wk.tup | apply Wk.agg | apply WkL.cons | exact WkL.nil | refine Wk.sl (fun _ _ => ?_)))
        · try simp only [cmpI, errD_nil, Bool.not_eq_true', Bool.not_eq_false', decide_eq_true_eq, decide_eq_false_iff_not] at hc13; have ht26 := hc13
          refine awp_skip ?_
          refine awp_seq ?_
          have hq : n.part = s.part ∧ n.xid = s.xid ∧ n.stage = s.stage ∧ n.total = s.acked.length := by
            rw [Xid.eq_iff]; simpa [and_assoc] using hc13
          refine awp_region rfl ?_
          first
            | refine sP (opp_loadP rfl rfl rfl rfl bi rfl ty45) rfl rfl ?_
            | refine sP (opp_loadF rfl rfl ty45) rfl rfl ?_
          refine sR (opr_callO (rl := [(5, 57)]) (r1 := .agg _) (H1 := [(57, some (.arr _ _ _))]) (n1 := [57]) rfl rfl ent79 rfl (co79 s (by omega)) (AViews.refl _ rfl) rfl rfl rfl rfl) rfl rfl rfl ?_
          refine sR (opr_alloc (n := 8) rfl z45) rfl rfl rfl ?_
          refine sR0 (opr_store (v := .agg _) (trn := (.agg _)) rfl rfl rfl rfl bi rfl rfl rfl rfl fr2 ty45 (fun _ _ h => h)) rfl rfl rfl ?_
          refine awp_seq ?_
          refine awp_region rfl ?_
          first
            | refine sP (opp_fieldP rfl rfl fld45_4 rfl) rfl rfl ?_
            | refine sP (opp_fieldF rfl rfl rfl fld45_4 rfl rfl) rfl rfl ?_
          first
            | refine sP (opp_loadP rfl rfl rfl rfl bi rfl ty43) rfl rfl ?_
            | refine sP (opp_loadF rfl rfl ty43) rfl rfl ?_
          first
            | refine sP (opp_fieldP rfl rfl fld26_4 rfl) rfl rfl ?_
            | refine sP (opp_fieldF rfl rfl rfl fld26_4 rfl rfl) rfl rfl ?_
          first
            | refine sP (opp_loadP rfl rfl rfl rfl bi rfl ty3) rfl rfl ?_
            | refine sP (opp_loadF rfl rfl ty3) rfl rfl ?_
          first
            | refine sP (opp_indexSl rfl rfl rfl el43 (by omega) (by omega)) rfl rfl ?_
            | refine sP (opp_indexOsl0 rfl rfl rfl el43 (by omega) (by omega)) rfl rfl ?_
            | refine sP (opp_indexOsl rfl rfl rfl el43 (by omega) (by omega)) rfl rfl ?_
          refine sR0 (opr_storeA (v := .bool _) rfl rfl rfl (by omega) rfl rfl rfl rfl rfl ty4) rfl rfl rfl ?_
          refine awp_seq ?_
          refine awp_draw hmix rfl (by kernel_rfl) ?_
          first
            | refine dP (fun n => Nat.beq n 8) (opp_loadP rfl rfl rfl rfl bi rfl ty45) rfl rfl ?_
            | refine dP (fun n => Nat.beq n 8) (opp_loadF rfl rfl ty45) rfl rfl ?_
          first
            | refine dP (fun _ => false) (opp_fieldP rfl rfl fld45_4 rfl) rfl rfl ?_
            | refine dP (fun _ => false) (opp_fieldF rfl rfl rfl fld45_4 rfl rfl) rfl rfl ?_
          first
            | refine dP (fun n => Nat.beq n 2) (opp_loadP rfl rfl rfl rfl bi rfl ty43) rfl rfl ?_
            | refine dP (fun n => Nat.beq n 2) (opp_loadF rfl rfl ty43) rfl rfl ?_
          first
            | refine dP (fun _ => false) (opp_fieldP rfl rfl fld26_4 rfl) rfl rfl ?_
            | refine dP (fun _ => false) (opp_fieldF rfl rfl rfl fld26_4 rfl rfl) rfl rfl ?_
          first
            | refine dP (fun n => Nat.beq n 3) (opp_loadP rfl rfl rfl rfl bi rfl ty3) rfl rfl ?_
            | refine dP (fun n => Nat.beq n 3) (opp_loadF rfl rfl ty3) rfl rfl ?_
          first
            | refine dP (fun _ => false) (opp_indexSl rfl rfl rfl el43 (by omega) (by omega)) rfl rfl ?_
            | refine dP (fun _ => false) (opp_indexOsl0 rfl rfl rfl el43 (by omega) (by omega)) rfl rfl ?_
            | refine dP (fun _ => false) (opp_indexOsl rfl rfl rfl el43 (by omega) (by omega)) rfl rfl ?_
          first
            | refine dP (fun n => !([4] : List Nat).contains n) (opp_loadP rfl rfl rfl rfl bi rfl ty4) rfl rfl ?_
            | refine dP (fun n => !([4] : List Nat).contains n) (opp_loadF rfl rfl ty4) rfl rfl ?_
          refine dP (fun _ => false) (opp_not rfl rfl) rfl rfl ?_
          refine dR0 (fun n => Nat.beq n 4) (opr_store (v := .agg _) (trn := (.agg _)) rfl rfl rfl rfl bi rfl rfl rfl rfl fr2 ty45 (fun _ _ h => h)) rfl rfl rfl ?_
          refine dP (fun _ => false) (opp_as (v := .bool _) rfl rfl) rfl rfl ?_
          refine dP (fun _ => false) (opp_as (v := .err _) rfl rfl) rfl rfl ?_
          refine And.intro (by kernel_rfl) ?_
          refine awp_ret ?_
          repeat (first | refine athen_ret ?_ | refine ain_ret ?_)
          first
            | refine apost_ret (aend (l := [.agg _, .bool _, .err _]) (.cell rfl rfl rfl (by exact True.intro) rfl ty45 (.tmp (.tmp .nil))) (fun h => by cases h) (.cons (.noN rfl rfl) (.cons (.noN rfl rfl) (.cons (.noN rfl rfl) .nil))) ⟨Wk.v ?_, rfl, rfl⟩)
            | refine apost_ret (aends (l := [.agg _, .bool _, .err _]) (.cell rfl rfl rfl (by exact True.intro) rfl ty45 (.tmp (.tmp .nil))) (fun h => by cases h) (.cons shut (fun h => by cases h) (.cons shut (fun h => by cases h) (.cons shut (fun h => by cases h) .nil))) rfl ⟨Wk.v ?_, rfl, rfl⟩)
          rw [show Sp.ack s n = ({ s with acked := s.acked.set n.index.toNat true }, !s.acked.getD n.index.toNat false, 0) by simp only [Sp.ack, hgs, hck, hk, hq]; simp]
          show Wk _ (.tup [sendAV false _, .bool _, .err .nil]); simp only [sendAV, xidAV, List.length_set]; (repeat' (first | exact Wk.refl | exact Wk.sl0 | apply Wk.tup | apply Wk.agg | apply WkL.cons | exact WkL.nil | refine Wk.sl (fun _ _ => ?_)))
          rename_i j hj; simp only [blAt, List.getD_eq_getElem?_getD, List.getElem?_set]
          by_cases hj2 : j = n.index.toNat
          · subst hj2; simp [hj]
          · simp [hj2, Ne.symm hj2]
end
end Go.Proofs.YtgaihhimkodmmaaDoor

