/- Layer 22: what has come (walks over this dump). -/
import Derived.Test.YtgaihhimkodmmaaDoorK6x
namespace Go.Proofs.YtgaihhimkodmmaaDoor
attribute [local irreducible] Tryd.prog
open Go.Fy
set_option linter.unusedSimpArgs false
section
variable {ea : Nat → Addr} {cds : List Nat} {gl : Nat → Option AV}
theorem c139 (b : Bool) (n : Nat) (f : Nat → List UInt8) (g : Nat) (p : List UInt8 → Bool) (he : Ent (V ea cds gl).P g) (hp : ∀ v, APure (V ea cds gl) g [.str v] false (.bool (p v))) (h1 : n ≤ 4611686018427387904) :
    APure (V ea cds gl) 139 [.sl 1 b n (fun j => .str (f j)), .fn g []] false (.int .i64 (Sp.idx (fun j => p (f j)) n)) := by
  refine acalls_of_body (N := 19) Tryd.func139 rfl rfl (Nat.le_of_ble_eq_true rfl) fun C hV hN hM hO => ?_
  obtain ⟨_, _, w0, G0, σ0, _, own0⟩ := C; dsimp only at hV hN hM hO; subst hV; subst hN; subst hM
  refine awp_seq ?_
  refine awp_region rfl ?_
  refine sP (opp_as (v := .int _ _) rfl rfl) rfl rfl ?_
  refine awp_seq ?_
  refine awp_seq ?_
  refine awp_region rfl ?_
  first
    | refine sP (opp_mv (v := .sl _ _ _ _) rfl rfl) rfl rfl ?_
    | refine sP (opp_mv (v := .osl _ _ _ _ _) rfl rfl) rfl rfl ?_
  first
    | refine sP (opp_lenSl rfl rfl un51) rfl rfl ?_
    | refine sP (opp_lenOsl rfl rfl un51) rfl rfl ?_
  refine sP (opp_mv (v := .int _ _) rfl rfl) rfl rfl ?_
  refine awp_block ?_
  refine awp_loopK (ι := Nat) (fun i => i ≤ n ∧ ∀ j, j < i → p (f j) = false) (fun i => [(4, .top), (5, .top), (8, .int .i64 i), (9, .top), (10, .top), (11, .top), (12, .top), (13, .top), (14, .top), (15, .top), (16, .top), (17, .top), (18, .top)]) (fun i => []) [] (fun i => n - i) (0) (⟨Nat.zero_le _, fun j hj => absurd hj (by omega)⟩) (by
    refine imp_over [] rfl rfl (by kernel_rfl) ?_ ?_
    · refine And.intro wkv ?_
      refine And.intro wkv ?_
      refine And.intro wkv ?_
      refine And.intro wkv ?_
      refine And.intro wkv ?_
      refine And.intro wkv ?_
      refine And.intro wkv ?_
      refine And.intro wkv ?_
      refine And.intro wkv ?_
      refine And.intro wkv ?_
      refine And.intro wkv ?_
      refine And.intro wkv ?_
      refine And.intro wkv ?_
      exact True.intro
    · exact True.intro
    ) ?_
  intro i hi1
  refine awp_seq ?_
  refine awp_region rfl ?_
  refine sP (opp_cmp rfl rfl rfl rfl) rfl rfl ?_
  refine awp_seq ?_
  refine awp_cond _ rfl (fun hc4 => ?_) (fun hc4 => ?_)
  · try simp only [cmpI, errD_nil, Bool.not_eq_true', Bool.not_eq_false', decide_eq_true_eq, decide_eq_false_iff_not] at hc4; have ht9 := hc4
    refine awp_skip ?_
    refine awp_seq ?_
    refine awp_block ?_
    refine awp_seq ?_
    refine awp_region rfl ?_
    refine sP (opp_mv (v := .int _ _) rfl rfl) rfl rfl ?_
    refine sP (opp_as (v := .int _ _) rfl rfl) rfl rfl ?_
    refine awp_seq ?_
    refine awp_region rfl ?_
    first
      | refine sP (opp_mv (v := .fn _ _) rfl rfl) rfl rfl ?_
      | refine sP (opp_mv (v := .val _) rfl rfl) rfl rfl ?_
    first
      | refine sP (opp_mv (v := .sl _ _ _ _) rfl rfl) rfl rfl ?_
      | refine sP (opp_mv (v := .osl _ _ _ _ _) rfl rfl) rfl rfl ?_
    refine sP (opp_mv (v := .int _ _) rfl rfl) rfl rfl ?_
    first
      | refine sP (opp_indexSl rfl rfl rfl el51 (by omega) (by omega)) rfl rfl ?_
      | refine sP (opp_indexOsl0 rfl rfl rfl el51 (by omega) (by omega)) rfl rfl ?_
      | refine sP (opp_indexOsl rfl rfl rfl el51 (by omega) (by omega)) rfl rfl ?_
    first
      | refine sP (opp_loadP rfl rfl rfl rfl bi rfl ty9) rfl rfl ?_
      | refine sP (opp_loadF rfl rfl ty9) rfl rfl ?_
    refine sR (opr_call rfl rfl he rfl (hp _) (AViews.refl _ rfl)) rfl rfl rfl ?_
    refine awp_cond _ rfl (fun hc7 => ?_) (fun hc7 => ?_)
    · try simp only [cmpI, errD_nil, Bool.not_eq_true', Bool.not_eq_false', decide_eq_true_eq, decide_eq_false_iff_not] at hc7; have ht16 := hc7
      refine awp_seq ?_
      refine awp_region rfl ?_
      refine sP (opp_mv (v := .int _ _) rfl rfl) rfl rfl ?_
      refine sP (opp_as (v := .int _ _) rfl rfl) rfl rfl ?_
      refine awp_ret ?_
      repeat (first | refine athen_ret ?_ | refine ain_ret ?_)
      first
        | refine apost_ret (aend1 (r0 := .int _ _) (.tmp .nil) (.noN rfl rfl) ⟨Wk.v ?_, rfl, rfl⟩)
        | refine apost_ret (aend1s (r0 := .int _ _) (.tmp .nil) shut rfl ⟨Wk.v ?_, rfl, rfl⟩)
      simp only [Int.toNat_natCast] at hc7
      rw [Sp.idx_found (p := fun j => p (f j)) hi1.2 (by simpa using hc7) (by omega)]; exact .refl
    · try simp only [cmpI, errD_nil, Bool.not_eq_true', Bool.not_eq_false', decide_eq_true_eq, decide_eq_false_iff_not] at hc7; have ht16 := hc7
      refine awp_skip ?_
      refine awp_region rfl ?_
      first
        | refine sP (opp_arith rfl rfl rfl (.inl ⟨rfl, w64 (by omega)⟩)) rfl rfl ?_
        | refine sP (opp_arith rfl rfl rfl (.inl ⟨rfl, rfl⟩)) rfl rfl ?_
      refine sP (opp_mv (v := .int _ _) rfl rfl) rfl rfl ?_
      simp only [Int.toNat_natCast] at hc7
      refine Exists.intro (i + 1) (And.intro (And.intro (⟨by omega, fun j hj => by by_cases e : j = i; (subst e; simpa using hc7); exact hi1.2 j (by omega)⟩) (by omega)) (by
        refine imp_over [] rfl rfl (by kernel_rfl) ?_ ?_
        · refine And.intro wkv ?_
          refine And.intro wkv ?_
          refine And.intro wkv ?_
          refine And.intro wkv ?_
          refine And.intro wkv ?_
          refine And.intro wkv ?_
          refine And.intro wkv ?_
          refine And.intro wkv ?_
          refine And.intro wkv ?_
          refine And.intro wkv ?_
          refine And.intro wkv ?_
          refine And.intro wkv ?_
          refine And.intro wkv ?_
          exact True.intro
        · exact True.intro
        ))
  · try simp only [cmpI, errD_nil, Bool.not_eq_true', Bool.not_eq_false', decide_eq_true_eq, decide_eq_false_iff_not] at hc4; have ht9 := hc4
    refine awp_exit ?_
    refine awp_seq ?_
    refine awp_region rfl ?_
    refine sP (opp_as (v := .int _ _) rfl rfl) rfl rfl ?_
    refine awp_ret ?_
    repeat (first | refine athen_ret ?_ | refine ain_ret ?_)
    first
      | refine apost_ret (aend1 (r0 := .int _ _) (.tmp .nil) (.noN rfl rfl) ⟨Wk.v ?_, rfl, rfl⟩)
      | refine apost_ret (aend1s (r0 := .int _ _) (.tmp .nil) shut rfl ⟨Wk.v ?_, rfl, rfl⟩)
    rw [Sp.idx_none (p := fun j => p (f j)) (fun j hj => hi1.2 j (by omega))]; exact .refl
theorem c117 (b : Bool) (n : Nat) (f : Nat → List UInt8) (g : Nat) (p : List UInt8 → Bool) (he : Ent (V ea cds gl).P g) (hp : ∀ v, APure (V ea cds gl) g [.str v] false (.bool (p v))) (h1 : n ≤ 4611686018427387904) :
    APure (V ea cds gl) 117 [.sl 1 b n (fun j => .str (f j)), .fn g []] false (.bool ((List.range n).any fun j => p (f j))) := by
  refine acalls_of_body (N := 9) Tryd.func117 rfl rfl (Nat.le_of_ble_eq_true rfl) fun C hV hN hM hO => ?_
  obtain ⟨_, _, w0, G0, σ0, _, own0⟩ := C; dsimp only at hV hN hM hO; subst hV; subst hN; subst hM
  refine awp_seq ?_
  refine awp_region rfl ?_
  refine sP (opp_as (v := .bool _) rfl rfl) rfl rfl ?_
  refine awp_seq ?_
  refine awp_region rfl ?_
  first
    | refine sP (opp_mv (v := .sl _ _ _ _) rfl rfl) rfl rfl ?_
    | refine sP (opp_mv (v := .osl _ _ _ _ _) rfl rfl) rfl rfl ?_
  first
    | refine sP (opp_mv (v := .fn _ _) rfl rfl) rfl rfl ?_
    | refine sP (opp_mv (v := .val _) rfl rfl) rfl rfl ?_
  refine sR (opr_call rfl rfl ent139 rfl (c139 _ _ _ _ p he hp (by omega)) (AViews.refl _ rfl)) rfl rfl rfl ?_ -- d=7 t=3
  refine sP (opp_cmp rfl rfl rfl rfl) rfl rfl ?_
  refine sP (opp_as (v := .bool _) rfl rfl) rfl rfl ?_
  refine awp_ret ?_
  repeat (first | refine athen_ret ?_ | refine ain_ret ?_)
  first
    | refine apost_ret (aend1 (r0 := .bool _) (.tmp .nil) (.noN rfl rfl) ⟨Wk.v ?_, rfl, rfl⟩)
    | refine apost_ret (aend1s (r0 := .bool _) (.tmp .nil) shut rfl ⟨Wk.v ?_, rfl, rfl⟩)
  rw [← Sp.idx_nonneg]; exact .of (by simp [cmpI])
theorem c78 (b : Bool) (r : Recv) (h0 : r.stage.pieces.length ≤ 4611686018427387904) : APure (V ea cds gl) 78 [recvAV b r] false (.bool (Sp.goodR r)) := by
  refine acalls_of_body (N := 41) Tryd.func78 rfl rfl (Nat.le_of_ble_eq_true rfl) fun C hV hN hM hO => ?_
  obtain ⟨_, _, w0, G0, σ0, _, own0⟩ := C; dsimp only at hV hN hM hO; subst hV; subst hN; subst hM
  refine awp_seq ?_
  refine awp_region rfl ?_
  refine sR (opr_box (y := .agg _) (n := 1) rfl rfl rfl) rfl rfl rfl ?_
  refine sP (opp_as (v := .bool _) rfl rfl) rfl rfl ?_
  refine awp_seq ?_
  refine awp_region rfl ?_
  first
    | refine sP (opp_fieldP rfl rfl fld55_1 rfl) rfl rfl ?_
    | refine sP (opp_fieldF rfl rfl rfl fld55_1 rfl rfl) rfl rfl ?_
  first
    | refine sP (opp_loadP rfl rfl rfl rfl bi rfl ty53) rfl rfl ?_
    | refine sP (opp_loadF rfl rfl ty53) rfl rfl ?_
  refine sR (opr_alloc (n := 3) rfl z53) rfl rfl rfl ?_
  refine sR0 (opr_store (v := .agg _) (trn := (.agg _)) rfl rfl rfl rfl bi rfl rfl rfl rfl fr2 ty53 (fun _ _ h => h)) rfl rfl rfl ?_
  refine awp_seq ?_
  refine awp_seq ?_
  refine awp_region rfl ?_
  first
    | refine sP (opp_fieldP rfl rfl fld55_0 rfl) rfl rfl ?_
    | refine sP (opp_fieldF rfl rfl rfl fld55_0 rfl rfl) rfl rfl ?_
  first
    | refine sP (opp_loadP rfl rfl rfl rfl bi rfl ty4) rfl rfl ?_
    | refine sP (opp_loadF rfl rfl ty4) rfl rfl ?_
  refine sP (opp_not rfl rfl) rfl rfl ?_
  refine awp_cond _ rfl (fun hc4 => ?_) (fun hc4 => ?_)
  · try simp only [cmpI, errD_nil, Bool.not_eq_true', Bool.not_eq_false', decide_eq_true_eq, decide_eq_false_iff_not] at hc4; have ht8 := hc4
    refine awp_seq ?_
    refine awp_region rfl ?_
    first
      | refine sP (opp_fieldP rfl rfl fld53_0 rfl) rfl rfl ?_
      | refine sP (opp_fieldF rfl rfl rfl fld53_0 rfl rfl) rfl rfl ?_
    first
      | refine sP (opp_loadP rfl rfl rfl rfl bi rfl ty3) rfl rfl ?_
      | refine sP (opp_loadF rfl rfl ty3) rfl rfl ?_
    refine sP (opp_cmp rfl rfl rfl rfl) rfl rfl ?_
    refine sP (opp_mv (v := .bool _) rfl rfl) rfl rfl ?_
    first
      | refine sG _ rfl rfl rfl rfl (fun hg => (And.intro gi (True.intro))) (fun hg => opp_fieldP rfl rfl fld53_1 rfl) ?_
      | refine sG _ rfl rfl rfl rfl (fun hg => (And.intro gi (True.intro))) (fun hg => opp_fieldF rfl rfl rfl fld53_1 rfl rfl) ?_
    first
      | refine sG _ rfl rfl rfl rfl (fun hg => (And.intro gi (True.intro))) (fun hg => opp_loadP rfl rfl rfl rfl bi rfl ty3) ?_
      | refine sG _ rfl rfl rfl rfl (fun hg => (And.intro gi (True.intro))) (fun hg => opp_loadF rfl rfl ty3) ?_
    refine sG _ rfl rfl rfl rfl (fun hg => (And.intro gi (And.intro gi (True.intro)))) (fun hg => opp_cmp rfl rfl rfl rfl) ?_
    refine sPick rfl rfl rfl rfl (by exact True.intro) rfl rfl (fun hg => gi) (fun hg => gi) ?_
    refine sP (opp_mv (v := .bool _) rfl rfl) rfl rfl ?_
    first
      | refine sG _ rfl rfl rfl rfl (fun hg => (And.intro gi (True.intro))) (fun hg => opp_fieldP rfl rfl fld53_2 rfl) ?_
      | refine sG _ rfl rfl rfl rfl (fun hg => (And.intro gi (True.intro))) (fun hg => opp_fieldF rfl rfl rfl fld53_2 rfl rfl) ?_
    first
      | refine sG _ rfl rfl rfl rfl (fun hg => (And.intro gi (True.intro))) (fun hg => opp_loadP rfl rfl rfl rfl bi rfl ty3) ?_
      | refine sG _ rfl rfl rfl rfl (fun hg => (And.intro gi (True.intro))) (fun hg => opp_loadF rfl rfl ty3) ?_
    refine sG _ rfl rfl rfl rfl (fun hg => (And.intro gi (And.intro gi (True.intro)))) (fun hg => opp_cmp rfl rfl rfl rfl) ?_
    refine sPick rfl rfl rfl rfl (by exact True.intro) rfl rfl (fun hg => gi) (fun hg => gi) ?_
    refine sP (opp_mv (v := .bool _) rfl rfl) rfl rfl ?_
    first
      | refine sG _ rfl rfl rfl rfl (fun hg => (And.intro gi (True.intro))) (fun hg => opp_fieldP rfl rfl fld53_3 rfl) ?_
      | refine sG _ rfl rfl rfl rfl (fun hg => (And.intro gi (True.intro))) (fun hg => opp_fieldF rfl rfl rfl fld53_3 rfl rfl) ?_
    first
      | refine sG _ rfl rfl rfl rfl (fun hg => (And.intro gi (True.intro))) (fun hg => opp_loadP rfl rfl rfl rfl bi rfl ty23) ?_
      | refine sG _ rfl rfl rfl rfl (fun hg => (And.intro gi (True.intro))) (fun hg => opp_loadF rfl rfl ty23) ?_
    refine sG _ rfl rfl rfl rfl (fun hg => (True.intro)) (fun hg => opp_build rfl z23 bld23 rfl [.int .i64 0, .int .i64 0, .int .i64 0] rfl) ?_
    refine sG _ rfl rfl rfl rfl (fun hg => (And.intro gi (And.intro gi (True.intro)))) (fun hg => opp_eqAgg rfl rfl rfl (eq23 ..) eg23 rfl (.inl ⟨rfl, rfl⟩)) ?_
    refine sPick rfl rfl rfl rfl (by exact True.intro) rfl rfl (fun hg => gi) (fun hg => gi) ?_
    refine sP (opp_mv (v := .bool _) rfl rfl) rfl rfl ?_
    first
      | refine sG _ rfl rfl rfl rfl (fun hg => (And.intro gi (True.intro))) (fun hg => opp_fieldP rfl rfl fld53_4 rfl) ?_
      | refine sG _ rfl rfl rfl rfl (fun hg => (And.intro gi (True.intro))) (fun hg => opp_fieldF rfl rfl rfl fld53_4 rfl rfl) ?_
    first
      | refine sG _ rfl rfl rfl rfl (fun hg => (And.intro gi (True.intro))) (fun hg => opp_loadP rfl rfl rfl rfl bi rfl ty51) ?_
      | refine sG _ rfl rfl rfl rfl (fun hg => (And.intro gi (True.intro))) (fun hg => opp_loadF rfl rfl ty51) ?_
    first
      | refine sG _ rfl rfl rfl rfl (fun hg => (And.intro gi (True.intro))) (fun hg => opp_lenSl rfl rfl un51) ?_
      | refine sG _ rfl rfl rfl rfl (fun hg => (And.intro gi (True.intro))) (fun hg => opp_lenOsl rfl rfl un51) ?_
    refine sG _ rfl rfl rfl rfl (fun hg => (And.intro gi (And.intro gi (True.intro)))) (fun hg => opp_cmp rfl rfl rfl rfl) ?_
    refine sPick rfl rfl rfl rfl (by exact True.intro) rfl rfl (fun hg => gi) (fun hg => gi) ?_
    refine sP (opp_as (v := .bool _) rfl rfl) rfl rfl ?_
    refine awp_ret ?_
    repeat (first | refine athen_ret ?_ | refine ain_ret ?_)
    first
      | refine apost_ret (aend1 (r0 := .bool _) (.tmp .nil) (.noN rfl rfl) ⟨Wk.v ?_, rfl, rfl⟩)
      | refine apost_ret (aend1s (r0 := .bool _) (.tmp .nil) shut rfl ⟨Wk.v ?_, rfl, rfl⟩)
    refine .of (congrArg AV.bool ?_)
    rw [Bool.eq_iff_iff]; simp [Sp.goodR, hc4, cmpI, Xid.eq_iff, and_assoc]
  · try simp only [cmpI, errD_nil, Bool.not_eq_true', Bool.not_eq_false', decide_eq_true_eq, decide_eq_false_iff_not] at hc4; have ht8 := hc4
    refine awp_skip ?_
    refine awp_seq ?_
    refine awp_region rfl ?_
    first
      | refine sP (opp_loadP rfl rfl rfl rfl bi rfl ty53) rfl rfl ?_
      | refine sP (opp_loadF rfl rfl ty53) rfl rfl ?_
    refine sR (opr_call rfl rfl ent93 rfl (c93 _ _) (AViews.refl _ rfl)) rfl rfl rfl ?_ -- d=35 t=4
    refine sP (opp_mv (v := .bool _) rfl rfl) rfl rfl ?_
    first
      | refine sG _ rfl rfl rfl rfl (fun hg => (And.intro gi (True.intro))) (fun hg => opp_fieldP rfl rfl fld53_4 rfl) ?_
      | refine sG _ rfl rfl rfl rfl (fun hg => (And.intro gi (True.intro))) (fun hg => opp_fieldF rfl rfl rfl fld53_4 rfl rfl) ?_
    first
      | refine sG _ rfl rfl rfl rfl (fun hg => (And.intro gi (True.intro))) (fun hg => opp_loadP rfl rfl rfl rfl bi rfl ty51) ?_
      | refine sG _ rfl rfl rfl rfl (fun hg => (And.intro gi (True.intro))) (fun hg => opp_loadF rfl rfl ty51) ?_
    refine sGR _ rfl rfl rfl rfl (fun hg => (And.intro gi (And.intro gi (And.intro gi (True.intro))))) (fun hg => (opr_call rfl rfl ent117 rfl (c117 _ _ _ _ _ ent118 c118 (by omega)) (AViews.refl _ rfl))) ?_
    refine sPick rfl rfl rfl rfl (by exact True.intro) rfl rfl (fun hg => gi) (fun hg => gi) ?_
    refine sP (opp_as (v := .bool _) rfl rfl) rfl rfl ?_
    refine awp_ret ?_
    repeat (first | refine athen_ret ?_ | refine ain_ret ?_)
    first
      | refine apost_ret (aend1 (r0 := .bool _) (.tmp .nil) (.noN rfl rfl) ⟨Wk.v ?_, rfl, rfl⟩)
      | refine apost_ret (aend1s (r0 := .bool _) (.tmp .nil) shut rfl ⟨Wk.v ?_, rfl, rfl⟩)
    refine .of (congrArg AV.bool ?_)
    rw [Bool.eq_iff_iff]; simp [Sp.goodR, hc4]
theorem c22 (b : Bool) (r : Recv) (n : Note) (h0 : r.stage.pieces.length ≤ 4611686018427387904) (h1 : b = true → r.stage.pieces.length = 0) (hG3 : gl 3 = some (.err (.code 9))) (hG4 : gl 4 = some (.err (.code 7))) (hG5 : gl 5 = some (.err (.code 10)))
    (hG2 : gl 2 = some (.err (.code 12))) (hG7 : gl 7 = some (.err (.code 14))) (hG8 : gl 8 = some (.err (.code 4))) :
    APure (V ea cds gl) 22 [recvAV b r, noteAV n] false (.tup [recvAV (decide ((Sp.take r n).2.2 ≠ 0)) (Sp.take r n).1, noteAV (Sp.take r n).2.1, .err (errD (Sp.take r n).2.2)]) := by
  refine acalls_of_body (N := 88) Tryd.func22 rfl rfl (Nat.le_of_ble_eq_true rfl) fun C hV hN hM hO => ?_
  obtain ⟨_, _, w0, G0, σ0, _, own0⟩ := C; dsimp only at hV hN hM hO; subst hV; subst hN; subst hM
  refine awp_seq ?_
  refine awp_region rfl ?_
  refine sR (opr_box (y := .agg _) (n := 2) rfl rfl rfl) rfl rfl rfl ?_
  refine sR (opr_box (y := .agg _) (n := 3) rfl rfl rfl) rfl rfl rfl ?_
  refine sR (opr_alloc (n := 4) rfl z55) rfl rfl rfl ?_
  refine sR (opr_alloc (n := 5) rfl z26) rfl rfl rfl ?_
  refine sP (opp_as (v := .err _) rfl rfl) rfl rfl ?_
  refine awp_seq ?_
  refine awp_seq ?_
  refine awp_region rfl ?_
  first
    | refine sP (opp_loadP rfl rfl rfl rfl bi rfl ty55) rfl rfl ?_
    | refine sP (opp_loadF rfl rfl ty55) rfl rfl ?_
  refine sR (opr_call rfl rfl ent78 rfl (c78 _ _ (by first | omega | (simp_all; done))) (AViews.refl _ rfl)) rfl rfl rfl ?_ -- d=12 t=4
  refine sP (opp_not rfl rfl) rfl rfl ?_
  refine awp_cond _ rfl (fun hc3 => ?_) (fun hc3 => ?_)
  · try simp only [cmpI, errD_nil, Bool.not_eq_true', Bool.not_eq_false', decide_eq_true_eq, decide_eq_false_iff_not] at hc3; have ht13 := hc3
    refine awp_seq ?_
    refine awp_draw hmix rfl (by kernel_rfl) ?_
    refine dP (fun _ => false) (opp_build rfl z55 bld55 rfl [.bool false, .agg [.int .i64 0, .int .i64 0, .int .i64 0, .agg [.int .i64 0, .int .i64 0, .int .i64 0], .sl 1 true 0 (fun _ => .top)]] rfl) rfl rfl ?_
    refine dP (fun _ => false) (opp_build rfl z26 bld26 rfl [.int .i64 0, .int .i64 0, .agg [.int .i64 0, .int .i64 0, .int .i64 0], .int .i64 0, .int .i64 0, .int .i64 0, .int .u32 0, .str []] rfl) rfl rfl ?_
    refine dP (fun _ => false) (opp_loadF rfl (ev_glob hG3) ty29) rfl rfl ?_
    refine dR0 (fun n => Nat.beq n 4) (opr_store (v := .agg _) (trn := (.agg _)) rfl rfl rfl rfl bi rfl rfl rfl rfl fr2 ty55 (fun _ _ h => h)) rfl rfl rfl ?_
    refine dR0 (fun n => Nat.beq n 5) (opr_store (v := .agg _) (trn := (.agg _)) rfl rfl rfl rfl bi rfl rfl rfl rfl fr2 ty26 (fun _ _ h => h)) rfl rfl rfl ?_
    refine dP (fun _ => false) (opp_as (v := .err _) rfl rfl) rfl rfl ?_
    refine And.intro (by kernel_rfl) ?_
    refine awp_ret ?_
    repeat (first | refine athen_ret ?_ | refine ain_ret ?_)
    first
      | refine apost_ret (aend (l := [.agg _, .agg _, .err _]) (.cell rfl rfl rfl (by exact True.intro) rfl ty55 (.cell rfl rfl rfl (by exact True.intro) rfl ty26 (.tmp .nil))) (fun h => by cases h) (.cons (.noN rfl rfl) (.cons (.noN rfl rfl) (.cons (.noN rfl rfl) .nil))) ⟨Wk.v ?_, rfl, rfl⟩)
      | refine apost_ret (aends (l := [.agg _, .agg _, .err _]) (.cell rfl rfl rfl (by exact True.intro) rfl ty55 (.cell rfl rfl rfl (by exact True.intro) rfl ty26 (.tmp .nil))) (fun h => by cases h) (.cons shut (fun h => by cases h) (.cons shut (fun h => by cases h) (.cons shut (fun h => by cases h) .nil))) rfl ⟨Wk.v ?_, rfl, rfl⟩)
    rw [show Sp.take r n = (Sp.zeroR, Sp.zero, 9) by simp [Sp.take, hc3]]; show Wk _ (.tup [recvAV true Sp.zeroR, noteAV Sp.zero, .err (.code 9)]); simp only [ne_eq,  not_false_eq_true, decide_true, recvAV, stageAV, noteAV, Sp.zeroR, Sp.zeroS, Sp.zero, xidAV, List.length_nil]; (repeat' (first | exact Wk.refl | exact Wk.sl0 | apply Wk.tup | apply Wk.agg | apply WkL.cons | exact WkL.nil | refine Wk.sl (fun _ _ => ?_)))
  · try simp only [cmpI, errD_nil, Bool.not_eq_true', Bool.not_eq_false', decide_eq_true_eq, decide_eq_false_iff_not] at hc3; have ht13 := hc3
    refine awp_skip ?_
    refine awp_seq ?_
    refine awp_seq ?_
    refine awp_region rfl ?_
    first
      | refine sP (opp_loadP rfl rfl rfl rfl bi rfl ty26) rfl rfl ?_
      | refine sP (opp_loadF rfl rfl ty26) rfl rfl ?_
    refine sR (opr_call rfl rfl ent47 rfl (c47 _ hG4 hG8) (AViews.refl _ rfl)) rfl rfl rfl ?_ -- d=18 t=29
    refine sP (opp_as (v := .err _) rfl rfl) rfl rfl ?_
    refine awp_seq ?_
    refine awp_region rfl ?_
    refine sP (opp_mv (v := .err _) rfl rfl) rfl rfl ?_
    refine sP (opp_errNil rfl rfl rfl un29 (.inr ⟨rfl, rfl⟩)) rfl rfl ?_
    refine awp_cond _ rfl (fun hc7 => ?_) (fun hc7 => ?_)
    · try simp only [cmpI, errD_nil, Bool.not_eq_true', Bool.not_eq_false', decide_eq_true_eq, decide_eq_false_iff_not] at hc7; have ht20 := hc7
      refine awp_seq ?_
      refine awp_region rfl ?_
      refine sP (opp_build rfl z55 bld55 rfl [.bool false, .agg [.int .i64 0, .int .i64 0, .int .i64 0, .agg [.int .i64 0, .int .i64 0, .int .i64 0], .sl 1 true 0 (fun _ => .top)]] rfl) rfl rfl ?_
      refine sP (opp_build rfl z26 bld26 rfl [.int .i64 0, .int .i64 0, .agg [.int .i64 0, .int .i64 0, .int .i64 0], .int .i64 0, .int .i64 0, .int .i64 0, .int .u32 0, .str []] rfl) rfl rfl ?_
      refine sP (opp_mv (v := .err _) rfl rfl) rfl rfl ?_
      refine sR0 (opr_store (v := .agg _) (trn := (.agg _)) rfl rfl rfl rfl bi rfl rfl rfl rfl fr2 ty55 (fun _ _ h => h)) rfl rfl rfl ?_
      refine sR0 (opr_store (v := .agg _) (trn := (.agg _)) rfl rfl rfl rfl bi rfl rfl rfl rfl fr2 ty26 (fun _ _ h => h)) rfl rfl rfl ?_
      refine sP (opp_as (v := .err _) rfl rfl) rfl rfl ?_
      refine awp_ret ?_
      repeat (first | refine athen_ret ?_ | refine ain_ret ?_)
      first
        | refine apost_ret (aend (l := [.agg _, .agg _, .err _]) (.cell rfl rfl rfl (by exact True.intro) rfl ty55 (.cell rfl rfl rfl (by exact True.intro) rfl ty26 (.tmp .nil))) (fun h => by cases h) (.cons (.noN rfl rfl) (.cons (.noN rfl rfl) (.cons (.noN rfl rfl) .nil))) ⟨Wk.v ?_, rfl, rfl⟩)
        | refine apost_ret (aends (l := [.agg _, .agg _, .err _]) (.cell rfl rfl rfl (by exact True.intro) rfl ty55 (.cell rfl rfl rfl (by exact True.intro) rfl ty26 (.tmp .nil))) (fun h => by cases h) (.cons shut (fun h => by cases h) (.cons shut (fun h => by cases h) (.cons shut (fun h => by cases h) .nil))) rfl ⟨Wk.v ?_, rfl, rfl⟩)
      rw [show Sp.take r n = (Sp.zeroR, Sp.zero, Sp.check n) by simp [Sp.take, hc3, hc7]]; simp only [ne_eq, hc7, not_false_eq_true, decide_true, recvAV, stageAV, noteAV, Sp.zeroR, Sp.zeroS, Sp.zero, xidAV, List.length_nil]; (repeat' (first | exact Wk.refl | exact Wk.sl0 | apply Wk.tup | apply Wk.agg | apply WkL.cons | exact WkL.nil | refine Wk.sl (fun _ _ => ?_)))
    · try simp only [cmpI, errD_nil, Bool.not_eq_true', Bool.not_eq_false', decide_eq_true_eq, decide_eq_false_iff_not] at hc7; have ht20 := hc7
      refine awp_skip ?_
      refine awp_seq ?_
      refine awp_seq ?_
      refine awp_region rfl ?_
      first
        | refine sP (opp_fieldP rfl rfl fld26_0 rfl) rfl rfl ?_
        | refine sP (opp_fieldF rfl rfl rfl fld26_0 rfl rfl) rfl rfl ?_
      first
        | refine sP (opp_loadP rfl rfl rfl rfl bi rfl ty3) rfl rfl ?_
        | refine sP (opp_loadF rfl rfl ty3) rfl rfl ?_
      refine sP (opp_cmp rfl rfl rfl rfl) rfl rfl ?_
      refine awp_cond _ rfl (fun hc10 => ?_) (fun hc10 => ?_)
      · try simp only [cmpI, errD_nil, Bool.not_eq_true', Bool.not_eq_false', decide_eq_true_eq, decide_eq_false_iff_not] at hc10; have ht26 := hc10
        refine awp_seq ?_
        refine awp_draw hmix rfl (by kernel_rfl) ?_
        refine dP (fun _ => false) (opp_build rfl z55 bld55 rfl [.bool false, .agg [.int .i64 0, .int .i64 0, .int .i64 0, .agg [.int .i64 0, .int .i64 0, .int .i64 0], .sl 1 true 0 (fun _ => .top)]] rfl) rfl rfl ?_
        refine dP (fun _ => false) (opp_build rfl z26 bld26 rfl [.int .i64 0, .int .i64 0, .agg [.int .i64 0, .int .i64 0, .int .i64 0], .int .i64 0, .int .i64 0, .int .i64 0, .int .u32 0, .str []] rfl) rfl rfl ?_
        refine dP (fun _ => false) (opp_loadF rfl (ev_glob hG4) ty29) rfl rfl ?_
        refine dR0 (fun n => Nat.beq n 4) (opr_store (v := .agg _) (trn := (.agg _)) rfl rfl rfl rfl bi rfl rfl rfl rfl fr2 ty55 (fun _ _ h => h)) rfl rfl rfl ?_
        refine dR0 (fun n => Nat.beq n 5) (opr_store (v := .agg _) (trn := (.agg _)) rfl rfl rfl rfl bi rfl rfl rfl rfl fr2 ty26 (fun _ _ h => h)) rfl rfl rfl ?_
        refine dP (fun _ => false) (opp_as (v := .err _) rfl rfl) rfl rfl ?_
        refine And.intro (by kernel_rfl) ?_
        refine awp_ret ?_
        repeat (first | refine athen_ret ?_ | refine ain_ret ?_)
        first
          | refine apost_ret (aend (l := [.agg _, .agg _, .err _]) (.cell rfl rfl rfl (by exact True.intro) rfl ty55 (.cell rfl rfl rfl (by exact True.intro) rfl ty26 (.tmp .nil))) (fun h => by cases h) (.cons (.noN rfl rfl) (.cons (.noN rfl rfl) (.cons (.noN rfl rfl) .nil))) ⟨Wk.v ?_, rfl, rfl⟩)
          | refine apost_ret (aends (l := [.agg _, .agg _, .err _]) (.cell rfl rfl rfl (by exact True.intro) rfl ty55 (.cell rfl rfl rfl (by exact True.intro) rfl ty26 (.tmp .nil))) (fun h => by cases h) (.cons shut (fun h => by cases h) (.cons shut (fun h => by cases h) (.cons shut (fun h => by cases h) .nil))) rfl ⟨Wk.v ?_, rfl, rfl⟩)
        rw [show Sp.take r n = (Sp.zeroR, Sp.zero, 7) by simp [Sp.take, hc3, hc7, hc10]]; show Wk _ (.tup [recvAV true Sp.zeroR, noteAV Sp.zero, .err (.code 7)]); simp only [ne_eq,  not_false_eq_true, decide_true, recvAV, stageAV, noteAV, Sp.zeroR, Sp.zeroS, Sp.zero, xidAV, List.length_nil]; (repeat' (first | exact Wk.refl | exact Wk.sl0 | apply Wk.tup | apply Wk.agg | apply WkL.cons | exact WkL.nil | refine Wk.sl (fun _ _ => ?_)))
      · try simp only [cmpI, errD_nil, Bool.not_eq_true', Bool.not_eq_false', decide_eq_true_eq, decide_eq_false_iff_not] at hc10; have ht26 := hc10
        refine awp_skip ?_
        refine awp_seq ?_
        refine awp_region rfl ?_
        first
          | refine sP (opp_fieldP rfl rfl fld55_1 rfl) rfl rfl ?_
          | refine sP (opp_fieldF rfl rfl rfl fld55_1 rfl rfl) rfl rfl ?_
        first
          | refine sP (opp_loadP rfl rfl rfl rfl bi rfl ty53) rfl rfl ?_
          | refine sP (opp_loadF rfl rfl ty53) rfl rfl ?_
        refine sR (opr_alloc (n := 8) rfl z53) rfl rfl rfl ?_
        refine sR0 (opr_store (v := .agg _) (trn := (.agg _)) rfl rfl rfl rfl bi rfl rfl rfl rfl fr2 ty53 (fun _ _ h => h)) rfl rfl rfl ?_
        refine awp_seq ?_
        refine awp_region rfl ?_
        refine sP (opp_as (v := .err _) rfl rfl) rfl rfl ?_
        refine awp_seq ?_
        refine awp_seq ?_
        refine awp_region rfl ?_
        first
          | refine sP (opp_fieldP rfl rfl fld55_0 rfl) rfl rfl ?_
          | refine sP (opp_fieldF rfl rfl rfl fld55_0 rfl rfl) rfl rfl ?_
        first
          | refine sP (opp_loadP rfl rfl rfl rfl bi rfl ty4) rfl rfl ?_
          | refine sP (opp_loadF rfl rfl ty4) rfl rfl ?_
        refine sP (opp_mv (v := .bool _) rfl rfl) rfl rfl ?_
        first
          | refine sG _ rfl rfl rfl rfl (fun hg => (And.intro gi (True.intro))) (fun hg => opp_fieldP rfl rfl fld53_0 rfl) ?_
          | refine sG _ rfl rfl rfl rfl (fun hg => (And.intro gi (True.intro))) (fun hg => opp_fieldF rfl rfl rfl fld53_0 rfl rfl) ?_
        first
          | refine sG _ rfl rfl rfl rfl (fun hg => (And.intro gi (True.intro))) (fun hg => opp_loadP rfl rfl rfl rfl bi rfl ty3) ?_
          | refine sG _ rfl rfl rfl rfl (fun hg => (And.intro gi (True.intro))) (fun hg => opp_loadF rfl rfl ty3) ?_
        first
          | refine sG _ rfl rfl rfl rfl (fun hg => (And.intro gi (True.intro))) (fun hg => opp_fieldP rfl rfl fld26_1 rfl) ?_
          | refine sG _ rfl rfl rfl rfl (fun hg => (And.intro gi (True.intro))) (fun hg => opp_fieldF rfl rfl rfl fld26_1 rfl rfl) ?_
        first
          | refine sG _ rfl rfl rfl rfl (fun hg => (And.intro gi (True.intro))) (fun hg => opp_loadP rfl rfl rfl rfl bi rfl ty3) ?_
          | refine sG _ rfl rfl rfl rfl (fun hg => (And.intro gi (True.intro))) (fun hg => opp_loadF rfl rfl ty3) ?_
        refine sG _ rfl rfl rfl rfl (fun hg => (And.intro gi (And.intro gi (True.intro)))) (fun hg => opp_cmp rfl rfl rfl rfl) ?_
        refine sPick rfl rfl rfl rfl (by exact True.intro) rfl rfl (fun hg => gi) (fun hg => gi) ?_
        refine sP (opp_mv (v := .bool _) rfl rfl) rfl rfl ?_
        first
          | refine sG _ rfl rfl rfl rfl (fun hg => (And.intro gi (True.intro))) (fun hg => opp_fieldP rfl rfl fld53_3 rfl) ?_
          | refine sG _ rfl rfl rfl rfl (fun hg => (And.intro gi (True.intro))) (fun hg => opp_fieldF rfl rfl rfl fld53_3 rfl rfl) ?_
        first
          | refine sG _ rfl rfl rfl rfl (fun hg => (And.intro gi (True.intro))) (fun hg => opp_loadP rfl rfl rfl rfl bi rfl ty23) ?_
          | refine sG _ rfl rfl rfl rfl (fun hg => (And.intro gi (True.intro))) (fun hg => opp_loadF rfl rfl ty23) ?_
        first
          | refine sG _ rfl rfl rfl rfl (fun hg => (And.intro gi (True.intro))) (fun hg => opp_fieldP rfl rfl fld26_2 rfl) ?_
          | refine sG _ rfl rfl rfl rfl (fun hg => (And.intro gi (True.intro))) (fun hg => opp_fieldF rfl rfl rfl fld26_2 rfl rfl) ?_
        first
          | refine sG _ rfl rfl rfl rfl (fun hg => (And.intro gi (True.intro))) (fun hg => opp_loadP rfl rfl rfl rfl bi rfl ty23) ?_
          | refine sG _ rfl rfl rfl rfl (fun hg => (And.intro gi (True.intro))) (fun hg => opp_loadF rfl rfl ty23) ?_
        refine sG _ rfl rfl rfl rfl (fun hg => (And.intro gi (And.intro gi (True.intro)))) (fun hg => opp_eqAgg rfl rfl rfl (eq23 ..) eg23 rfl (.inl ⟨rfl, rfl⟩)) ?_
        refine sPick rfl rfl rfl rfl (by exact True.intro) rfl rfl (fun hg => gi) (fun hg => gi) ?_
        refine sP (opp_mv (v := .bool _) rfl rfl) rfl rfl ?_
        first
          | refine sG _ rfl rfl rfl rfl (fun hg => (And.intro gi (True.intro))) (fun hg => opp_fieldP rfl rfl fld53_1 rfl) ?_
          | refine sG _ rfl rfl rfl rfl (fun hg => (And.intro gi (True.intro))) (fun hg => opp_fieldF rfl rfl rfl fld53_1 rfl rfl) ?_
        first
          | refine sG _ rfl rfl rfl rfl (fun hg => (And.intro gi (True.intro))) (fun hg => opp_loadP rfl rfl rfl rfl bi rfl ty3) ?_
          | refine sG _ rfl rfl rfl rfl (fun hg => (And.intro gi (True.intro))) (fun hg => opp_loadF rfl rfl ty3) ?_
        first
          | refine sG _ rfl rfl rfl rfl (fun hg => (And.intro gi (True.intro))) (fun hg => opp_fieldP rfl rfl fld26_3 rfl) ?_
          | refine sG _ rfl rfl rfl rfl (fun hg => (And.intro gi (True.intro))) (fun hg => opp_fieldF rfl rfl rfl fld26_3 rfl rfl) ?_
        first
          | refine sG _ rfl rfl rfl rfl (fun hg => (And.intro gi (True.intro))) (fun hg => opp_loadP rfl rfl rfl rfl bi rfl ty3) ?_
          | refine sG _ rfl rfl rfl rfl (fun hg => (And.intro gi (True.intro))) (fun hg => opp_loadF rfl rfl ty3) ?_
        refine sG _ rfl rfl rfl rfl (fun hg => (And.intro gi (And.intro gi (True.intro)))) (fun hg => opp_cmp rfl rfl rfl rfl) ?_
        refine sPick rfl rfl rfl rfl (by exact True.intro) rfl rfl (fun hg => gi) (fun hg => gi) ?_
        refine sP (opp_mv (v := .bool _) rfl rfl) rfl rfl ?_
        first
          | refine sG _ rfl rfl rfl rfl (fun hg => (And.intro gi (True.intro))) (fun hg => opp_fieldP rfl rfl fld53_2 rfl) ?_
          | refine sG _ rfl rfl rfl rfl (fun hg => (And.intro gi (True.intro))) (fun hg => opp_fieldF rfl rfl rfl fld53_2 rfl rfl) ?_
        first
          | refine sG _ rfl rfl rfl rfl (fun hg => (And.intro gi (True.intro))) (fun hg => opp_loadP rfl rfl rfl rfl bi rfl ty3) ?_
          | refine sG _ rfl rfl rfl rfl (fun hg => (And.intro gi (True.intro))) (fun hg => opp_loadF rfl rfl ty3) ?_
        first
          | refine sG _ rfl rfl rfl rfl (fun hg => (And.intro gi (True.intro))) (fun hg => opp_fieldP rfl rfl fld26_5 rfl) ?_
          | refine sG _ rfl rfl rfl rfl (fun hg => (And.intro gi (True.intro))) (fun hg => opp_fieldF rfl rfl rfl fld26_5 rfl rfl) ?_
        first
          | refine sG _ rfl rfl rfl rfl (fun hg => (And.intro gi (True.intro))) (fun hg => opp_loadP rfl rfl rfl rfl bi rfl ty3) ?_
          | refine sG _ rfl rfl rfl rfl (fun hg => (And.intro gi (True.intro))) (fun hg => opp_loadF rfl rfl ty3) ?_
        refine sG _ rfl rfl rfl rfl (fun hg => (And.intro gi (And.intro gi (True.intro)))) (fun hg => opp_cmp rfl rfl rfl rfl) ?_
        refine sPick rfl rfl rfl rfl (by exact True.intro) rfl rfl (fun hg => gi) (fun hg => gi) ?_
        refine awp_cond _ rfl (fun hc15 => ?_) (fun hc15 => ?_)
        · try simp only [cmpI, errD_nil, Bool.not_eq_true', Bool.not_eq_false', decide_eq_true_eq, decide_eq_false_iff_not] at hc15; have ht61 := hc15
          refine awp_region rfl ?_
          first
            | refine sP (opp_loadP rfl rfl rfl rfl bi rfl ty53) rfl rfl ?_
            | refine sP (opp_loadF rfl rfl ty53) rfl rfl ?_
          first
            | refine sP (opp_loadP rfl rfl rfl rfl bi rfl ty26) rfl rfl ?_
            | refine sP (opp_loadF rfl rfl ty26) rfl rfl ?_
          refine sR (opr_call rfl rfl ent42 rfl (c42 b r.stage n h1 hG3 hG4 hG5 hG7 hG8) (AViews.refl _ rfl)) rfl rfl rfl ?_ -- d=65 t=101
          refine sP (opp_mv (v := .tup _) rfl rfl) rfl rfl ?_
          refine sP (opp_extract rfl rfl rfl) rfl rfl ?_
          refine sP (opp_extract rfl rfl rfl) rfl rfl ?_
          refine sP (opp_extract rfl rfl rfl) rfl rfl ?_
          refine sR0 (opr_store (v := .agg _) (trn := (.agg _)) rfl rfl rfl rfl bi rfl rfl rfl rfl fr2 ty53 (fun _ _ h => h)) rfl rfl rfl ?_
          refine sP (opp_as (v := .err _) rfl rfl) rfl rfl ?_
          refine awp_seq ?_
          refine awp_seq ?_
          refine awp_region rfl ?_
          refine sP (opp_mv (v := .err _) rfl rfl) rfl rfl ?_
          refine sP (opp_errNil rfl rfl rfl un29 (.inr ⟨rfl, rfl⟩)) rfl rfl ?_
          refine awp_cond _ rfl (fun hc18 => ?_) (fun hc18 => ?_)
          · try simp only [cmpI, errD_nil, Bool.not_eq_true', Bool.not_eq_false', decide_eq_true_eq, decide_eq_false_iff_not] at hc18; have ht75 := hc18
            refine awp_seq ?_
            refine awp_region rfl ?_
            refine sP (opp_build rfl z55 bld55 rfl [.bool false, .agg [.int .i64 0, .int .i64 0, .int .i64 0, .agg [.int .i64 0, .int .i64 0, .int .i64 0], .sl 1 true 0 (fun _ => .top)]] rfl) rfl rfl ?_
            refine sP (opp_build rfl z26 bld26 rfl [.int .i64 0, .int .i64 0, .agg [.int .i64 0, .int .i64 0, .int .i64 0], .int .i64 0, .int .i64 0, .int .i64 0, .int .u32 0, .str []] rfl) rfl rfl ?_
            refine sP (opp_mv (v := .err _) rfl rfl) rfl rfl ?_
            refine sR0 (opr_store (v := .agg _) (trn := (.agg _)) rfl rfl rfl rfl bi rfl rfl rfl rfl fr2 ty55 (fun _ _ h => h)) rfl rfl rfl ?_
            refine sR0 (opr_store (v := .agg _) (trn := (.agg _)) rfl rfl rfl rfl bi rfl rfl rfl rfl fr2 ty26 (fun _ _ h => h)) rfl rfl rfl ?_
            refine sP (opp_as (v := .err _) rfl rfl) rfl rfl ?_
            refine awp_ret ?_
            repeat (first | refine athen_ret ?_ | refine ain_ret ?_)
            first
              | refine apost_ret (aend (l := [.agg _, .agg _, .err _]) (.cell rfl rfl rfl (by exact True.intro) rfl ty55 (.cell rfl rfl rfl (by exact True.intro) rfl ty26 (.tmp .nil))) (fun h => by cases h) (.cons (.noN rfl rfl) (.cons (.noN rfl rfl) (.cons (.noN rfl rfl) .nil))) ⟨Wk.v ?_, rfl, rfl⟩)
              | refine apost_ret (aends (l := [.agg _, .agg _, .err _]) (.cell rfl rfl rfl (by exact True.intro) rfl ty55 (.cell rfl rfl rfl (by exact True.intro) rfl ty26 (.tmp .nil))) (fun h => by cases h) (.cons shut (fun h => by cases h) (.cons shut (fun h => by cases h) (.cons shut (fun h => by cases h) .nil))) rfl ⟨Wk.v ?_, rfl, rfl⟩)
            have hco : Sp.come r n = ((Sp.add r.stage n).1, (Sp.add r.stage n).2.2) := if_pos (by rw [Xid.eq_iff]; simpa [and_assoc] using hc15)
            rw [show Sp.take r n = (Sp.zeroR, Sp.zero, (Sp.add r.stage n).2.2) by simp [Sp.take, hc3, hc7, hc10, hco, hc18]]; simp only [ne_eq, hc18, not_false_eq_true, decide_true, recvAV, stageAV, noteAV, Sp.zeroR, Sp.zeroS, Sp.zero, xidAV, List.length_nil]; (repeat' (first | exact Wk.refl | exact Wk.sl0 | apply Wk.tup | apply Wk.agg | apply WkL.cons | exact WkL.nil | refine Wk.sl (fun _ _ => ?_)))
          · try simp only [cmpI, errD_nil, Bool.not_eq_true', Bool.not_eq_false', decide_eq_true_eq, decide_eq_false_iff_not] at hc18; have ht75 := hc18
            refine awp_skip ?_
            refine awp_seq ?_
            refine awp_region rfl ?_
            first
              | refine sP (opp_loadP rfl rfl rfl rfl bi rfl ty26) rfl rfl ?_
              | refine sP (opp_loadF rfl rfl ty26) rfl rfl ?_
            refine sR (opr_call rfl rfl ent50 rfl (c50 _ _ _ hG2 hG4 hG8) (AViews.refl _ rfl)) rfl rfl rfl ?_ -- d=81 t=30
            refine sP (opp_mv (v := .tup _) rfl rfl) rfl rfl ?_
            refine sP (opp_extract rfl rfl rfl) rfl rfl ?_
            refine sP (opp_extract rfl rfl rfl) rfl rfl ?_
            refine sR (opr_alloc (n := 10) rfl z26) rfl rfl rfl ?_
            refine sR0 (opr_store (v := .agg _) (trn := (.agg _)) rfl rfl rfl rfl bi rfl rfl rfl rfl fr2 ty26 (fun _ _ h => h)) rfl rfl rfl ?_
            refine sP (opp_as (v := .err _) rfl rfl) rfl rfl ?_
            refine awp_seq ?_
            refine awp_draw hmix rfl (by kernel_rfl) ?_
            first
              | refine dP (fun n => Nat.beq n 8) (opp_loadP rfl rfl rfl rfl bi rfl ty53) rfl rfl ?_
              | refine dP (fun n => Nat.beq n 8) (opp_loadF rfl rfl ty53) rfl rfl ?_
            refine dP (fun _ => false) (opp_build rfl z55 bld55 rfl [.bool _, .agg _] rfl) rfl rfl ?_
            first
              | refine dP (fun n => Nat.beq n 10) (opp_loadP rfl rfl rfl rfl bi rfl ty26) rfl rfl ?_
              | refine dP (fun n => Nat.beq n 10) (opp_loadF rfl rfl ty26) rfl rfl ?_
            refine dP (fun _ => false) (opp_mv (v := .err _) rfl rfl) rfl rfl ?_
            refine dR0 (fun n => Nat.beq n 4) (opr_store (v := .agg _) (trn := (.agg _)) rfl rfl rfl rfl bi rfl rfl rfl rfl fr2 ty55 (fun _ _ h => h)) rfl rfl rfl ?_
            refine dR0 (fun n => Nat.beq n 5) (opr_store (v := .agg _) (trn := (.agg _)) rfl rfl rfl rfl bi rfl rfl rfl rfl fr2 ty26 (fun _ _ h => h)) rfl rfl rfl ?_
            refine dP (fun _ => false) (opp_as (v := .err _) rfl rfl) rfl rfl ?_
            refine And.intro (by kernel_rfl) ?_
            refine awp_ret ?_
            repeat (first | refine athen_ret ?_ | refine ain_ret ?_)
            first
              | refine apost_ret (aend (l := [.agg _, .agg _, .err _]) (.cell rfl rfl rfl (by exact True.intro) rfl ty55 (.cell rfl rfl rfl (by exact True.intro) rfl ty26 (.tmp .nil))) (fun h => by cases h) (.cons (.noN rfl rfl) (.cons (.noN rfl rfl) (.cons (.noN rfl rfl) .nil))) ⟨Wk.v ?_, rfl, rfl⟩)
              | refine apost_ret (aends (l := [.agg _, .agg _, .err _]) (.cell rfl rfl rfl (by exact True.intro) rfl ty55 (.cell rfl rfl rfl (by exact True.intro) rfl ty26 (.tmp .nil))) (fun h => by cases h) (.cons shut (fun h => by cases h) (.cons shut (fun h => by cases h) (.cons shut (fun h => by cases h) .nil))) rfl ⟨Wk.v ?_, rfl, rfl⟩)
            have hco : Sp.come r n = ((Sp.add r.stage n).1, (Sp.add r.stage n).2.2) := if_pos (by rw [Xid.eq_iff]; simpa [and_assoc] using hc15)
            have ha := Sp.answer_ack hc7 hc10
            rw [show Sp.take r n = (⟨true, (Sp.add r.stage n).1⟩, (Sp.answer n 7 0).1, 0) by simp [Sp.take, hc3, hc7, hc10, hco, hc18, ha]]
            simp only [ha, hc18, ne_eq, not_true_eq_false, decide_false, recvAV, stageAV, noteAV, xidAV, errD, if_true]; (repeat' (first | exact Wk.refl | exact Wk.sl0 | apply Wk.tup | apply Wk.agg | apply WkL.cons | exact WkL.nil | refine Wk.sl (fun _ _ => ?_)))
        · try simp only [cmpI, errD_nil, Bool.not_eq_true', Bool.not_eq_false', decide_eq_true_eq, decide_eq_false_iff_not] at hc15; have ht61 := hc15
          refine awp_region rfl ?_
          first
            | refine sP (opp_loadP rfl rfl rfl rfl bi rfl ty26) rfl rfl ?_
            | refine sP (opp_loadF rfl rfl ty26) rfl rfl ?_
          refine sR (opr_call rfl rfl ent41 rfl (c41 _ hG4 hG8) (AViews.refl _ rfl)) rfl rfl rfl ?_ -- d=71 t=99
          refine sP (opp_mv (v := .tup _) rfl rfl) rfl rfl ?_
          refine sP (opp_extract rfl rfl rfl) rfl rfl ?_
          refine sP (opp_extract rfl rfl rfl) rfl rfl ?_
          refine sR0 (opr_store (v := .agg _) (trn := (.agg _)) rfl rfl rfl rfl bi rfl rfl rfl rfl fr2 ty53 (fun _ _ h => h)) rfl rfl rfl ?_
          refine sP (opp_as (v := .err _) rfl rfl) rfl rfl ?_
          refine awp_seq ?_
          refine awp_seq ?_
          refine awp_region rfl ?_
          refine sP (opp_mv (v := .err _) rfl rfl) rfl rfl ?_
          refine sP (opp_errNil rfl rfl rfl un29 (.inr ⟨rfl, rfl⟩)) rfl rfl ?_
          refine awp_cond _ rfl (fun hc24 => ?_) (fun hc24 => ?_)
          · try simp only [cmpI, errD_nil, Bool.not_eq_true', Bool.not_eq_false', decide_eq_true_eq, decide_eq_false_iff_not] at hc24; have ht75 := hc24
            refine awp_seq ?_
            refine awp_region rfl ?_
            refine sP (opp_build rfl z55 bld55 rfl [.bool false, .agg [.int .i64 0, .int .i64 0, .int .i64 0, .agg [.int .i64 0, .int .i64 0, .int .i64 0], .sl 1 true 0 (fun _ => .top)]] rfl) rfl rfl ?_
            refine sP (opp_build rfl z26 bld26 rfl [.int .i64 0, .int .i64 0, .agg [.int .i64 0, .int .i64 0, .int .i64 0], .int .i64 0, .int .i64 0, .int .i64 0, .int .u32 0, .str []] rfl) rfl rfl ?_
            refine sP (opp_mv (v := .err _) rfl rfl) rfl rfl ?_
            refine sR0 (opr_store (v := .agg _) (trn := (.agg _)) rfl rfl rfl rfl bi rfl rfl rfl rfl fr2 ty55 (fun _ _ h => h)) rfl rfl rfl ?_
            refine sR0 (opr_store (v := .agg _) (trn := (.agg _)) rfl rfl rfl rfl bi rfl rfl rfl rfl fr2 ty26 (fun _ _ h => h)) rfl rfl rfl ?_
            refine sP (opp_as (v := .err _) rfl rfl) rfl rfl ?_
            refine awp_ret ?_
            repeat (first | refine athen_ret ?_ | refine ain_ret ?_)
            first
              | refine apost_ret (aend (l := [.agg _, .agg _, .err _]) (.cell rfl rfl rfl (by exact True.intro) rfl ty55 (.cell rfl rfl rfl (by exact True.intro) rfl ty26 (.tmp .nil))) (fun h => by cases h) (.cons (.noN rfl rfl) (.cons (.noN rfl rfl) (.cons (.noN rfl rfl) .nil))) ⟨Wk.v ?_, rfl, rfl⟩)
              | refine apost_ret (aends (l := [.agg _, .agg _, .err _]) (.cell rfl rfl rfl (by exact True.intro) rfl ty55 (.cell rfl rfl rfl (by exact True.intro) rfl ty26 (.tmp .nil))) (fun h => by cases h) (.cons shut (fun h => by cases h) (.cons shut (fun h => by cases h) (.cons shut (fun h => by cases h) .nil))) rfl ⟨Wk.v ?_, rfl, rfl⟩)
            have hco : Sp.come r n = Sp.begin_ n := if_neg (by rw [Xid.eq_iff]; intro h; simp [h] at hc15)
            rw [show Sp.take r n = (Sp.zeroR, Sp.zero, (Sp.begin_ n).2) by simp [Sp.take, hc3, hc7, hc10, hco, hc24]]; simp only [ne_eq, hc24, not_false_eq_true, decide_true, recvAV, stageAV, noteAV, Sp.zeroR, Sp.zeroS, Sp.zero, xidAV, List.length_nil]; (repeat' (first | exact Wk.refl | exact Wk.sl0 | apply Wk.tup | apply Wk.agg | apply WkL.cons | exact WkL.nil | refine Wk.sl (fun _ _ => ?_)))
          · try simp only [cmpI, errD_nil, Bool.not_eq_true', Bool.not_eq_false', decide_eq_true_eq, decide_eq_false_iff_not] at hc24; have ht75 := hc24
            refine awp_skip ?_
            refine awp_seq ?_
            refine awp_region rfl ?_
            first
              | refine sP (opp_loadP rfl rfl rfl rfl bi rfl ty26) rfl rfl ?_
              | refine sP (opp_loadF rfl rfl ty26) rfl rfl ?_
            refine sR (opr_call rfl rfl ent50 rfl (c50 _ _ _ hG2 hG4 hG8) (AViews.refl _ rfl)) rfl rfl rfl ?_ -- d=81 t=30
            refine sP (opp_mv (v := .tup _) rfl rfl) rfl rfl ?_
            refine sP (opp_extract rfl rfl rfl) rfl rfl ?_
            refine sP (opp_extract rfl rfl rfl) rfl rfl ?_
            refine sR (opr_alloc (n := 10) rfl z26) rfl rfl rfl ?_
            refine sR0 (opr_store (v := .agg _) (trn := (.agg _)) rfl rfl rfl rfl bi rfl rfl rfl rfl fr2 ty26 (fun _ _ h => h)) rfl rfl rfl ?_
            refine sP (opp_as (v := .err _) rfl rfl) rfl rfl ?_
            refine awp_seq ?_
            refine awp_draw hmix rfl (by kernel_rfl) ?_
            first
              | refine dP (fun n => Nat.beq n 8) (opp_loadP rfl rfl rfl rfl bi rfl ty53) rfl rfl ?_
              | refine dP (fun n => Nat.beq n 8) (opp_loadF rfl rfl ty53) rfl rfl ?_
            refine dP (fun _ => false) (opp_build rfl z55 bld55 rfl [.bool _, .agg _] rfl) rfl rfl ?_
            first
              | refine dP (fun n => Nat.beq n 10) (opp_loadP rfl rfl rfl rfl bi rfl ty26) rfl rfl ?_
              | refine dP (fun n => Nat.beq n 10) (opp_loadF rfl rfl ty26) rfl rfl ?_
            refine dP (fun _ => false) (opp_mv (v := .err _) rfl rfl) rfl rfl ?_
            refine dR0 (fun n => Nat.beq n 4) (opr_store (v := .agg _) (trn := (.agg _)) rfl rfl rfl rfl bi rfl rfl rfl rfl fr2 ty55 (fun _ _ h => h)) rfl rfl rfl ?_
            refine dR0 (fun n => Nat.beq n 5) (opr_store (v := .agg _) (trn := (.agg _)) rfl rfl rfl rfl bi rfl rfl rfl rfl fr2 ty26 (fun _ _ h => h)) rfl rfl rfl ?_
            refine dP (fun _ => false) (opp_as (v := .err _) rfl rfl) rfl rfl ?_
            refine And.intro (by kernel_rfl) ?_
            refine awp_ret ?_
            repeat (first | refine athen_ret ?_ | refine ain_ret ?_)
            first
              | refine apost_ret (aend (l := [.agg _, .agg _, .err _]) (.cell rfl rfl rfl (by exact True.intro) rfl ty55 (.cell rfl rfl rfl (by exact True.intro) rfl ty26 (.tmp .nil))) (fun h => by cases h) (.cons (.noN rfl rfl) (.cons (.noN rfl rfl) (.cons (.noN rfl rfl) .nil))) ⟨Wk.v ?_, rfl, rfl⟩)
              | refine apost_ret (aends (l := [.agg _, .agg _, .err _]) (.cell rfl rfl rfl (by exact True.intro) rfl ty55 (.cell rfl rfl rfl (by exact True.intro) rfl ty26 (.tmp .nil))) (fun h => by cases h) (.cons shut (fun h => by cases h) (.cons shut (fun h => by cases h) (.cons shut (fun h => by cases h) .nil))) rfl ⟨Wk.v ?_, rfl, rfl⟩)
            have hco : Sp.come r n = Sp.begin_ n := if_neg (by rw [Xid.eq_iff]; intro h; simp [h] at hc15)
            have ha := Sp.answer_ack hc7 hc10
            rw [show Sp.take r n = (⟨true, (Sp.begin_ n).1⟩, (Sp.answer n 7 0).1, 0) by simp [Sp.take, hc3, hc7, hc10, hco, hc24, ha]]
            simp only [ha, hc24, ne_eq, not_true_eq_false, decide_false, recvAV, stageAV, noteAV, xidAV, errD, if_true]; (repeat' (first | exact Wk.refl | exact Wk.sl0 | apply Wk.tup | apply Wk.agg | apply WkL.cons | exact WkL.nil | refine Wk.sl (fun _ _ => ?_)))
end
end Go.Proofs.YtgaihhimkodmmaaDoor

