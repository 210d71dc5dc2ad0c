/- My own texts, packed: KYx, KZx, K6x, K7x, K8x, KBx, L1x, KKx, KCx, KDx, KEx, KLx, KFx, KMx, KHx, KNx, L2x, S10. -/
import Derived.Test.YtgaihhimkodmmaaGreatDoorM6
import Derived.Test.YtgaihhimkodmmaaGreatDoorM3
import Derived.Test.YtgaihhimkodmmaaGreatDoorM1
import Derived.Test.YtgaihhimkodmmaaGreatDoorM4
import Derived.Test.YtgaihhimkodmmaaGreatDoorM5
/- Layer 20: a note's bytes (walks over this dump). -/
namespace Go.Proofs.YtgaihhimkodmmaaGreatDoor
attribute [local irreducible] Tryz.prog
open Go.Fy
set_option linter.unusedSimpArgs false
set_option linter.unusedVariables false
section
variable {ea : Nat → Addr} {cds : List Nat} {gl : Nat → Option AV}
theorem cbad22 (n : Note) (hc : Sp.check n ≠ 0) (hG7 : gl 7 = some (.err (.code 7))) (hG10 : gl 10 = some (.err (.code 4))) : APure (V ea cds gl) 22 [noteAV n] false (.tup [.str [], .err (errD (Sp.check n))]) := by
  refine acalls_of_body (N := 88) Tryz.func22 rfl rfl (Nat.le_of_ble_eq_true rfl) fun C hV hN hM hO => ?_
  obtain ⟨_, _, w0, G0, σ0, _, own0⟩ := C; dsimp only at hV hN hM hO; subst hV; subst hN; subst hM
  refine awp_seq ?_
  refine awp_region rfl ?_
  refine sR (opr_box (y := .agg _) (n := 1) rfl rfl rfl) rfl rfl rfl ?_
  refine sP (opp_as (v := .str _) rfl rfl) rfl rfl ?_
  refine sP (opp_as (v := .err _) rfl rfl) rfl rfl ?_
  refine awp_seq ?_
  refine awp_seq ?_
  refine awp_region rfl ?_
  first
    | refine sP (opp_loadP rfl rfl rfl rfl bi rfl ty29) rfl rfl ?_
    | refine sP (opp_loadF rfl rfl ty29) rfl rfl ?_
  refine sR (opr_call rfl rfl ent41 rfl (c41 _ hG7 hG10) (AViews.refl _ rfl)) rfl rfl rfl ?_ -- d=13 t=42
  refine sP (opp_as (v := .err _) rfl rfl) rfl rfl ?_
  refine awp_seq ?_
  refine awp_region rfl ?_
  refine sP (opp_mv (v := .err _) rfl rfl) rfl rfl ?_
  refine sP (opp_errNil rfl rfl rfl un42 (.inr ⟨rfl, rfl⟩)) rfl rfl ?_
  refine awp_cond _ rfl (fun hc4 => ?_) (fun hc4 => ?_)
  · (try simp only [cmpI, errD_nil, Bool.not_eq_true', Bool.not_eq_false', decide_eq_true_eq, decide_eq_false_iff_not] at hc4); have ht15 := hc4
    refine awp_seq ?_
    refine awp_region rfl ?_
    refine sP (opp_mv (v := .err _) rfl rfl) rfl rfl ?_
    refine sP (opp_as (v := .str _) rfl rfl) rfl rfl ?_
    refine sP (opp_as (v := .err _) rfl rfl) rfl rfl ?_
    refine awp_ret ?_
    repeat (first | refine athen_ret ?_ | refine ain_ret ?_)
    first
      | refine apost_ret (aend (l := [.str _, .err _]) (.tmp (.tmp .nil)) (fun h => by cases h) (.cons (.noN rfl rfl) (.cons (.noN rfl rfl) .nil)) ⟨Wk.v ?_, rfl, rfl⟩)
      | refine apost_ret (aends (l := [.str _, .err _]) (.tmp (.tmp .nil)) (fun h => by cases h) (.cons shut (fun h => by cases h) (.cons shut (fun h => by cases h) .nil)) rfl ⟨Wk.v ?_, rfl, rfl⟩)
    exact .refl
  · (try simp only [cmpI, errD_nil, Bool.not_eq_true', Bool.not_eq_false', decide_eq_true_eq, decide_eq_false_iff_not] at hc4); have ht15 := hc4
    exact absurd ht15 hc
theorem nums3 (a b c j : Nat) (hj : j < 3) (x : AV) : (if j = 2 then AV.int .i64 (c : Int) else if j = 1 then AV.int .i64 (b : Int) else if j = 0 then AV.int .i64 (a : Int) else x) = AV.int .i64 ((([a, b, c] : List Nat).getD j 0 : Nat) : Int) := by
  have : j = 0 ∨ j = 1 ∨ j = 2 := by omega
  rcases this with rfl | rfl | rfl <;> rfl
theorem cfine22 (k p bo pe nu st ix to su : Nat) (d : List UInt8) (hc : Sp.check ⟨k, p, ⟨bo, pe, nu⟩, st, ix, to, su, d⟩ = 0) (hs : su ≤ 4294967295) (hG7 : gl 7 = some (.err (.code 7))) (hG10 : gl 10 = some (.err (.code 4))) :
    APure (V ea cds gl) 22 [noteAV ⟨k, p, ⟨bo, pe, nu⟩, st, ix, to, su, d⟩] false (.tup [.str (Sp.crcSeal (Sp.noteBytes ⟨k, p, ⟨bo, pe, nu⟩, st, ix, to, su, d⟩)), .err .nil]) := by
  have hb := Sp.check_bounds hc
  dsimp only at hb
  refine acalls_of_body (N := 88) Tryz.func22 rfl rfl (Nat.le_of_ble_eq_true rfl) fun C hV hN hM hO => ?_
  obtain ⟨_, _, w0, G0, σ0, _, own0⟩ := C; dsimp only at hV hN hM hO; subst hV; subst hN; subst hM
  refine awp_seq ?_
  refine awp_region rfl ?_
  refine sR (opr_box (y := .agg _) (n := 1) rfl rfl rfl) rfl rfl rfl ?_
  refine sP (opp_as (v := .str _) rfl rfl) rfl rfl ?_
  refine sP (opp_as (v := .err _) rfl rfl) rfl rfl ?_
  refine awp_seq ?_
  refine awp_seq ?_
  refine awp_region rfl ?_
  first
    | refine sP (opp_loadP rfl rfl rfl rfl bi rfl ty29) rfl rfl ?_
    | refine sP (opp_loadF rfl rfl ty29) rfl rfl ?_
  refine sR (opr_call rfl rfl ent41 rfl (c41 _ hG7 hG10) (AViews.refl _ rfl)) rfl rfl rfl ?_ -- d=13 t=42
  refine sP (opp_as (v := .err _) rfl rfl) rfl rfl ?_
  refine awp_seq ?_
  refine awp_region rfl ?_
  refine sP (opp_mv (v := .err _) rfl rfl) rfl rfl ?_
  refine sP (opp_errNil rfl rfl rfl un42 (.inr ⟨rfl, rfl⟩)) rfl rfl ?_
  refine awp_cond _ rfl (fun hc4 => ?_) (fun hc4 => ?_)
  · (try simp only [cmpI, errD_nil, Bool.not_eq_true', Bool.not_eq_false', decide_eq_true_eq, decide_eq_false_iff_not] at hc4); have ht15 := hc4
    exact absurd hc ht15
  · (try simp only [cmpI, errD_nil, Bool.not_eq_true', Bool.not_eq_false', decide_eq_true_eq, decide_eq_false_iff_not] at hc4); have ht15 := hc4
    refine awp_skip ?_
    refine awp_seq ?_
    refine awp_region rfl ?_
    first
        | refine sR (opr_callO (rl := [(2, 17)]) (r1 := .val _) (H1 := [(17, some (.agg [.sl _ _ _ _, .err _]))]) (n1 := [17]) rfl rfl ent42 rfl co42 (AViews.refl _ rfl) rfl rfl rfl rfl) rfl rfl rfl ?_
        | refine sR (opr_callO (rl := [(2, 17)]) (r1 := .fptr _) (H1 := [(17, some (.agg [.sl _ _ _ _, .err _]))]) (n1 := [17]) rfl rfl ent42 rfl co42 (AViews.refl _ rfl) rfl rfl rfl rfl) rfl rfl rfl ?_
        | refine sR (opr_callO (rl := [(2, 17)]) (r1 := .ptr _ _ _) (H1 := [(17, some (.agg [.sl _ _ _ _, .err _]))]) (n1 := [17]) rfl rfl ent42 rfl co42 (AViews.refl _ rfl) rfl rfl rfl rfl) rfl rfl rfl ?_
    first
      | refine sP (opp_as (v := .ptr _ _ _) rfl rfl) rfl rfl ?_
      | refine sP (opp_as (v := .fptr _) rfl rfl) rfl rfl ?_
    refine awp_seq ?_
    refine awp_region rfl ?_
    first
      | refine sP (opp_mv (v := .ptr _ _ _) rfl rfl) rfl rfl ?_
      | refine sP (opp_mv (v := .fptr _) rfl rfl) rfl rfl ?_
    first
      | refine sP (opp_fieldP rfl rfl fld29_7 rfl) rfl rfl ?_
      | refine sP (opp_fieldF rfl rfl rfl fld29_7 rfl rfl) rfl rfl ?_
    first
      | refine sP (opp_loadP rfl rfl rfl rfl bi rfl ty9) rfl rfl ?_
      | refine sP (opp_loadF rfl rfl ty9) rfl rfl ?_
    refine sP (opp_lenStr rfl rfl un9) rfl rfl ?_
    first
      | refine sP (opp_arith rfl rfl rfl (.inl ⟨rfl, w64 (by omega)⟩)) rfl rfl ?_
      | refine sP (opp_arith rfl rfl rfl (.inl ⟨rfl, rfl⟩)) rfl rfl ?_
    rw [show IntKind.i64.wrap (27 + (d.length : Int)) = ((27 + d.length : Nat) : Int) by rw [w64 (by omega)]; omega]
    refine sR (opr_callG (rl := [(1, 17), (1004, 1023)]) (r1 := .tup []) (H1 := [(17, some (.agg [.osl 1023 _ _ _ _, .err _])), (1023, some (.arr _ _ _))]) (n1 := [1023]) rfl rfl ent43 (cg43n (27 + d.length) (by omega)) (And.intro (And.intro rfl wka) (And.intro (And.intro rfl wka) True.intro)) (And.intro (And.intro rfl (Exists.intro _ (And.intro rfl wkc))) True.intro) rfl rfl rfl rfl) rfl rfl rfl ?_
    refine awp_seq ?_
    refine awp_region rfl ?_
    first
      | refine sP (opp_mv (v := .ptr _ _ _) rfl rfl) rfl rfl ?_
      | refine sP (opp_mv (v := .fptr _) rfl rfl) rfl rfl ?_
    first
      | refine sP (opp_fieldP rfl rfl fld29_0 rfl) rfl rfl ?_
      | refine sP (opp_fieldF rfl rfl rfl fld29_0 rfl rfl) rfl rfl ?_
    first
      | refine sP (opp_loadP rfl rfl rfl rfl bi rfl ty3) rfl rfl ?_
      | refine sP (opp_loadF rfl rfl ty3) rfl rfl ?_
    refine sR (opr_callG (rl := [(1, 17), (2, 1023), (1004, 1027)]) (r1 := .tup []) (H1 := [(17, some (.agg [.osl 1027 _ _ _ _, .err _])), (1023, none), (1027, some (.arr _ _ _))]) (n1 := [1027]) rfl rfl ent44 (cg44r (Sp.be (27 + d.length) 2) k (by omega) (by rw [Sp.be_length]; omega)) (And.intro (And.intro rfl wka) (And.intro (And.intro rfl wka) True.intro)) (And.intro (And.intro rfl (Exists.intro _ (And.intro rfl wkc))) (And.intro (And.intro rfl (Exists.intro _ (And.intro rfl wkc))) True.intro)) rfl rfl rfl rfl) rfl rfl rfl ?_
    refine awp_seq ?_
    refine awp_region rfl ?_
    first
      | refine sP (opp_mv (v := .ptr _ _ _) rfl rfl) rfl rfl ?_
      | refine sP (opp_mv (v := .fptr _) rfl rfl) rfl rfl ?_
    first
      | refine sP (opp_fieldP rfl rfl fld29_1 rfl) rfl rfl ?_
      | refine sP (opp_fieldF rfl rfl rfl fld29_1 rfl rfl) rfl rfl ?_
    first
      | refine sP (opp_loadP rfl rfl rfl rfl bi rfl ty3) rfl rfl ?_
      | refine sP (opp_loadF rfl rfl ty3) rfl rfl ?_
    refine sR (opr_callG (rl := [(1, 17), (2, 1027), (1004, 1031)]) (r1 := .tup []) (H1 := [(17, some (.agg [.osl 1031 _ _ _ _, .err _])), (1027, none), (1031, some (.arr _ _ _))]) (n1 := [1031]) rfl rfl ent44 (cg44r (Sp.be (27 + d.length) 2 ++ Sp.be k 1) p (by omega) (by simp only [List.length_append, Sp.be_length]; omega)) (And.intro (And.intro rfl wka) (And.intro (And.intro rfl wka) True.intro)) (And.intro (And.intro rfl (Exists.intro _ (And.intro rfl wkc))) (And.intro (And.intro rfl (Exists.intro _ (And.intro rfl wkc))) True.intro)) rfl rfl rfl rfl) rfl rfl rfl ?_
    refine awp_seq ?_
    refine awp_seq ?_
    refine awp_region rfl ?_
    first
      | refine sP (opp_fieldP rfl rfl fld29_2 rfl) rfl rfl ?_
      | refine sP (opp_fieldF rfl rfl rfl fld29_2 rfl rfl) rfl rfl ?_
    first
      | refine sP (opp_fieldP rfl rfl fld23_0 rfl) rfl rfl ?_
      | refine sP (opp_fieldF rfl rfl rfl fld23_0 rfl rfl) rfl rfl ?_
    first
      | refine sP (opp_loadP rfl rfl rfl rfl bi rfl ty3) rfl rfl ?_
      | refine sP (opp_loadF rfl rfl ty3) rfl rfl ?_
    first
      | refine sP (opp_fieldP rfl rfl fld29_2 rfl) rfl rfl ?_
      | refine sP (opp_fieldF rfl rfl rfl fld29_2 rfl rfl) rfl rfl ?_
    first
      | refine sP (opp_fieldP rfl rfl fld23_1 rfl) rfl rfl ?_
      | refine sP (opp_fieldF rfl rfl rfl fld23_1 rfl rfl) rfl rfl ?_
    first
      | refine sP (opp_loadP rfl rfl rfl rfl bi rfl ty3) rfl rfl ?_
      | refine sP (opp_loadF rfl rfl ty3) rfl rfl ?_
    first
      | refine sP (opp_fieldP rfl rfl fld29_2 rfl) rfl rfl ?_
      | refine sP (opp_fieldF rfl rfl rfl fld29_2 rfl rfl) rfl rfl ?_
    first
      | refine sP (opp_fieldP rfl rfl fld23_2 rfl) rfl rfl ?_
      | refine sP (opp_fieldF rfl rfl rfl fld23_2 rfl rfl) rfl rfl ?_
    first
      | refine sP (opp_loadP rfl rfl rfl rfl bi rfl ty3) rfl rfl ?_
      | refine sP (opp_loadF rfl rfl ty3) rfl rfl ?_
    refine sR (opr_buildSlice (n := 41) (g := fun j => if j = 2 then .int _ _ else if j = 1 then .int _ _ else if j = 0 then .int _ _ else .int .i64 0) rfl eb55 z3 (by decide) rfl rfl) rfl rfl rfl ?_
    first
      | refine sP (opp_lenSl rfl rfl un55) rfl rfl ?_
      | refine sP (opp_lenOsl rfl rfl un55) rfl rfl ?_
    refine sP (opp_mv (v := .int _ _) rfl rfl) rfl rfl ?_
    refine awp_block ?_
    refine awp_loopK (ι := Nat) (fun i => i ≤ 3) (fun i => [(7, .top), (43, .int .i64 (i : Int)), (44, .top), (45, .top), (46, .top), (47, .top), (48, .top), (49, .top), (50, .top)]) (fun i => [(17, some (.agg [.osl 1200 1 0 (Sp.be (27 + d.length) 2 ++ Sp.be k 1 ++ Sp.be p 1 ++ Sp.bes 4 ([bo, pe, nu].take i)).length (Sp.be (27 + d.length) 2 ++ Sp.be k 1 ++ Sp.be p 1 ++ Sp.bes 4 ([bo, pe, nu].take i)).length, .err .nil])), (1031, none), (41, some (.arr 1 3 (fun j => .int .i64 ((([bo, pe, nu] : List Nat).getD j 0 : Nat) : Int)))), (1200, some (.arr 1 (Sp.be (27 + d.length) 2 ++ Sp.be k 1 ++ Sp.be p 1 ++ Sp.bes 4 ([bo, pe, nu].take i)).length (bAt (Sp.be (27 + d.length) 2 ++ Sp.be k 1 ++ Sp.be p 1 ++ Sp.bes 4 ([bo, pe, nu].take i)))))]) [1200] (fun i => 3 - i) (0) (Nat.zero_le _) (by
      refine imp_over [(1200, 1031)] rfl rfl (by kernel_rfl) ?_ ?_
      · refine And.intro wkv ?_
        refine And.intro wkv ?_
        refine And.intro wkv ?_
        refine And.intro wkv ?_
        refine And.intro wkv ?_
        refine And.intro wkv ?_
        refine And.intro wkv ?_
        refine And.intro wkv ?_
        refine And.intro wkv ?_
        exact True.intro
      · refine And.intro (And.intro rfl (And.intro rfl (Exists.intro _ (And.intro rfl (by exact WkC.of (by show AV.agg [AV.osl 1031 1 0 _ _, AV.err .nil] = AV.agg [AV.osl 1031 1 0 _ _, AV.err .nil]; simp [Sp.bes])))))) ?_
        refine And.intro (And.intro rfl (And.intro rfl (Exists.intro _ (And.intro rfl (by exact WkC.arr (fun j hj => nums3 _ _ _ j hj _)))))) ?_
        refine And.intro (And.intro rfl (And.intro rfl (Exists.intro _ (And.intro rfl (by exact WkC.of (by show AV.arr 1 _ _ = AV.arr 1 _ _; simp [Sp.bes])))))) ?_
        exact True.intro
      ) ?_
    intro i hi1
    refine awp_seq ?_
    refine awp_region rfl ?_
    refine sP (opp_cmp rfl rfl rfl rfl) rfl rfl ?_
    refine awp_seq ?_
    refine awp_cond _ rfl (fun hc11 => ?_) (fun hc11 => ?_)
    · (try simp only [cmpI, errD_nil, Bool.not_eq_true', Bool.not_eq_false', decide_eq_true_eq, decide_eq_false_iff_not] at hc11); have ht44 := hc11
      refine awp_skip ?_
      refine awp_seq ?_
      refine awp_block ?_
      refine awp_seq ?_
      refine awp_region rfl ?_
      first
        | refine sP (opp_indexSl rfl rfl rfl el55 (by omega) (by omega)) rfl rfl ?_
        | refine sP (opp_indexOsl0 rfl rfl rfl el55 (by omega) (by omega)) rfl rfl ?_
        | refine sP (opp_indexOsl rfl rfl rfl el55 (by omega) (by omega)) rfl rfl ?_
      first
        | refine sP (opp_loadP rfl rfl rfl rfl bi rfl ty3) rfl rfl ?_
        | refine sP (opp_loadF rfl rfl ty3) rfl rfl ?_
      refine sP (opp_as (v := .int _ _) rfl rfl) rfl rfl ?_
      refine awp_region rfl ?_
      have hx : (([bo, pe, nu] : List Nat).getD i 0) < 4294967296 := by
        have : i = 0 ∨ i = 1 ∨ i = 2 := by omega
        rcases this with rfl | rfl | rfl <;> simp <;> omega
      first
        | refine sP (opp_mv (v := .ptr _ _ _) rfl rfl) rfl rfl ?_
        | refine sP (opp_mv (v := .fptr _) rfl rfl) rfl rfl ?_
      refine sP (opp_mv (v := .int _ _) rfl rfl) rfl rfl ?_
      refine sR (opr_callG (rl := [(1, 17), (2, 1200), (1004, 1049)]) (r1 := .tup []) (H1 := [(17, some (.agg [.osl 1049 _ _ _ _, .err _])), (1200, none), (1049, some (.arr _ _ _))]) (n1 := [1049]) rfl rfl ent45 (cg45r (Sp.be (27 + d.length) 2 ++ Sp.be k 1 ++ Sp.be p 1 ++ Sp.bes 4 ([bo, pe, nu].take i)) (([bo, pe, nu] : List Nat).getD i 0) hx (by simp only [List.length_append, Sp.be_length, Sp.bes_length, List.length_take]; omega)) (And.intro (And.intro rfl wka) (And.intro (And.intro rfl wka) True.intro)) (And.intro (And.intro rfl (Exists.intro _ (And.intro rfl wkc))) (And.intro (And.intro rfl (Exists.intro _ (And.intro rfl wkc))) True.intro)) rfl rfl rfl rfl) rfl rfl rfl ?_
      refine awp_region rfl ?_
      first
        | refine sP (opp_arith rfl rfl rfl (.inl ⟨rfl, w64 (by omega)⟩)) rfl rfl ?_
        | refine sP (opp_arith rfl rfl rfl (.inl ⟨rfl, rfl⟩)) rfl rfl ?_
      refine sP (opp_mv (v := .int _ _) rfl rfl) rfl rfl ?_
      refine Exists.intro (i + 1) (And.intro (And.intro (by omega) (by omega)) (by
        refine imp_over [(1200, 1049)] rfl rfl (by kernel_rfl) ?_ ?_
        · refine And.intro wkv ?_
          refine And.intro wkv ?_
          refine And.intro wkv ?_
          refine And.intro wkv ?_
          refine And.intro wkv ?_
          refine And.intro wkv ?_
          refine And.intro wkv ?_
          refine And.intro wkv ?_
          refine And.intro wkv ?_
          exact True.intro
        · refine And.intro (And.intro rfl (And.intro rfl (Exists.intro _ (And.intro rfl (by exact WkC.of (by show AV.agg [AV.osl 1049 1 0 _ _, AV.err .nil] = AV.agg [AV.osl 1049 1 0 _ _, AV.err .nil]; rw [Sp.bes_take 4 [bo, pe, nu] i (by show i < 3; omega)]; simp only [List.append_assoc])))))) ?_
          refine And.intro (And.intro rfl (And.intro rfl (Exists.intro _ (And.intro rfl wkc)))) ?_
          refine And.intro (And.intro rfl (And.intro rfl (Exists.intro _ (And.intro rfl (by exact WkC.of (by show AV.arr 1 _ _ = AV.arr 1 _ _; rw [Sp.bes_take 4 [bo, pe, nu] i (by show i < 3; omega)]; simp only [List.append_assoc])))))) ?_
          exact True.intro
        ))
    · (try simp only [cmpI, errD_nil, Bool.not_eq_true', Bool.not_eq_false', decide_eq_true_eq, decide_eq_false_iff_not] at hc11); have ht44 := hc11
      refine awp_exit ?_
      refine awp_seq ?_
      refine awp_seq ?_
      obtain rfl : i = 3 := by omega
      refine awp_region rfl ?_
      first
        | refine sP (opp_fieldP rfl rfl fld29_3 rfl) rfl rfl ?_
        | refine sP (opp_fieldF rfl rfl rfl fld29_3 rfl rfl) rfl rfl ?_
      first
        | refine sP (opp_loadP rfl rfl rfl rfl bi rfl ty3) rfl rfl ?_
        | refine sP (opp_loadF rfl rfl ty3) rfl rfl ?_
      first
        | refine sP (opp_fieldP rfl rfl fld29_4 rfl) rfl rfl ?_
        | refine sP (opp_fieldF rfl rfl rfl fld29_4 rfl rfl) rfl rfl ?_
      first
        | refine sP (opp_loadP rfl rfl rfl rfl bi rfl ty3) rfl rfl ?_
        | refine sP (opp_loadF rfl rfl ty3) rfl rfl ?_
      first
        | refine sP (opp_fieldP rfl rfl fld29_5 rfl) rfl rfl ?_
        | refine sP (opp_fieldF rfl rfl rfl fld29_5 rfl rfl) rfl rfl ?_
      first
        | refine sP (opp_loadP rfl rfl rfl rfl bi rfl ty3) rfl rfl ?_
        | refine sP (opp_loadF rfl rfl ty3) rfl rfl ?_
      refine sR (opr_buildSlice (n := 57) (g := fun j => if j = 2 then .int _ _ else if j = 1 then .int _ _ else if j = 0 then .int _ _ else .int .i64 0) rfl eb55 z3 (by decide) rfl rfl) rfl rfl rfl ?_
      first
        | refine sP (opp_lenSl rfl rfl un55) rfl rfl ?_
        | refine sP (opp_lenOsl rfl rfl un55) rfl rfl ?_
      refine sP (opp_mv (v := .int _ _) rfl rfl) rfl rfl ?_
      refine awp_block ?_
      refine awp_loopK (ι := Nat) (fun i => i ≤ 3) (fun i => [(9, .top), (59, .int .i64 (i : Int)), (60, .top), (61, .top), (62, .top), (63, .top), (64, .top), (65, .top), (66, .top)]) (fun i => [(17, some (.agg [.osl 1300 1 0 (Sp.be (27 + d.length) 2 ++ Sp.be k 1 ++ Sp.be p 1 ++ Sp.bes 4 [bo, pe, nu] ++ Sp.bes 1 ([st, ix, to].take i)).length (Sp.be (27 + d.length) 2 ++ Sp.be k 1 ++ Sp.be p 1 ++ Sp.bes 4 [bo, pe, nu] ++ Sp.bes 1 ([st, ix, to].take i)).length, .err .nil])), (1200, none), (57, some (.arr 1 3 (fun j => .int .i64 ((([st, ix, to] : List Nat).getD j 0 : Nat) : Int)))), (1300, some (.arr 1 (Sp.be (27 + d.length) 2 ++ Sp.be k 1 ++ Sp.be p 1 ++ Sp.bes 4 [bo, pe, nu] ++ Sp.bes 1 ([st, ix, to].take i)).length (bAt (Sp.be (27 + d.length) 2 ++ Sp.be k 1 ++ Sp.be p 1 ++ Sp.bes 4 [bo, pe, nu] ++ Sp.bes 1 ([st, ix, to].take i)))))]) [1300] (fun i => 3 - i) (0) (Nat.zero_le _) (by
        refine imp_over [(1300, 1200)] rfl rfl (by kernel_rfl) ?_ ?_
        · refine And.intro wkv ?_
          refine And.intro wkv ?_
          refine And.intro wkv ?_
          refine And.intro wkv ?_
          refine And.intro wkv ?_
          refine And.intro wkv ?_
          refine And.intro wkv ?_
          refine And.intro wkv ?_
          refine And.intro wkv ?_
          exact True.intro
        · refine And.intro (And.intro rfl (And.intro rfl (Exists.intro _ (And.intro rfl (by exact WkC.of (by show AV.agg [AV.osl 1200 1 0 _ _, AV.err .nil] = AV.agg [AV.osl 1200 1 0 _ _, AV.err .nil]; simp [Sp.bes])))))) ?_
          refine And.intro (And.intro rfl (And.intro rfl (Exists.intro _ (And.intro rfl (by exact WkC.arr (fun j hj => nums3 _ _ _ j hj _)))))) ?_
          refine And.intro (And.intro rfl (And.intro rfl (Exists.intro _ (And.intro rfl (by exact WkC.of (by show AV.arr 1 _ _ = AV.arr 1 _ _; simp [Sp.bes])))))) ?_
          exact True.intro
        ) ?_
      intro i hi2
      refine awp_seq ?_
      refine awp_region rfl ?_
      refine sP (opp_cmp rfl rfl rfl rfl) rfl rfl ?_
      refine awp_seq ?_
      refine awp_cond _ rfl (fun hc17 => ?_) (fun hc17 => ?_)
      · (try simp only [cmpI, errD_nil, Bool.not_eq_true', Bool.not_eq_false', decide_eq_true_eq, decide_eq_false_iff_not] at hc17); have ht60 := hc17
        refine awp_skip ?_
        refine awp_seq ?_
        refine awp_block ?_
        refine awp_seq ?_
        refine awp_region rfl ?_
        first
          | refine sP (opp_indexSl rfl rfl rfl el55 (by omega) (by omega)) rfl rfl ?_
          | refine sP (opp_indexOsl0 rfl rfl rfl el55 (by omega) (by omega)) rfl rfl ?_
          | refine sP (opp_indexOsl rfl rfl rfl el55 (by omega) (by omega)) rfl rfl ?_
        first
          | refine sP (opp_loadP rfl rfl rfl rfl bi rfl ty3) rfl rfl ?_
          | refine sP (opp_loadF rfl rfl ty3) rfl rfl ?_
        refine sP (opp_as (v := .int _ _) rfl rfl) rfl rfl ?_
        refine awp_region rfl ?_
        have hx : (([st, ix, to] : List Nat).getD i 0) < 256 := by
          have : i = 0 ∨ i = 1 ∨ i = 2 := by omega
          rcases this with rfl | rfl | rfl <;> simp <;> omega
        first
          | refine sP (opp_mv (v := .ptr _ _ _) rfl rfl) rfl rfl ?_
          | refine sP (opp_mv (v := .fptr _) rfl rfl) rfl rfl ?_
        refine sP (opp_mv (v := .int _ _) rfl rfl) rfl rfl ?_
        refine sR (opr_callG (rl := [(1, 17), (2, 1300), (1004, 1065)]) (r1 := .tup []) (H1 := [(17, some (.agg [.osl 1065 _ _ _ _, .err _])), (1300, none), (1065, some (.arr _ _ _))]) (n1 := [1065]) rfl rfl ent44 (cg44r (Sp.be (27 + d.length) 2 ++ Sp.be k 1 ++ Sp.be p 1 ++ Sp.bes 4 [bo, pe, nu] ++ Sp.bes 1 ([st, ix, to].take i)) (([st, ix, to] : List Nat).getD i 0) hx (by simp only [List.length_append, Sp.be_length, Sp.bes_length, List.length_take, List.length_cons, List.length_nil]; omega)) (And.intro (And.intro rfl wka) (And.intro (And.intro rfl wka) True.intro)) (And.intro (And.intro rfl (Exists.intro _ (And.intro rfl wkc))) (And.intro (And.intro rfl (Exists.intro _ (And.intro rfl wkc))) True.intro)) rfl rfl rfl rfl) rfl rfl rfl ?_
        refine awp_region rfl ?_
        first
          | refine sP (opp_arith rfl rfl rfl (.inl ⟨rfl, w64 (by omega)⟩)) rfl rfl ?_
          | refine sP (opp_arith rfl rfl rfl (.inl ⟨rfl, rfl⟩)) rfl rfl ?_
        refine sP (opp_mv (v := .int _ _) rfl rfl) rfl rfl ?_
        refine Exists.intro (i + 1) (And.intro (And.intro (by omega) (by omega)) (by
          refine imp_over [(1300, 1065)] rfl rfl (by kernel_rfl) ?_ ?_
          · refine And.intro wkv ?_
            refine And.intro wkv ?_
            refine And.intro wkv ?_
            refine And.intro wkv ?_
            refine And.intro wkv ?_
            refine And.intro wkv ?_
            refine And.intro wkv ?_
            refine And.intro wkv ?_
            refine And.intro wkv ?_
            exact True.intro
          · refine And.intro (And.intro rfl (And.intro rfl (Exists.intro _ (And.intro rfl (by exact WkC.of (by show AV.agg [AV.osl 1065 1 0 _ _, AV.err .nil] = AV.agg [AV.osl 1065 1 0 _ _, AV.err .nil]; rw [Sp.bes_take 1 [st, ix, to] i (by show i < 3; omega)]; simp only [List.append_assoc])))))) ?_
            refine And.intro (And.intro rfl (And.intro rfl (Exists.intro _ (And.intro rfl wkc)))) ?_
            refine And.intro (And.intro rfl (And.intro rfl (Exists.intro _ (And.intro rfl (by exact WkC.of (by show AV.arr 1 _ _ = AV.arr 1 _ _; rw [Sp.bes_take 1 [st, ix, to] i (by show i < 3; omega)]; simp only [List.append_assoc])))))) ?_
            exact True.intro
          ))
      · (try simp only [cmpI, errD_nil, Bool.not_eq_true', Bool.not_eq_false', decide_eq_true_eq, decide_eq_false_iff_not] at hc17); have ht60 := hc17
        refine awp_exit ?_
        refine awp_seq ?_
        obtain rfl : i = 3 := by omega
        refine awp_region rfl ?_
        first
          | refine sP (opp_mv (v := .ptr _ _ _) rfl rfl) rfl rfl ?_
          | refine sP (opp_mv (v := .fptr _) rfl rfl) rfl rfl ?_
        first
          | refine sP (opp_fieldP rfl rfl fld29_6 rfl) rfl rfl ?_
          | refine sP (opp_fieldF rfl rfl rfl fld29_6 rfl rfl) rfl rfl ?_
        first
          | refine sP (opp_loadP rfl rfl rfl rfl bi rfl ty27) rfl rfl ?_
          | refine sP (opp_loadF rfl rfl ty27) rfl rfl ?_
        first
          | refine sP (opp_convInt rfl rfl un27s un3 (w64 (by omega))) rfl rfl ?_
          | refine sP (opp_convInt rfl rfl un27s un3 rfl) rfl rfl ?_
        rw [show IntKind.i64.wrap (su : Int) = (su : Int) from w64 (by omega)]
        refine sR (opr_callG (rl := [(1, 17), (2, 1300), (1004, 1071)]) (r1 := .tup []) (H1 := [(17, some (.agg [.osl 1071 _ _ _ _, .err _])), (1300, none), (1071, some (.arr _ _ _))]) (n1 := [1071]) rfl rfl ent45 (cg45r (Sp.be (27 + d.length) 2 ++ Sp.be k 1 ++ Sp.be p 1 ++ Sp.bes 4 [bo, pe, nu] ++ Sp.bes 1 [st, ix, to]) su (by omega) (by simp only [List.length_append, Sp.be_length, Sp.bes_length, List.length_cons, List.length_nil]; omega)) (And.intro (And.intro rfl wka) (And.intro (And.intro rfl wka) True.intro)) (And.intro (And.intro rfl (Exists.intro _ (And.intro rfl wkc))) (And.intro (And.intro rfl (Exists.intro _ (And.intro rfl wkc))) True.intro)) rfl rfl rfl rfl) rfl rfl rfl ?_
        refine awp_seq ?_
        refine awp_region rfl ?_
        first
          | refine sP (opp_mv (v := .ptr _ _ _) rfl rfl) rfl rfl ?_
          | refine sP (opp_mv (v := .fptr _) rfl rfl) rfl rfl ?_
        first
          | refine sP (opp_fieldP rfl rfl fld29_7 rfl) rfl rfl ?_
          | refine sP (opp_fieldF rfl rfl rfl fld29_7 rfl rfl) rfl rfl ?_
        first
          | refine sP (opp_loadP rfl rfl rfl rfl bi rfl ty9) rfl rfl ?_
          | refine sP (opp_loadF rfl rfl ty9) rfl rfl ?_
        refine sR (opr_strBytes (n := 75) rfl rfl un9 un36 unu8) rfl rfl rfl ?_
        refine sR (opr_callG (rl := [(1, 17), (2, 1071), (3, 75), (1004, 1076)]) (r1 := .tup []) (H1 := [(17, some (.agg [.osl 1076 _ _ _ _, .err _])), (1071, none), (75, none), (1076, some (.arr _ _ _))]) (n1 := [1076]) rfl rfl ent46 (cg46o (Sp.be (27 + d.length) 2 ++ Sp.be k 1 ++ Sp.be p 1 ++ Sp.bes 4 [bo, pe, nu] ++ Sp.bes 1 [st, ix, to] ++ Sp.be su 4) d (by simp only [List.length_append, Sp.be_length, Sp.bes_length, List.length_cons, List.length_nil]; omega) (by omega)) (And.intro (And.intro rfl wka) (And.intro (And.intro rfl wka) True.intro)) (And.intro (And.intro rfl (Exists.intro _ (And.intro rfl wkc))) (And.intro (And.intro rfl (Exists.intro _ (And.intro rfl wkc))) (And.intro (And.intro rfl (Exists.intro _ (And.intro rfl wkc))) True.intro))) rfl rfl rfl rfl) rfl rfl rfl ?_
        refine awp_seq ?_
        refine awp_region rfl ?_
        first
          | refine sP (opp_mv (v := .ptr _ _ _) rfl rfl) rfl rfl ?_
          | refine sP (opp_mv (v := .fptr _) rfl rfl) rfl rfl ?_
        refine sR (opr_callG (rl := [(1, 17), (2, 1076)]) (r1 := .tup [.sl _ _ _ _, .err _]) (H1 := [(17, some (.agg [.osl 1076 _ _ _ _, .err _])), (1076, some (.arr _ _ _))]) (n1 := []) rfl rfl ent47 (cg47r (Sp.be (27 + d.length) 2 ++ Sp.be k 1 ++ Sp.be p 1 ++ Sp.bes 4 [bo, pe, nu] ++ Sp.bes 1 [st, ix, to] ++ Sp.be su 4 ++ d) (by simp only [List.length_append, Sp.be_length, Sp.bes_length, List.length_cons, List.length_nil]; omega)) (And.intro (And.intro rfl wka) True.intro) (And.intro (And.intro rfl (Exists.intro _ (And.intro rfl wkc))) (And.intro (And.intro rfl (Exists.intro _ (And.intro rfl wkc))) True.intro)) rfl rfl rfl rfl) rfl rfl rfl ?_
        refine sP (opp_mv (v := .tup _) rfl rfl) rfl rfl ?_
        refine sP (opp_extract rfl rfl rfl) rfl rfl ?_
        refine sP (opp_extract rfl rfl rfl) rfl rfl ?_
        first
          | refine sP (opp_as (v := .sl _ _ _ _) rfl rfl) rfl rfl ?_
          | refine sP (opp_as (v := .osl _ _ _ _ _) rfl rfl) rfl rfl ?_
        refine sP (opp_as (v := .err _) rfl rfl) rfl rfl ?_
        refine awp_seq ?_
        refine awp_seq ?_
        refine awp_region rfl ?_
        refine sP (opp_mv (v := .err _) rfl rfl) rfl rfl ?_
        refine sP (opp_errNil rfl rfl rfl un42 (.inr ⟨rfl, rfl⟩)) rfl rfl ?_
        refine awp_cond _ rfl (fun hc25 => ?_) (fun hc25 => ?_)
        · (try simp only [cmpI, errD_nil, Bool.not_eq_true', Bool.not_eq_false', decide_eq_true_eq, decide_eq_false_iff_not] at hc25); have ht83 := hc25
          exact absurd ht83 (by decide)
        · (try simp only [cmpI, errD_nil, Bool.not_eq_true', Bool.not_eq_false', decide_eq_true_eq, decide_eq_false_iff_not] at hc25); have ht83 := hc25
          refine awp_skip ?_
          refine awp_seq ?_
          refine awp_region rfl ?_
          first
            | refine sP (opp_mv (v := .sl _ _ _ _) rfl rfl) rfl rfl ?_
            | refine sP (opp_mv (v := .osl _ _ _ _ _) rfl rfl) rfl rfl ?_
          refine sR (opr_call rfl rfl ent48 rfl (c48 (Sp.be (27 + d.length) 2 ++ Sp.be k 1 ++ Sp.be p 1 ++ Sp.bes 4 [bo, pe, nu] ++ Sp.bes 1 [st, ix, to] ++ Sp.be su 4 ++ d) (by simp only [List.length_append, Sp.be_length, Sp.bes_length, List.length_cons, List.length_nil]; omega)) (AViews.refl _ rfl)) rfl rfl rfl ?_ -- d=86 t=36
          first
            | refine sP (opp_bytesStr rfl rfl _ rfl (fun j hj => rfl) un36 unu8 un9) rfl rfl ?_
            | refine sP (opp_bytesStrR rfl (.osl0 rfl (Nat.le_refl _)) _ rfl (fun j hj => rfl) un36 unu8 un9) rfl rfl ?_
          refine sP (opp_as (v := .str _) rfl rfl) rfl rfl ?_
          refine sP (opp_as (v := .err _) rfl rfl) rfl rfl ?_
          refine awp_ret ?_
          repeat (first | refine athen_ret ?_ | refine ain_ret ?_)
          first
            | refine apost_ret (aend (l := [.str _, .err _]) (.tmp (.tmp .nil)) (fun h => by cases h) (.cons (.noN rfl rfl) (.cons (.noN rfl rfl) .nil)) ⟨Wk.v ?_, rfl, rfl⟩)
            | refine apost_ret (aends (l := [.str _, .err _]) (.tmp (.tmp .nil)) (fun h => by cases h) (.cons shut (fun h => by cases h) (.cons shut (fun h => by cases h) .nil)) rfl ⟨Wk.v ?_, rfl, rfl⟩)
          refine .of ?_
          have e : Sp.be (27 + d.length) 2 ++ Sp.be k 1 ++ Sp.be p 1 ++ Sp.bes 4 [bo, pe, nu] ++ Sp.bes 1 [st, ix, to] ++ Sp.be su 4 ++ d = Sp.noteBytes ⟨k, p, ⟨bo, pe, nu⟩, st, ix, to, su, d⟩ := by
            simp [Sp.noteBytes, Sp.bes]
          rw [e]
theorem c22 (n : Note) (hs : 0 ≤ n.sum ∧ n.sum ≤ 4294967295) (hG7 : gl 7 = some (.err (.code 7))) (hG10 : gl 10 = some (.err (.code 4))) : APure (V ea cds gl) 22 [noteAV n] false (.tup [.str (Sp.put n).1, .err (errD (Sp.put n).2)]) := by
  by_cases hc : Sp.check n = 0
  · have hb := Sp.check_bounds hc
    obtain ⟨kind, part, ⟨boot, peer, num⟩, stage, index, total, sum, data⟩ := n
    dsimp only at hb hs
    obtain ⟨k, rfl⟩ := Int.eq_ofNat_of_zero_le (show 0 ≤ kind by omega)
    obtain ⟨p, rfl⟩ := Int.eq_ofNat_of_zero_le (show 0 ≤ part by omega)
    obtain ⟨bo, rfl⟩ := Int.eq_ofNat_of_zero_le (show 0 ≤ boot by omega)
    obtain ⟨pe, rfl⟩ := Int.eq_ofNat_of_zero_le (show 0 ≤ peer by omega)
    obtain ⟨nu, rfl⟩ := Int.eq_ofNat_of_zero_le (show 0 ≤ num by omega)
    obtain ⟨st, rfl⟩ := Int.eq_ofNat_of_zero_le (show 0 ≤ stage by omega)
    obtain ⟨ix, rfl⟩ := Int.eq_ofNat_of_zero_le (show 0 ≤ index by omega)
    obtain ⟨to, rfl⟩ := Int.eq_ofNat_of_zero_le (show 0 ≤ total by omega)
    obtain ⟨su, rfl⟩ := Int.eq_ofNat_of_zero_le hs.1
    rw [Sp.put, if_neg (by simpa using hc)]
    exact cfine22 k p bo pe nu st ix to su data hc (by omega) hG7 hG10
  · rw [Sp.put, if_pos hc]
    exact cbad22 n hc hG7 hG10
end
end Go.Proofs.YtgaihhimkodmmaaGreatDoor
/- Layer 20: the note of bytes (walks over this dump). -/
namespace Go.Proofs.YtgaihhimkodmmaaGreatDoor
attribute [local irreducible] Tryz.prog
open Go.Fy
set_option linter.unusedSimpArgs false
set_option linter.unusedVariables false
section
variable {ea : Nat → Addr} {cds : List Nat} {gl : Nat → Option AV}
theorem c23 (s : List UInt8) (h0 : s.length ≤ 140737488351232) (hG3 : gl 3 = some (.err (.code 1))) (hG4 : gl 4 = some (.err (.code 5))) (hG11 : gl 11 = some (.err (.code 6)))
    (hG7 : gl 7 = some (.err (.code 7))) (hG10 : gl 10 = some (.err (.code 4))) :
    APure (V ea cds gl) 23 [.str s] false (.tup [noteAV (Sp.get s).1, .err (errD (Sp.get s).2)]) := by
  refine acalls_of_body (N := 122) Tryz.func23 rfl rfl (Nat.le_of_ble_eq_true rfl) fun C hV hN hM hO => ?_
  obtain ⟨_, _, w0, G0, σ0, _, own0⟩ := C; dsimp only at hV hN hM hO; subst hV; subst hN; subst hM
  refine awp_seq ?_
  refine awp_region rfl ?_
  refine sR (opr_alloc (n := 2) rfl z29) rfl rfl rfl ?_
  refine sP (opp_as (v := .err _) rfl rfl) rfl rfl ?_
  refine awp_seq ?_
  refine awp_region rfl ?_
  refine sP (opp_mv (v := .str _) rfl rfl) rfl rfl ?_
  refine sR (opr_strBytes (n := 16) rfl rfl un9 un36 unu8) rfl rfl rfl ?_
  refine al_sh [(16, .sl 1 false s.length (bAt s))] [(16, none)] hO rfl (And.intro shut True.intro) True.intro ?_
  refine sR (opr_call rfl rfl ent49 rfl (c49 s (by omega) hG3 hG11) (AViews.refl _ rfl)) rfl rfl rfl ?_ -- d=17 t=82
  refine sP (opp_mv (v := .tup _) rfl rfl) rfl rfl ?_
  refine sP (opp_extract rfl rfl rfl) rfl rfl ?_
  refine sP (opp_extract rfl rfl rfl) rfl rfl ?_
  first
    | refine sP (opp_as (v := .sl _ _ _ _) rfl rfl) rfl rfl ?_
    | refine sP (opp_as (v := .osl _ _ _ _ _) rfl rfl) rfl rfl ?_
  refine sP (opp_as (v := .err _) rfl rfl) rfl rfl ?_
  refine awp_seq ?_
  refine awp_seq ?_
  refine awp_region rfl ?_
  refine sP (opp_mv (v := .err _) rfl rfl) rfl rfl ?_
  refine sP (opp_errNil rfl rfl rfl un42 (.inr ⟨rfl, rfl⟩)) rfl rfl ?_
  refine awp_cond _ rfl (fun hc4 => ?_) (fun hc4 => ?_)
  · (try simp only [cmpI, errD_nil, Bool.not_eq_true', Bool.not_eq_false', decide_eq_true_eq, decide_eq_false_iff_not] at hc4); have ht21 := hc4
    refine awp_seq ?_
    refine awp_region rfl ?_
    refine sP (opp_build rfl z29 bld29 rfl [.int .i64 0, .int .i64 0, .agg [.int .i64 0, .int .i64 0, .int .i64 0], .int .i64 0, .int .i64 0, .int .i64 0, .int .u32 0, .str []] rfl) rfl rfl ?_
    refine sP (opp_mv (v := .err _) rfl rfl) rfl rfl ?_
    refine sR0 (opr_store (v := .agg _) (trn := (.agg _)) rfl rfl rfl rfl bi rfl rfl rfl rfl fr2 ty29 (fun _ _ h => h)) rfl rfl rfl ?_
    refine sP (opp_as (v := .err _) rfl rfl) rfl rfl ?_
    refine awp_ret ?_
    repeat (first | refine athen_ret ?_ | refine ain_ret ?_)
    first
      | refine apost_ret (aend (l := [.agg _, .err _]) (.cell rfl rfl rfl (by exact True.intro) rfl ty29 (.tmp .nil)) (fun h => by cases h) (.cons (.noN rfl rfl) (.cons (.noN rfl rfl) .nil)) ⟨Wk.v ?_, rfl, rfl⟩)
      | refine apost_ret (aends (l := [.agg _, .err _]) (.cell rfl rfl rfl (by exact True.intro) rfl ty29 (.tmp .nil)) (fun h => by cases h) (.cons shut (fun h => by cases h) (.cons shut (fun h => by cases h) .nil)) rfl ⟨Wk.v ?_, rfl, rfl⟩)
    rw [show Sp.get s = (Sp.zero, (Sp.opened s).2) from if_pos ht21]; exact .refl
  · (try simp only [cmpI, errD_nil, Bool.not_eq_true', Bool.not_eq_false', decide_eq_true_eq, decide_eq_false_iff_not] at hc4); have ht21 := hc4
    refine awp_skip ?_
    refine awp_seq ?_
    refine awp_seq ?_
    rw [show (decide ((Sp.opened s).2 ≠ 0)) = false by simp [ht21]]
    have hok := Sp.opened_ok ht21
    have hlen : (Sp.opened s).1.length = s.length - 4 := by rw [hok.2.1, List.length_take]; omega
    have hf16 := fld_lt (Sp.opened s).1 0 2
    have hf19 := fld_lt (Sp.opened s).1 19 4
    refine awp_region rfl ?_
    refine sP (opp_mv (v := .str _) rfl rfl) rfl rfl ?_
    refine sP (opp_lenStr rfl rfl un9) rfl rfl ?_
    refine sP (opp_cmp rfl rfl rfl rfl) rfl rfl ?_
    refine awp_cond _ rfl (fun hc7 => ?_) (fun hc7 => ?_)
    · (try simp only [cmpI, errD_nil, Bool.not_eq_true', Bool.not_eq_false', decide_eq_true_eq, decide_eq_false_iff_not] at hc7); have ht26 := hc7
      refine awp_seq ?_
      refine awp_draw hmix rfl (by kernel_rfl) ?_
      refine dP (fun _ => false) (opp_build rfl z29 bld29 rfl [.int .i64 0, .int .i64 0, .agg [.int .i64 0, .int .i64 0, .int .i64 0], .int .i64 0, .int .i64 0, .int .i64 0, .int .u32 0, .str []] rfl) rfl rfl ?_
      refine dP (fun _ => false) (opp_loadF rfl (ev_glob hG3) ty42) rfl rfl ?_
      refine dR0 (fun n => Nat.beq n 2) (opr_store (v := .agg _) (trn := (.agg _)) rfl rfl rfl rfl bi rfl rfl rfl rfl fr2 ty29 (fun _ _ h => h)) rfl rfl rfl ?_
      refine dP (fun _ => false) (opp_as (v := .err _) rfl rfl) rfl rfl ?_
      refine And.intro (by kernel_rfl) ?_
      refine awp_ret ?_
      repeat (first | refine athen_ret ?_ | refine ain_ret ?_)
      first
        | refine apost_ret (aend (l := [.agg _, .err _]) (.cell rfl rfl rfl (by exact True.intro) rfl ty29 (.tmp .nil)) (fun h => by cases h) (.cons (.noN rfl rfl) (.cons (.noN rfl rfl) .nil)) ⟨Wk.v ?_, rfl, rfl⟩)
        | refine apost_ret (aends (l := [.agg _, .err _]) (.cell rfl rfl rfl (by exact True.intro) rfl ty29 (.tmp .nil)) (fun h => by cases h) (.cons shut (fun h => by cases h) (.cons shut (fun h => by cases h) .nil)) rfl ⟨Wk.v ?_, rfl, rfl⟩)
      rw [show Sp.get s = (Sp.zero, 1) by rw [Sp.get, if_neg (by simpa using ht21), if_pos (by omega)]]; exact .refl
    · (try simp only [cmpI, errD_nil, Bool.not_eq_true', Bool.not_eq_false', decide_eq_true_eq, decide_eq_false_iff_not] at hc7); have ht26 := hc7
      refine awp_skip ?_
      refine awp_seq ?_
      refine awp_region rfl ?_
      first
        | refine sP (opp_mv (v := .sl _ _ _ _) rfl rfl) rfl rfl ?_
        | refine sP (opp_mv (v := .osl _ _ _ _ _) rfl rfl) rfl rfl ?_
      first
          | refine sR (opr_callO (rl := [(8, 30)]) (r1 := .val _) (H1 := [(30, some (.agg [.sl _ _ _ _, .int _ _, .int _ _]))]) (n1 := [30]) rfl rfl ent50 rfl (co50 (Sp.opened s).1 (by omega)) (AViews.refl _ rfl) rfl rfl rfl rfl) rfl rfl rfl ?_
          | refine sR (opr_callO (rl := [(8, 30)]) (r1 := .fptr _) (H1 := [(30, some (.agg [.sl _ _ _ _, .int _ _, .int _ _]))]) (n1 := [30]) rfl rfl ent50 rfl (co50 (Sp.opened s).1 (by omega)) (AViews.refl _ rfl) rfl rfl rfl rfl) rfl rfl rfl ?_
          | refine sR (opr_callO (rl := [(8, 30)]) (r1 := .ptr _ _ _) (H1 := [(30, some (.agg [.sl _ _ _ _, .int _ _, .int _ _]))]) (n1 := [30]) rfl rfl ent50 rfl (co50 (Sp.opened s).1 (by omega)) (AViews.refl _ rfl) rfl rfl rfl rfl) rfl rfl rfl ?_
      first
        | refine sP (opp_as (v := .ptr _ _ _) rfl rfl) rfl rfl ?_
        | refine sP (opp_as (v := .fptr _) rfl rfl) rfl rfl ?_
      refine awp_seq ?_
      refine awp_seq ?_
      refine awp_region rfl ?_
      first
        | refine sP (opp_mv (v := .ptr _ _ _) rfl rfl) rfl rfl ?_
        | refine sP (opp_mv (v := .fptr _) rfl rfl) rfl rfl ?_
      refine sR (opr_callG (rl := [(1, 30)]) (r1 := .tup [.int _ _, .err _]) (H1 := [(30, some (.agg [.sl _ _ _ _, .int _ _, .int _ _]))]) (n1 := []) rfl rfl ent51 (cg51c (Sp.opened s).1 false 0 (Sp.opened s).1.length (by omega) (by omega) (by omega)) (And.intro (And.intro rfl wka) True.intro) (And.intro (And.intro rfl (Exists.intro _ (And.intro rfl wkc))) True.intro) rfl rfl rfl rfl) rfl rfl rfl ?_
      refine sP (opp_mv (v := .tup _) rfl rfl) rfl rfl ?_
      refine sP (opp_extract rfl rfl rfl) rfl rfl ?_
      refine sP (opp_extract rfl rfl rfl) rfl rfl ?_
      refine sP (opp_as (v := .int _ _) rfl rfl) rfl rfl ?_
      refine sP (opp_as (v := .err _) rfl rfl) rfl rfl ?_
      refine awp_seq ?_
      refine awp_region rfl ?_
      refine sP (opp_mv (v := .int _ _) rfl rfl) rfl rfl ?_
      refine sP (opp_mv (v := .str _) rfl rfl) rfl rfl ?_
      refine sP (opp_lenStr rfl rfl un9) rfl rfl ?_
      refine sP (opp_cmp rfl rfl rfl rfl) rfl rfl ?_
      refine awp_cond _ rfl (fun hc12 => ?_) (fun hc12 => ?_)
      · (try simp only [cmpI, errD_nil, Bool.not_eq_true', Bool.not_eq_false', decide_eq_true_eq, decide_eq_false_iff_not] at hc12); have ht39 := hc12
        refine awp_seq ?_
        refine awp_draw hmix rfl (by kernel_rfl) ?_
        refine dP (fun _ => false) (opp_build rfl z29 bld29 rfl [.int .i64 0, .int .i64 0, .agg [.int .i64 0, .int .i64 0, .int .i64 0], .int .i64 0, .int .i64 0, .int .i64 0, .int .u32 0, .str []] rfl) rfl rfl ?_
        refine dP (fun _ => false) (opp_loadF rfl (ev_glob hG4) ty42) rfl rfl ?_
        refine dR0 (fun n => Nat.beq n 2) (opr_store (v := .agg _) (trn := (.agg _)) rfl rfl rfl rfl bi rfl rfl rfl rfl fr2 ty29 (fun _ _ h => h)) rfl rfl rfl ?_
        refine dP (fun _ => false) (opp_as (v := .err _) rfl rfl) rfl rfl ?_
        refine And.intro (by kernel_rfl) ?_
        refine awp_ret ?_
        repeat (first | refine athen_ret ?_ | refine ain_ret ?_)
        first
          | refine apost_ret (aend (l := [.agg _, .err _]) (.cell rfl rfl rfl (by exact True.intro) rfl ty29 (.tmp .nil)) (fun h => by cases h) (.cons (.noN rfl rfl) (.cons (.noN rfl rfl) .nil)) ⟨Wk.v ?_, rfl, rfl⟩)
          | refine apost_ret (aends (l := [.agg _, .err _]) (.cell rfl rfl rfl (by exact True.intro) rfl ty29 (.tmp .nil)) (fun h => by cases h) (.cons shut (fun h => by cases h) (.cons shut (fun h => by cases h) .nil)) rfl ⟨Wk.v ?_, rfl, rfl⟩)
        rw [show Sp.get s = (Sp.zero, 5) by rw [Sp.get, if_neg (by simpa using ht21), if_neg (by omega), if_pos (by omega)]]; exact .refl
      · (try simp only [cmpI, errD_nil, Bool.not_eq_true', Bool.not_eq_false', decide_eq_true_eq, decide_eq_false_iff_not] at hc12); have ht39 := hc12
        refine awp_skip ?_
        refine awp_seq ?_
        refine awp_region rfl ?_
        refine sR (opr_alloc (n := 9) rfl z29) rfl rfl rfl ?_
        refine awp_seq ?_
        refine awp_region rfl ?_
        first
          | refine sP (opp_mv (v := .ptr _ _ _) rfl rfl) rfl rfl ?_
          | refine sP (opp_mv (v := .fptr _) rfl rfl) rfl rfl ?_
        refine sR (opr_callG (rl := [(1, 30)]) (r1 := .tup [.int _ _, .err _]) (H1 := [(30, some (.agg [.sl _ _ _ _, .int _ _, .int _ _]))]) (n1 := []) rfl rfl ent52 (cg52c (Sp.opened s).1 false 2 (Sp.opened s).1.length (by omega) (by omega) (by omega)) (And.intro (And.intro rfl wka) True.intro) (And.intro (And.intro rfl (Exists.intro _ (And.intro rfl wkc))) True.intro) rfl rfl rfl rfl) rfl rfl rfl ?_
        refine sP (opp_mv (v := .tup _) rfl rfl) rfl rfl ?_
        refine sP (opp_extract rfl rfl rfl) rfl rfl ?_
        refine sP (opp_extract rfl rfl rfl) rfl rfl ?_
        first
          | refine sP (opp_fieldP rfl rfl fld29_0 rfl) rfl rfl ?_
          | refine sP (opp_fieldF rfl rfl rfl fld29_0 rfl rfl) rfl rfl ?_
        refine sR0 (opr_store (v := .int _ _) (trn := (.agg [.int _ _, _, _, _, _, _, _, _])) rfl rfl rfl rfl bi rfl rfl rfl rfl fr2 ty3 (fun _ _ h => h)) rfl rfl rfl ?_
        refine awp_seq ?_
        refine awp_region rfl ?_
        first
          | refine sP (opp_mv (v := .ptr _ _ _) rfl rfl) rfl rfl ?_
          | refine sP (opp_mv (v := .fptr _) rfl rfl) rfl rfl ?_
        refine sR (opr_callG (rl := [(1, 30)]) (r1 := .tup [.int _ _, .err _]) (H1 := [(30, some (.agg [.sl _ _ _ _, .int _ _, .int _ _]))]) (n1 := []) rfl rfl ent52 (cg52c (Sp.opened s).1 false 3 (Sp.opened s).1.length (by omega) (by omega) (by omega)) (And.intro (And.intro rfl wka) True.intro) (And.intro (And.intro rfl (Exists.intro _ (And.intro rfl wkc))) True.intro) rfl rfl rfl rfl) rfl rfl rfl ?_
        refine sP (opp_mv (v := .tup _) rfl rfl) rfl rfl ?_
        refine sP (opp_extract rfl rfl rfl) rfl rfl ?_
        refine sP (opp_extract rfl rfl rfl) rfl rfl ?_
        first
          | refine sP (opp_fieldP rfl rfl fld29_1 rfl) rfl rfl ?_
          | refine sP (opp_fieldF rfl rfl rfl fld29_1 rfl rfl) rfl rfl ?_
        refine sR0 (opr_store (v := .int _ _) (trn := (.agg [_, .int _ _, _, _, _, _, _, _])) rfl rfl rfl rfl bi rfl rfl rfl rfl fr2 ty3 (fun _ _ h => h)) rfl rfl rfl ?_
        refine awp_seq ?_
        refine awp_region rfl ?_
        first
          | refine sP (opp_mv (v := .ptr _ _ _) rfl rfl) rfl rfl ?_
          | refine sP (opp_mv (v := .fptr _) rfl rfl) rfl rfl ?_
        refine sR (opr_callG (rl := [(1, 30)]) (r1 := .tup [.int _ _, .err _]) (H1 := [(30, some (.agg [.sl _ _ _ _, .int _ _, .int _ _]))]) (n1 := []) rfl rfl ent53 (cg53c (Sp.opened s).1 false 4 (Sp.opened s).1.length (by omega) (by omega) (by omega)) (And.intro (And.intro rfl wka) True.intro) (And.intro (And.intro rfl (Exists.intro _ (And.intro rfl wkc))) True.intro) rfl rfl rfl rfl) rfl rfl rfl ?_
        refine sP (opp_mv (v := .tup _) rfl rfl) rfl rfl ?_
        refine sP (opp_extract rfl rfl rfl) rfl rfl ?_
        refine sP (opp_extract rfl rfl rfl) rfl rfl ?_
        first
          | refine sP (opp_fieldP rfl rfl fld29_2 rfl) rfl rfl ?_
          | refine sP (opp_fieldF rfl rfl rfl fld29_2 rfl rfl) rfl rfl ?_
        first
          | refine sP (opp_fieldP rfl rfl fld23_0 rfl) rfl rfl ?_
          | refine sP (opp_fieldF rfl rfl rfl fld23_0 rfl rfl) rfl rfl ?_
        refine sR0 (opr_store (v := .int _ _) (trn := (.agg [_, _, .agg [.int _ _, _, _], _, _, _, _, _])) rfl rfl rfl rfl bi rfl rfl rfl rfl fr2 ty3 (fun _ _ h => h)) rfl rfl rfl ?_
        refine awp_seq ?_
        refine awp_region rfl ?_
        first
          | refine sP (opp_mv (v := .ptr _ _ _) rfl rfl) rfl rfl ?_
          | refine sP (opp_mv (v := .fptr _) rfl rfl) rfl rfl ?_
        refine sR (opr_callG (rl := [(1, 30)]) (r1 := .tup [.int _ _, .err _]) (H1 := [(30, some (.agg [.sl _ _ _ _, .int _ _, .int _ _]))]) (n1 := []) rfl rfl ent53 (cg53c (Sp.opened s).1 false 8 (Sp.opened s).1.length (by omega) (by omega) (by omega)) (And.intro (And.intro rfl wka) True.intro) (And.intro (And.intro rfl (Exists.intro _ (And.intro rfl wkc))) True.intro) rfl rfl rfl rfl) rfl rfl rfl ?_
        refine sP (opp_mv (v := .tup _) rfl rfl) rfl rfl ?_
        refine sP (opp_extract rfl rfl rfl) rfl rfl ?_
        refine sP (opp_extract rfl rfl rfl) rfl rfl ?_
        first
          | refine sP (opp_fieldP rfl rfl fld29_2 rfl) rfl rfl ?_
          | refine sP (opp_fieldF rfl rfl rfl fld29_2 rfl rfl) rfl rfl ?_
        first
          | refine sP (opp_fieldP rfl rfl fld23_1 rfl) rfl rfl ?_
          | refine sP (opp_fieldF rfl rfl rfl fld23_1 rfl rfl) rfl rfl ?_
        refine sR0 (opr_store (v := .int _ _) (trn := (.agg [_, _, .agg [_, .int _ _, _], _, _, _, _, _])) rfl rfl rfl rfl bi rfl rfl rfl rfl fr2 ty3 (fun _ _ h => h)) rfl rfl rfl ?_
        refine awp_seq ?_
        refine awp_region rfl ?_
        first
          | refine sP (opp_mv (v := .ptr _ _ _) rfl rfl) rfl rfl ?_
          | refine sP (opp_mv (v := .fptr _) rfl rfl) rfl rfl ?_
        refine sR (opr_callG (rl := [(1, 30)]) (r1 := .tup [.int _ _, .err _]) (H1 := [(30, some (.agg [.sl _ _ _ _, .int _ _, .int _ _]))]) (n1 := []) rfl rfl ent53 (cg53c (Sp.opened s).1 false 12 (Sp.opened s).1.length (by omega) (by omega) (by omega)) (And.intro (And.intro rfl wka) True.intro) (And.intro (And.intro rfl (Exists.intro _ (And.intro rfl wkc))) True.intro) rfl rfl rfl rfl) rfl rfl rfl ?_
        refine sP (opp_mv (v := .tup _) rfl rfl) rfl rfl ?_
        refine sP (opp_extract rfl rfl rfl) rfl rfl ?_
        refine sP (opp_extract rfl rfl rfl) rfl rfl ?_
        first
          | refine sP (opp_fieldP rfl rfl fld29_2 rfl) rfl rfl ?_
          | refine sP (opp_fieldF rfl rfl rfl fld29_2 rfl rfl) rfl rfl ?_
        first
          | refine sP (opp_fieldP rfl rfl fld23_2 rfl) rfl rfl ?_
          | refine sP (opp_fieldF rfl rfl rfl fld23_2 rfl rfl) rfl rfl ?_
        refine sR0 (opr_store (v := .int _ _) (trn := (.agg [_, _, .agg [_, _, .int _ _], _, _, _, _, _])) rfl rfl rfl rfl bi rfl rfl rfl rfl fr2 ty3 (fun _ _ h => h)) rfl rfl rfl ?_
        refine awp_seq ?_
        refine awp_region rfl ?_
        first
          | refine sP (opp_mv (v := .ptr _ _ _) rfl rfl) rfl rfl ?_
          | refine sP (opp_mv (v := .fptr _) rfl rfl) rfl rfl ?_
        refine sR (opr_callG (rl := [(1, 30)]) (r1 := .tup [.int _ _, .err _]) (H1 := [(30, some (.agg [.sl _ _ _ _, .int _ _, .int _ _]))]) (n1 := []) rfl rfl ent52 (cg52c (Sp.opened s).1 false 16 (Sp.opened s).1.length (by omega) (by omega) (by omega)) (And.intro (And.intro rfl wka) True.intro) (And.intro (And.intro rfl (Exists.intro _ (And.intro rfl wkc))) True.intro) rfl rfl rfl rfl) rfl rfl rfl ?_
        refine sP (opp_mv (v := .tup _) rfl rfl) rfl rfl ?_
        refine sP (opp_extract rfl rfl rfl) rfl rfl ?_
        refine sP (opp_extract rfl rfl rfl) rfl rfl ?_
        first
          | refine sP (opp_fieldP rfl rfl fld29_3 rfl) rfl rfl ?_
          | refine sP (opp_fieldF rfl rfl rfl fld29_3 rfl rfl) rfl rfl ?_
        refine sR0 (opr_store (v := .int _ _) (trn := (.agg [_, _, _, .int _ _, _, _, _, _])) rfl rfl rfl rfl bi rfl rfl rfl rfl fr2 ty3 (fun _ _ h => h)) rfl rfl rfl ?_
        refine awp_seq ?_
        refine awp_region rfl ?_
        first
          | refine sP (opp_mv (v := .ptr _ _ _) rfl rfl) rfl rfl ?_
          | refine sP (opp_mv (v := .fptr _) rfl rfl) rfl rfl ?_
        refine sR (opr_callG (rl := [(1, 30)]) (r1 := .tup [.int _ _, .err _]) (H1 := [(30, some (.agg [.sl _ _ _ _, .int _ _, .int _ _]))]) (n1 := []) rfl rfl ent52 (cg52c (Sp.opened s).1 false 17 (Sp.opened s).1.length (by omega) (by omega) (by omega)) (And.intro (And.intro rfl wka) True.intro) (And.intro (And.intro rfl (Exists.intro _ (And.intro rfl wkc))) True.intro) rfl rfl rfl rfl) rfl rfl rfl ?_
        refine sP (opp_mv (v := .tup _) rfl rfl) rfl rfl ?_
        refine sP (opp_extract rfl rfl rfl) rfl rfl ?_
        refine sP (opp_extract rfl rfl rfl) rfl rfl ?_
        first
          | refine sP (opp_fieldP rfl rfl fld29_4 rfl) rfl rfl ?_
          | refine sP (opp_fieldF rfl rfl rfl fld29_4 rfl rfl) rfl rfl ?_
        refine sR0 (opr_store (v := .int _ _) (trn := (.agg [_, _, _, _, .int _ _, _, _, _])) rfl rfl rfl rfl bi rfl rfl rfl rfl fr2 ty3 (fun _ _ h => h)) rfl rfl rfl ?_
        refine awp_seq ?_
        refine awp_region rfl ?_
        first
          | refine sP (opp_mv (v := .ptr _ _ _) rfl rfl) rfl rfl ?_
          | refine sP (opp_mv (v := .fptr _) rfl rfl) rfl rfl ?_
        refine sR (opr_callG (rl := [(1, 30)]) (r1 := .tup [.int _ _, .err _]) (H1 := [(30, some (.agg [.sl _ _ _ _, .int _ _, .int _ _]))]) (n1 := []) rfl rfl ent52 (cg52c (Sp.opened s).1 false 18 (Sp.opened s).1.length (by omega) (by omega) (by omega)) (And.intro (And.intro rfl wka) True.intro) (And.intro (And.intro rfl (Exists.intro _ (And.intro rfl wkc))) True.intro) rfl rfl rfl rfl) rfl rfl rfl ?_
        refine sP (opp_mv (v := .tup _) rfl rfl) rfl rfl ?_
        refine sP (opp_extract rfl rfl rfl) rfl rfl ?_
        refine sP (opp_extract rfl rfl rfl) rfl rfl ?_
        first
          | refine sP (opp_fieldP rfl rfl fld29_5 rfl) rfl rfl ?_
          | refine sP (opp_fieldF rfl rfl rfl fld29_5 rfl rfl) rfl rfl ?_
        refine sR0 (opr_store (v := .int _ _) (trn := (.agg [_, _, _, _, _, .int _ _, _, _])) rfl rfl rfl rfl bi rfl rfl rfl rfl fr2 ty3 (fun _ _ h => h)) rfl rfl rfl ?_
        refine awp_seq ?_
        refine awp_region rfl ?_
        first
          | refine sP (opp_mv (v := .ptr _ _ _) rfl rfl) rfl rfl ?_
          | refine sP (opp_mv (v := .fptr _) rfl rfl) rfl rfl ?_
        refine sR (opr_callG (rl := [(1, 30)]) (r1 := .tup [.int _ _, .err _]) (H1 := [(30, some (.agg [.sl _ _ _ _, .int _ _, .int _ _]))]) (n1 := []) rfl rfl ent53 (cg53c (Sp.opened s).1 false 19 (Sp.opened s).1.length (by omega) (by omega) (by omega)) (And.intro (And.intro rfl wka) True.intro) (And.intro (And.intro rfl (Exists.intro _ (And.intro rfl wkc))) True.intro) rfl rfl rfl rfl) rfl rfl rfl ?_
        refine sP (opp_mv (v := .tup _) rfl rfl) rfl rfl ?_
        refine sP (opp_extract rfl rfl rfl) rfl rfl ?_
        refine sP (opp_extract rfl rfl rfl) rfl rfl ?_
        refine sP (opp_as (v := .int _ _) rfl rfl) rfl rfl ?_
        refine sP (opp_as (v := .err _) rfl rfl) rfl rfl ?_
        refine awp_seq ?_
        refine awp_region rfl ?_
        first
          | refine sP (opp_mv (v := .ptr _ _ _) rfl rfl) rfl rfl ?_
          | refine sP (opp_mv (v := .fptr _) rfl rfl) rfl rfl ?_
        first
          | refine sP (opp_mv (v := .ptr _ _ _) rfl rfl) rfl rfl ?_
          | refine sP (opp_mv (v := .fptr _) rfl rfl) rfl rfl ?_
        refine sR (opr_callG (rl := [(1, 30)]) (r1 := .int _ _) (H1 := [(30, some (.agg [.sl _ _ _ _, .int _ _, .int _ _]))]) (n1 := []) rfl rfl ent55 (cg55c (Sp.opened s).1 false 23 (Sp.opened s).1.length (by omega) (by omega)) (And.intro (And.intro rfl wka) True.intro) (And.intro (And.intro rfl (Exists.intro _ (And.intro rfl wkc))) True.intro) rfl rfl rfl rfl) rfl rfl rfl ?_
        refine sR (opr_callG (rl := [(1, 30)]) (r1 := .tup [.sl _ _ _ _, .err _]) (H1 := [(30, some (.agg [.sl _ _ _ _, .int _ _, .int _ _]))]) (n1 := []) rfl rfl ent54 (cg54c (Sp.opened s).1 23 (Sp.opened s).1.length ((Sp.opened s).1.length - 23) (by omega) (by omega) (by omega)) (And.intro (And.intro rfl wka) (And.intro (And.intro rfl wka) True.intro)) (And.intro (And.intro rfl (Exists.intro _ (And.intro rfl wkc))) True.intro) rfl rfl rfl rfl) rfl rfl rfl ?_
        refine sP (opp_mv (v := .tup _) rfl rfl) rfl rfl ?_
        refine sP (opp_extract rfl rfl rfl) rfl rfl ?_
        refine sP (opp_extract rfl rfl rfl) rfl rfl ?_
        first
          | refine sP (opp_as (v := .sl _ _ _ _) rfl rfl) rfl rfl ?_
          | refine sP (opp_as (v := .osl _ _ _ _ _) rfl rfl) rfl rfl ?_
        refine sP (opp_as (v := .err _) rfl rfl) rfl rfl ?_
        refine awp_seq ?_
        refine awp_seq ?_
        rw [show ((Sp.opened s).1.drop 23).take ((Sp.opened s).1.length - 23) = (Sp.opened s).1.drop 23 from List.take_of_length_le (by rw [List.length_drop]; omega)]
        refine awp_region rfl ?_
        refine sP (opp_mv (v := .err _) rfl rfl) rfl rfl ?_
        refine sP (opp_errNil rfl rfl rfl un42 (.inr ⟨rfl, rfl⟩)) rfl rfl ?_
        refine awp_cond _ rfl (fun hc26 => ?_) (fun hc26 => ?_)
        · (try simp only [cmpI, errD_nil, Bool.not_eq_true', Bool.not_eq_false', decide_eq_true_eq, decide_eq_false_iff_not] at hc26); have ht106 := hc26
          exact absurd ht106 (by decide)
        · (try simp only [cmpI, errD_nil, Bool.not_eq_true', Bool.not_eq_false', decide_eq_true_eq, decide_eq_false_iff_not] at hc26); have ht106 := hc26
          refine awp_skip ?_
          refine awp_seq ?_
          refine awp_draw hmix rfl (by kernel_rfl) ?_
          refine dP (fun _ => false) (opp_mv (v := .int _ _) rfl rfl) rfl rfl ?_
          first
            | refine dP (fun n => !([9, 112] : List Nat).contains n) (opp_convInt rfl rfl un3s un27 (wu32 (by omega))) rfl rfl ?_
            | refine dP (fun n => !([9, 112] : List Nat).contains n) (opp_convInt rfl rfl un3s un27 rfl) rfl rfl ?_
          first
            | refine dP (fun _ => false) (opp_mv (v := .sl _ _ _ _) rfl rfl) rfl rfl ?_
            | refine dP (fun _ => false) (opp_mv (v := .osl _ _ _ _ _) rfl rfl) rfl rfl ?_
          first
            | refine dP (fun n => !([9, 110] : List Nat).contains n) (opp_bytesStr rfl rfl _ rfl (fun j hj => rfl) un36 unu8 un9) rfl rfl ?_
            | refine dP (fun n => !([9, 110] : List Nat).contains n) (opp_bytesStrR rfl (.osl0 rfl (Nat.le_refl _)) _ rfl (fun j hj => rfl) un36 unu8 un9) rfl rfl ?_
          first
            | refine dP (fun _ => false) (opp_fieldP rfl rfl fld29_6 rfl) rfl rfl ?_
            | refine dP (fun _ => false) (opp_fieldF rfl rfl rfl fld29_6 rfl rfl) rfl rfl ?_
          refine dR0 (fun n => Nat.beq n 9) (opr_store (v := .int _ _) (trn := (.agg [_, _, _, _, _, _, .int _ _, _])) rfl rfl rfl rfl bi rfl rfl rfl rfl fr2 ty27 (fun _ _ h => h)) rfl rfl rfl ?_
          first
            | refine dP (fun _ => false) (opp_fieldP rfl rfl fld29_7 rfl) rfl rfl ?_
            | refine dP (fun _ => false) (opp_fieldF rfl rfl rfl fld29_7 rfl rfl) rfl rfl ?_
          refine dR0 (fun n => Nat.beq n 9) (opr_store (v := .str _) (trn := (.agg [_, _, _, _, _, _, _, .str _])) rfl rfl rfl rfl bi rfl rfl rfl rfl fr2 ty9 (fun _ _ h => h)) rfl rfl rfl ?_
          refine And.intro (by kernel_rfl) ?_
          refine awp_seq ?_
          refine awp_seq ?_
          refine awp_region rfl ?_
          first
            | refine sP (opp_loadP rfl rfl rfl rfl bi rfl ty29) rfl rfl ?_
            | refine sP (opp_loadF rfl rfl ty29) rfl rfl ?_
          refine sR (opr_call rfl rfl ent41 rfl (c41 (Sp.noteOf (Sp.opened s).1) hG7 hG10) (AViews.refl _ rfl)) rfl rfl rfl ?_ -- d=116 t=42
          refine sP (opp_as (v := .err _) rfl rfl) rfl rfl ?_
          refine awp_seq ?_
          refine awp_region rfl ?_
          refine sP (opp_mv (v := .err _) rfl rfl) rfl rfl ?_
          refine sP (opp_errNil rfl rfl rfl un42 (.inr ⟨rfl, rfl⟩)) rfl rfl ?_
          refine awp_cond _ rfl (fun hc30 => ?_) (fun hc30 => ?_)
          · (try simp only [cmpI, errD_nil, Bool.not_eq_true', Bool.not_eq_false', decide_eq_true_eq, decide_eq_false_iff_not] at hc30); have ht118 := hc30
            refine awp_seq ?_
            refine awp_region rfl ?_
            refine sP (opp_build rfl z29 bld29 rfl [.int .i64 0, .int .i64 0, .agg [.int .i64 0, .int .i64 0, .int .i64 0], .int .i64 0, .int .i64 0, .int .i64 0, .int .u32 0, .str []] rfl) rfl rfl ?_
            refine sP (opp_mv (v := .err _) rfl rfl) rfl rfl ?_
            refine sR0 (opr_store (v := .agg _) (trn := (.agg _)) rfl rfl rfl rfl bi rfl rfl rfl rfl fr2 ty29 (fun _ _ h => h)) rfl rfl rfl ?_
            refine sP (opp_as (v := .err _) rfl rfl) rfl rfl ?_
            refine awp_ret ?_
            repeat (first | refine athen_ret ?_ | refine ain_ret ?_)
            first
              | refine apost_ret (aend (l := [.agg _, .err _]) (.cell rfl rfl rfl (by exact True.intro) rfl ty29 (.tmp .nil)) (fun h => by cases h) (.cons (.noN rfl rfl) (.cons (.noN rfl rfl) .nil)) ⟨Wk.v ?_, rfl, rfl⟩)
              | refine apost_ret (aends (l := [.agg _, .err _]) (.cell rfl rfl rfl (by exact True.intro) rfl ty29 (.tmp .nil)) (fun h => by cases h) (.cons shut (fun h => by cases h) (.cons shut (fun h => by cases h) .nil)) rfl ⟨Wk.v ?_, rfl, rfl⟩)
            rw [show Sp.get s = (Sp.zero, Sp.check (Sp.noteOf (Sp.opened s).1)) by rw [Sp.get, if_neg (by simpa using ht21), if_neg (by omega), if_neg (by omega), if_pos ht118]]; exact .refl
          · (try simp only [cmpI, errD_nil, Bool.not_eq_true', Bool.not_eq_false', decide_eq_true_eq, decide_eq_false_iff_not] at hc30); have ht118 := hc30
            refine awp_skip ?_
            refine awp_seq ?_
            refine awp_region rfl ?_
            first
              | refine sP (opp_loadP rfl rfl rfl rfl bi rfl ty29) rfl rfl ?_
              | refine sP (opp_loadF rfl rfl ty29) rfl rfl ?_
            refine sR0 (opr_store (v := .agg _) (trn := (.agg _)) rfl rfl rfl rfl bi rfl rfl rfl rfl fr2 ty29 (fun _ _ h => h)) rfl rfl rfl ?_
            refine sP (opp_as (v := .err _) rfl rfl) rfl rfl ?_
            refine awp_ret ?_
            repeat (first | refine athen_ret ?_ | refine ain_ret ?_)
            first
              | refine apost_ret (aend (l := [.agg _, .err _]) (.cell rfl rfl rfl (by exact True.intro) rfl ty29 (.tmp .nil)) (fun h => by cases h) (.cons (.noN rfl rfl) (.cons (.noN rfl rfl) .nil)) ⟨Wk.v ?_, rfl, rfl⟩)
              | refine apost_ret (aends (l := [.agg _, .err _]) (.cell rfl rfl rfl (by exact True.intro) rfl ty29 (.tmp .nil)) (fun h => by cases h) (.cons shut (fun h => by cases h) (.cons shut (fun h => by cases h) .nil)) rfl ⟨Wk.v ?_, rfl, rfl⟩)
            rw [show Sp.get s = (Sp.noteOf (Sp.opened s).1, 0) by rw [Sp.get, if_neg (by simpa using ht21), if_neg (by omega), if_neg (by omega), if_neg (by simpa using ht118)]]; exact .refl
end
end Go.Proofs.YtgaihhimkodmmaaGreatDoor
/- Layer 20: stages go on (walks over this dump). -/
namespace Go.Proofs.YtgaihhimkodmmaaGreatDoor
attribute [local irreducible] Tryz.prog
open Go.Fy
set_option linter.unusedSimpArgs false
section
variable {ea : Nat → Addr} {cds : List Nat} {gl : Nat → Option AV}
theorem c12 (b : Bool) (s : Stage) (n : Note) (h0 : b = true → s.pieces.length = 0) (hG0 : gl 0 = some (.err (.code 9))) (hG7 : gl 7 = some (.err (.code 7))) (hG1 : gl 1 = some (.err (.code 10))) (hG2 : gl 2 = some (.err (.code 14))) (hG10 : gl 10 = some (.err (.code 4))) :
    APure (V ea cds gl) 12 [stageAV b s, noteAV n] false (.tup [stageAV (decide ((Sp.add s n).2.2 ≠ 0)) (Sp.add s n).1, .bool (Sp.add s n).2.1, .err (errD (Sp.add s n).2.2)]) := by
  refine acalls_of_body (N := 78) Tryz.func12 rfl rfl (Nat.le_of_ble_eq_true rfl) fun C hV hN hM hO => ?_
  obtain ⟨_, _, w0, G0, σ0, _, own0⟩ := C; dsimp only at hV hN hM hO; subst hV; subst hN; subst hM
  refine awp_seq ?_
  refine awp_region rfl ?_
  refine sR (opr_box (y := .agg _) (n := 2) rfl rfl rfl) rfl rfl rfl ?_
  refine sR (opr_box (y := .agg _) (n := 3) rfl rfl rfl) rfl rfl rfl ?_
  refine sR (opr_alloc (n := 4) rfl z37) rfl rfl rfl ?_
  refine sP (opp_as (v := .bool _) rfl rfl) rfl rfl ?_
  refine sP (opp_as (v := .err _) rfl rfl) rfl rfl ?_
  refine awp_seq ?_
  refine awp_seq ?_
  refine awp_region rfl ?_
  first
    | refine sP (opp_loadP rfl rfl rfl rfl bi rfl ty37) rfl rfl ?_
    | refine sP (opp_loadF rfl rfl ty37) rfl rfl ?_
  refine sR (opr_call rfl rfl ent20 rfl (c20 _ _) (AViews.refl _ rfl)) rfl rfl rfl ?_ -- d=10 t=4
  refine sP (opp_not rfl rfl) rfl rfl ?_
  refine awp_cond _ rfl (fun hc3 => ?_) (fun hc3 => ?_)
  · (try simp only [cmpI, errD_nil, Bool.not_eq_true', Bool.not_eq_false', decide_eq_true_eq, decide_eq_false_iff_not] at hc3); have ht11 := hc3
    refine awp_seq ?_
    refine awp_draw hmix rfl (by kernel_rfl) ?_
    refine dP (fun _ => false) (opp_build rfl z37 bld37 rfl [.int .i64 0, .int .i64 0, .int .i64 0, .agg [.int .i64 0, .int .i64 0, .int .i64 0], .sl 1 true 0 (fun _ => .top)] rfl) rfl rfl ?_
    refine dP (fun _ => false) (opp_loadF rfl (ev_glob hG0) ty42) rfl rfl ?_
    refine dR0 (fun n => Nat.beq n 4) (opr_store (v := .agg _) (trn := (.agg _)) rfl rfl rfl rfl bi rfl rfl rfl rfl fr2 ty37 (fun _ _ h => h)) rfl rfl rfl ?_
    refine dP (fun _ => false) (opp_as (v := .bool _) rfl rfl) rfl rfl ?_
    refine dP (fun _ => false) (opp_as (v := .err _) rfl rfl) rfl rfl ?_
    refine And.intro (by kernel_rfl) ?_
    refine awp_ret ?_
    repeat (first | refine athen_ret ?_ | refine ain_ret ?_)
    first
      | refine apost_ret (aend (l := [.agg _, .bool _, .err _]) (.cell rfl rfl rfl (by exact True.intro) rfl ty37 (.tmp (.tmp .nil))) (fun h => by cases h) (.cons (.noN rfl rfl) (.cons (.noN rfl rfl) (.cons (.noN rfl rfl) .nil))) ⟨Wk.v ?_, rfl, rfl⟩)
      | refine apost_ret (aends (l := [.agg _, .bool _, .err _]) (.cell rfl rfl rfl (by exact True.intro) rfl ty37 (.tmp (.tmp .nil))) (fun h => by cases h) (.cons shut (fun h => by cases h) (.cons shut (fun h => by cases h) (.cons shut (fun h => by cases h) .nil))) rfl ⟨Wk.v ?_, rfl, rfl⟩)
    rw [show Sp.add s n = (Sp.zeroS, false, 9) by simp [Sp.add, hc3]]; show Wk _ (.tup [stageAV true Sp.zeroS, .bool false, .err (.code 9)]); simp only [stageAV, Sp.zeroS, xidAV, List.length_nil]; (repeat' (first | exact Wk.refl | exact Wk.sl0 | apply Wk.tup | apply Wk.agg | apply WkL.cons | exact WkL.nil | refine Wk.sl (fun _ _ => ?_)))
  · (try simp only [cmpI, errD_nil, Bool.not_eq_true', Bool.not_eq_false', decide_eq_true_eq, decide_eq_false_iff_not] at hc3); have ht11 := hc3
    refine awp_skip ?_
    refine awp_seq ?_
    refine awp_seq ?_
    have hgs : Sp.goodS s = true := by simpa using hc3
    have hgb := Sp.goodS_bounds hgs
    have hb0 : b = false := by cases b with
      | false => rfl
      | true => have := h0 rfl; omega
    subst hb0
    refine awp_region rfl ?_
    first
      | refine sP (opp_loadP rfl rfl rfl rfl bi rfl ty29) rfl rfl ?_
      | refine sP (opp_loadF rfl rfl ty29) rfl rfl ?_
    refine sR (opr_call rfl rfl ent30 rfl (c30 _ hG7 hG10) (AViews.refl _ rfl)) rfl rfl rfl ?_ -- d=15 t=42
    refine sP (opp_as (v := .err _) rfl rfl) rfl rfl ?_
    refine awp_seq ?_
    refine awp_region rfl ?_
    refine sP (opp_mv (v := .err _) rfl rfl) rfl rfl ?_
    refine sP (opp_errNil rfl rfl rfl un42 (.inr ⟨rfl, rfl⟩)) rfl rfl ?_
    refine awp_cond _ rfl (fun hc7 => ?_) (fun hc7 => ?_)
    · (try simp only [cmpI, errD_nil, Bool.not_eq_true', Bool.not_eq_false', decide_eq_true_eq, decide_eq_false_iff_not] at hc7); have ht17 := hc7
      refine awp_seq ?_
      refine awp_region rfl ?_
      refine sP (opp_build rfl z37 bld37 rfl [.int .i64 0, .int .i64 0, .int .i64 0, .agg [.int .i64 0, .int .i64 0, .int .i64 0], .sl 1 true 0 (fun _ => .top)] rfl) rfl rfl ?_
      refine sP (opp_mv (v := .err _) rfl rfl) rfl rfl ?_
      refine sR0 (opr_store (v := .agg _) (trn := (.agg _)) rfl rfl rfl rfl bi rfl rfl rfl rfl fr2 ty37 (fun _ _ h => h)) rfl rfl rfl ?_
      refine sP (opp_as (v := .bool _) rfl rfl) rfl rfl ?_
      refine sP (opp_as (v := .err _) rfl rfl) rfl rfl ?_
      refine awp_ret ?_
      repeat (first | refine athen_ret ?_ | refine ain_ret ?_)
      first
        | refine apost_ret (aend (l := [.agg _, .bool _, .err _]) (.cell rfl rfl rfl (by exact True.intro) rfl ty37 (.tmp (.tmp .nil))) (fun h => by cases h) (.cons (.noN rfl rfl) (.cons (.noN rfl rfl) (.cons (.noN rfl rfl) .nil))) ⟨Wk.v ?_, rfl, rfl⟩)
        | refine apost_ret (aends (l := [.agg _, .bool _, .err _]) (.cell rfl rfl rfl (by exact True.intro) rfl ty37 (.tmp (.tmp .nil))) (fun h => by cases h) (.cons shut (fun h => by cases h) (.cons shut (fun h => by cases h) (.cons shut (fun h => by cases h) .nil))) rfl ⟨Wk.v ?_, rfl, rfl⟩)
      rw [show Sp.add s n = (Sp.zeroS, false, Sp.chunk n) by simp [Sp.add, hc3, hc7]]; simp only [ne_eq, hc7, not_false_eq_true, decide_true, stageAV, Sp.zeroS, xidAV, List.length_nil]; (repeat' (first | exact Wk.refl | exact Wk.sl0 | apply Wk.tup | apply Wk.agg | apply WkL.cons | exact WkL.nil | refine Wk.sl (fun _ _ => ?_)))
    · (try simp only [cmpI, errD_nil, Bool.not_eq_true', Bool.not_eq_false', decide_eq_true_eq, decide_eq_false_iff_not] at hc7); have ht17 := hc7
      refine awp_skip ?_
      refine awp_seq ?_
      refine awp_seq ?_
      have hb := Sp.chunk_bounds hc7
      refine awp_region rfl ?_
      first
        | refine sP (opp_fieldP rfl rfl fld29_1 rfl) rfl rfl ?_
        | refine sP (opp_fieldF rfl rfl rfl fld29_1 rfl rfl) rfl rfl ?_
      first
        | refine sP (opp_loadP rfl rfl rfl rfl bi rfl ty3) rfl rfl ?_
        | refine sP (opp_loadF rfl rfl ty3) rfl rfl ?_
      first
        | refine sP (opp_fieldP rfl rfl fld37_0 rfl) rfl rfl ?_
        | refine sP (opp_fieldF rfl rfl rfl fld37_0 rfl rfl) rfl rfl ?_
      first
        | refine sP (opp_loadP rfl rfl rfl rfl bi rfl ty3) rfl rfl ?_
        | refine sP (opp_loadF rfl rfl ty3) rfl rfl ?_
      refine sP (opp_cmp rfl rfl rfl rfl) rfl rfl ?_
      refine sP (opp_mv (v := .bool _) rfl rfl) rfl rfl ?_
      first
        | refine sG _ rfl rfl rfl rfl (fun hg => (And.intro gi (True.intro))) (fun hg => opp_fieldP rfl rfl fld29_2 rfl) ?_
        | refine sG _ rfl rfl rfl rfl (fun hg => (And.intro gi (True.intro))) (fun hg => opp_fieldF rfl rfl rfl fld29_2 rfl rfl) ?_
      first
        | refine sG _ rfl rfl rfl rfl (fun hg => (And.intro gi (True.intro))) (fun hg => opp_loadP rfl rfl rfl rfl bi rfl ty23) ?_
        | refine sG _ rfl rfl rfl rfl (fun hg => (And.intro gi (True.intro))) (fun hg => opp_loadF rfl rfl ty23) ?_
      first
        | refine sG _ rfl rfl rfl rfl (fun hg => (And.intro gi (True.intro))) (fun hg => opp_fieldP rfl rfl fld37_3 rfl) ?_
        | refine sG _ rfl rfl rfl rfl (fun hg => (And.intro gi (True.intro))) (fun hg => opp_fieldF rfl rfl rfl fld37_3 rfl rfl) ?_
      first
        | refine sG _ rfl rfl rfl rfl (fun hg => (And.intro gi (True.intro))) (fun hg => opp_loadP rfl rfl rfl rfl bi rfl ty23) ?_
        | refine sG _ rfl rfl rfl rfl (fun hg => (And.intro gi (True.intro))) (fun hg => opp_loadF rfl rfl ty23) ?_
      refine sG _ rfl rfl rfl rfl (fun hg => (And.intro gi (And.intro gi (True.intro)))) (fun hg => opp_eqAgg rfl rfl rfl (eq23 ..) eg23 rfl (.inr ⟨rfl, rfl⟩)) ?_
      refine sPick rfl rfl rfl rfl (by exact True.intro) rfl rfl (fun hg => gi) (fun hg => gi) ?_
      refine sP (opp_mv (v := .bool _) rfl rfl) rfl rfl ?_
      first
        | refine sG _ rfl rfl rfl rfl (fun hg => (And.intro gi (True.intro))) (fun hg => opp_fieldP rfl rfl fld29_3 rfl) ?_
        | refine sG _ rfl rfl rfl rfl (fun hg => (And.intro gi (True.intro))) (fun hg => opp_fieldF rfl rfl rfl fld29_3 rfl rfl) ?_
      first
        | refine sG _ rfl rfl rfl rfl (fun hg => (And.intro gi (True.intro))) (fun hg => opp_loadP rfl rfl rfl rfl bi rfl ty3) ?_
        | refine sG _ rfl rfl rfl rfl (fun hg => (And.intro gi (True.intro))) (fun hg => opp_loadF rfl rfl ty3) ?_
      first
        | refine sG _ rfl rfl rfl rfl (fun hg => (And.intro gi (True.intro))) (fun hg => opp_fieldP rfl rfl fld37_1 rfl) ?_
        | refine sG _ rfl rfl rfl rfl (fun hg => (And.intro gi (True.intro))) (fun hg => opp_fieldF rfl rfl rfl fld37_1 rfl rfl) ?_
      first
        | refine sG _ rfl rfl rfl rfl (fun hg => (And.intro gi (True.intro))) (fun hg => opp_loadP rfl rfl rfl rfl bi rfl ty3) ?_
        | refine sG _ rfl rfl rfl rfl (fun hg => (And.intro gi (True.intro))) (fun hg => opp_loadF rfl rfl ty3) ?_
      refine sG _ rfl rfl rfl rfl (fun hg => (And.intro gi (And.intro gi (True.intro)))) (fun hg => opp_cmp rfl rfl rfl rfl) ?_
      refine sPick rfl rfl rfl rfl (by exact True.intro) rfl rfl (fun hg => gi) (fun hg => gi) ?_
      refine sP (opp_mv (v := .bool _) rfl rfl) rfl rfl ?_
      first
        | refine sG _ rfl rfl rfl rfl (fun hg => (And.intro gi (True.intro))) (fun hg => opp_fieldP rfl rfl fld29_5 rfl) ?_
        | refine sG _ rfl rfl rfl rfl (fun hg => (And.intro gi (True.intro))) (fun hg => opp_fieldF rfl rfl rfl fld29_5 rfl rfl) ?_
      first
        | refine sG _ rfl rfl rfl rfl (fun hg => (And.intro gi (True.intro))) (fun hg => opp_loadP rfl rfl rfl rfl bi rfl ty3) ?_
        | refine sG _ rfl rfl rfl rfl (fun hg => (And.intro gi (True.intro))) (fun hg => opp_loadF rfl rfl ty3) ?_
      first
        | refine sG _ rfl rfl rfl rfl (fun hg => (And.intro gi (True.intro))) (fun hg => opp_fieldP rfl rfl fld37_2 rfl) ?_
        | refine sG _ rfl rfl rfl rfl (fun hg => (And.intro gi (True.intro))) (fun hg => opp_fieldF rfl rfl rfl fld37_2 rfl rfl) ?_
      first
        | refine sG _ rfl rfl rfl rfl (fun hg => (And.intro gi (True.intro))) (fun hg => opp_loadP rfl rfl rfl rfl bi rfl ty3) ?_
        | refine sG _ rfl rfl rfl rfl (fun hg => (And.intro gi (True.intro))) (fun hg => opp_loadF rfl rfl ty3) ?_
      refine sG _ rfl rfl rfl rfl (fun hg => (And.intro gi (And.intro gi (True.intro)))) (fun hg => opp_cmp rfl rfl rfl rfl) ?_
      refine sPick rfl rfl rfl rfl (by exact True.intro) rfl rfl (fun hg => gi) (fun hg => gi) ?_
      refine awp_cond _ rfl (fun hc10 => ?_) (fun hc10 => ?_)
      · (try simp only [cmpI, errD_nil, Bool.not_eq_true', Bool.not_eq_false', decide_eq_true_eq, decide_eq_false_iff_not] at hc10); have ht45 := hc10
        refine awp_seq ?_
        refine awp_draw hmix rfl (by kernel_rfl) ?_
        refine dP (fun _ => false) (opp_build rfl z37 bld37 rfl [.int .i64 0, .int .i64 0, .int .i64 0, .agg [.int .i64 0, .int .i64 0, .int .i64 0], .sl 1 true 0 (fun _ => .top)] rfl) rfl rfl ?_
        refine dP (fun _ => false) (opp_loadF rfl (ev_glob hG1) ty42) rfl rfl ?_
        refine dR0 (fun n => Nat.beq n 4) (opr_store (v := .agg _) (trn := (.agg _)) rfl rfl rfl rfl bi rfl rfl rfl rfl fr2 ty37 (fun _ _ h => h)) rfl rfl rfl ?_
        refine dP (fun _ => false) (opp_as (v := .bool _) rfl rfl) rfl rfl ?_
        refine dP (fun _ => false) (opp_as (v := .err _) rfl rfl) rfl rfl ?_
        refine And.intro (by kernel_rfl) ?_
        refine awp_ret ?_
        repeat (first | refine athen_ret ?_ | refine ain_ret ?_)
        first
          | refine apost_ret (aend (l := [.agg _, .bool _, .err _]) (.cell rfl rfl rfl (by exact True.intro) rfl ty37 (.tmp (.tmp .nil))) (fun h => by cases h) (.cons (.noN rfl rfl) (.cons (.noN rfl rfl) (.cons (.noN rfl rfl) .nil))) ⟨Wk.v ?_, rfl, rfl⟩)
          | refine apost_ret (aends (l := [.agg _, .bool _, .err _]) (.cell rfl rfl rfl (by exact True.intro) rfl ty37 (.tmp (.tmp .nil))) (fun h => by cases h) (.cons shut (fun h => by cases h) (.cons shut (fun h => by cases h) (.cons shut (fun h => by cases h) .nil))) rfl ⟨Wk.v ?_, rfl, rfl⟩)
        have hq : n.part ≠ s.part ∨ n.xid ≠ s.xid ∨ n.stage ≠ s.stage ∨ n.total ≠ s.total := by
          refine Classical.byContradiction fun hne => ?_
          simp only [not_or, Decidable.not_not, ne_eq] at hne
          obtain ⟨h1, h2, h3, h4⟩ := hne
          simp [h1, h2, h3, h4] at hc10
        rw [show Sp.add s n = (Sp.zeroS, false, 10) by simp only [Sp.add, hgs, hc7]; simp [if_pos hq]]; show Wk _ (.tup [stageAV true Sp.zeroS, .bool false, .err (.code 10)]); simp only [stageAV, Sp.zeroS, xidAV, List.length_nil]; (repeat' (first | exact Wk.refl | exact Wk.sl0 | apply Wk.tup | apply Wk.agg | apply WkL.cons | exact WkL.nil | refine Wk.sl (fun _ _ => ?_)))
      · (try simp only [cmpI, errD_nil, Bool.not_eq_true', Bool.not_eq_false', decide_eq_true_eq, decide_eq_false_iff_not] at hc10); have ht45 := hc10
        refine awp_skip ?_
        refine awp_seq ?_
        have hq : n.part = s.part ∧ n.xid = s.xid ∧ n.stage = s.stage ∧ n.total = s.total := by
          rw [Xid.eq_iff]; simpa [and_assoc] using hc10
        refine awp_region rfl ?_
        first
          | refine sP (opp_fieldP rfl rfl fld37_4 rfl) rfl rfl ?_
          | refine sP (opp_fieldF rfl rfl rfl fld37_4 rfl rfl) rfl rfl ?_
        first
          | refine sP (opp_loadP rfl rfl rfl rfl bi rfl ty24) rfl rfl ?_
          | refine sP (opp_loadF rfl rfl ty24) rfl rfl ?_
        first
          | refine sP (opp_fieldP rfl rfl fld29_4 rfl) rfl rfl ?_
          | refine sP (opp_fieldF rfl rfl rfl fld29_4 rfl rfl) rfl rfl ?_
        first
          | refine sP (opp_loadP rfl rfl rfl rfl bi rfl ty3) rfl rfl ?_
          | refine sP (opp_loadF rfl rfl ty3) rfl rfl ?_
        first
          | refine sP (opp_indexSl rfl rfl rfl el24 (by omega) (by omega)) rfl rfl ?_
          | refine sP (opp_indexOsl0 rfl rfl rfl el24 (by omega) (by omega)) rfl rfl ?_
          | refine sP (opp_indexOsl rfl rfl rfl el24 (by omega) (by omega)) rfl rfl ?_
        first
          | refine sP (opp_loadP rfl rfl rfl rfl bi rfl ty9) rfl rfl ?_
          | refine sP (opp_loadF rfl rfl ty9) rfl rfl ?_
        refine sP (opp_as (v := .str _) rfl rfl) rfl rfl ?_
        refine awp_seq ?_
        refine awp_seq ?_
        refine awp_region rfl ?_
        refine sP (opp_mv (v := .str _) rfl rfl) rfl rfl ?_
        refine sP (opp_strEq (b := []) rfl rfl rfl (.inr ⟨rfl, rfl⟩)) rfl rfl ?_
        refine sP (opp_mv (v := .bool _) rfl rfl) rfl rfl ?_
        refine sG _ rfl rfl rfl rfl (fun hg => (And.intro gi (True.intro))) (fun hg => opp_mv (v := .str _) rfl rfl) ?_
        first
          | refine sG _ rfl rfl rfl rfl (fun hg => (And.intro gi (True.intro))) (fun hg => opp_fieldP rfl rfl fld29_7 rfl) ?_
          | refine sG _ rfl rfl rfl rfl (fun hg => (And.intro gi (True.intro))) (fun hg => opp_fieldF rfl rfl rfl fld29_7 rfl rfl) ?_
        first
          | refine sG _ rfl rfl rfl rfl (fun hg => (And.intro gi (True.intro))) (fun hg => opp_loadP rfl rfl rfl rfl bi rfl ty9) ?_
          | refine sG _ rfl rfl rfl rfl (fun hg => (And.intro gi (True.intro))) (fun hg => opp_loadF rfl rfl ty9) ?_
        refine sG _ rfl rfl rfl rfl (fun hg => (And.intro gi (And.intro gi (True.intro)))) (fun hg => opp_strEq rfl rfl rfl (.inr ⟨rfl, rfl⟩)) ?_
        refine sPick rfl rfl rfl rfl (by exact True.intro) rfl rfl (fun hg => gi) (fun hg => gi) ?_
        refine awp_cond _ rfl (fun hc14 => ?_) (fun hc14 => ?_)
        · (try simp only [cmpI, errD_nil, Bool.not_eq_true', Bool.not_eq_false', decide_eq_true_eq, decide_eq_false_iff_not] at hc14); have ht61 := hc14
          refine awp_seq ?_
          refine awp_draw hmix rfl (by kernel_rfl) ?_
          refine dP (fun _ => false) (opp_build rfl z37 bld37 rfl [.int .i64 0, .int .i64 0, .int .i64 0, .agg [.int .i64 0, .int .i64 0, .int .i64 0], .sl 1 true 0 (fun _ => .top)] rfl) rfl rfl ?_
          refine dP (fun _ => false) (opp_loadF rfl (ev_glob hG2) ty42) rfl rfl ?_
          refine dR0 (fun n => Nat.beq n 4) (opr_store (v := .agg _) (trn := (.agg _)) rfl rfl rfl rfl bi rfl rfl rfl rfl fr2 ty37 (fun _ _ h => h)) rfl rfl rfl ?_
          refine dP (fun _ => false) (opp_as (v := .bool _) rfl rfl) rfl rfl ?_
          refine dP (fun _ => false) (opp_as (v := .err _) rfl rfl) rfl rfl ?_
          refine And.intro (by kernel_rfl) ?_
          refine awp_ret ?_
          repeat (first | refine athen_ret ?_ | refine ain_ret ?_)
          first
            | refine apost_ret (aend (l := [.agg _, .bool _, .err _]) (.cell rfl rfl rfl (by exact True.intro) rfl ty37 (.tmp (.tmp .nil))) (fun h => by cases h) (.cons (.noN rfl rfl) (.cons (.noN rfl rfl) (.cons (.noN rfl rfl) .nil))) ⟨Wk.v ?_, rfl, rfl⟩)
            | refine apost_ret (aends (l := [.agg _, .bool _, .err _]) (.cell rfl rfl rfl (by exact True.intro) rfl ty37 (.tmp (.tmp .nil))) (fun h => by cases h) (.cons shut (fun h => by cases h) (.cons shut (fun h => by cases h) (.cons shut (fun h => by cases h) .nil))) rfl ⟨Wk.v ?_, rfl, rfl⟩)
          have hd : s.pieces.getD n.index.toNat [] ≠ [] ∧ s.pieces.getD n.index.toNat [] ≠ n.data := by
            generalize s.pieces.getD n.index.toNat [] = y at hc14
            by_cases h1 : y = [] <;> by_cases h2 : y = n.data <;> simp_all
          rw [show Sp.add s n = (Sp.zeroS, false, 14) by simp only [Sp.add, hgs, hc7, hq, if_pos hd]; simp]; show Wk _ (.tup [stageAV true Sp.zeroS, .bool false, .err (.code 14)]); simp only [stageAV, Sp.zeroS, xidAV, List.length_nil]; (repeat' (first | exact Wk.refl | exact Wk.sl0 | apply Wk.tup | apply Wk.agg | apply WkL.cons | exact WkL.nil | refine Wk.sl (fun _ _ => ?_)))
        · (try simp only [cmpI, errD_nil, Bool.not_eq_true', Bool.not_eq_false', decide_eq_true_eq, decide_eq_false_iff_not] at hc14); have ht61 := hc14
          refine awp_skip ?_
          refine awp_seq ?_
          refine awp_region rfl ?_
          first
            | refine sP (opp_fieldP rfl rfl fld37_4 rfl) rfl rfl ?_
            | refine sP (opp_fieldF rfl rfl rfl fld37_4 rfl rfl) rfl rfl ?_
          first
            | refine sP (opp_loadP rfl rfl rfl rfl bi rfl ty24) rfl rfl ?_
            | refine sP (opp_loadF rfl rfl ty24) rfl rfl ?_
          first
              | refine sR (opr_callO (rl := [(7, 66)]) (r1 := .osl _ _ _ _ _) (H1 := [(66, some (.arr _ _ _))]) (n1 := [66]) rfl rfl ent31 rfl (co31 s.pieces.length (strAt s.pieces) (by omega)) (AViews.refl _ rfl) rfl rfl rfl rfl) rfl rfl rfl ?_
              | refine sR (opr_callO (rl := [(7, 66)]) (r1 := .sl _ _ _ _) (H1 := [(66, some (.arr _ _ _))]) (n1 := [66]) rfl rfl ent31 rfl (co31 s.pieces.length (strAt s.pieces) (by omega)) (AViews.refl _ rfl) rfl rfl rfl rfl) rfl rfl rfl ?_
          first
            | refine sP (opp_fieldP rfl rfl fld37_4 rfl) rfl rfl ?_
            | refine sP (opp_fieldF rfl rfl rfl fld37_4 rfl rfl) rfl rfl ?_
          first
            | refine sR0 (opr_store (v := .sl _ _ _ _) (trn := (.agg [_, _, _, _, .sl _ _ _ _])) rfl rfl rfl rfl bi rfl rfl rfl rfl fr2 ty24 (fun _ _ h => h)) rfl rfl rfl ?_
            | refine sR0 (opr_store (v := .osl _ _ _ _ _) (trn := (.agg [_, _, _, _, .osl _ _ _ _ _])) rfl rfl rfl rfl bi rfl rfl rfl rfl fr2 ty24 (fun _ _ h => h)) rfl rfl rfl ?_
          refine awp_seq ?_
          refine awp_region rfl ?_
          first
            | refine sP (opp_fieldP rfl rfl fld37_4 rfl) rfl rfl ?_
            | refine sP (opp_fieldF rfl rfl rfl fld37_4 rfl rfl) rfl rfl ?_
          first
            | refine sP (opp_loadP rfl rfl rfl rfl bi rfl ty24) rfl rfl ?_
            | refine sP (opp_loadF rfl rfl ty24) rfl rfl ?_
          first
            | refine sP (opp_fieldP rfl rfl fld29_4 rfl) rfl rfl ?_
            | refine sP (opp_fieldF rfl rfl rfl fld29_4 rfl rfl) rfl rfl ?_
          first
            | refine sP (opp_loadP rfl rfl rfl rfl bi rfl ty3) rfl rfl ?_
            | refine sP (opp_loadF rfl rfl ty3) rfl rfl ?_
          first
            | refine sP (opp_fieldP rfl rfl fld29_7 rfl) rfl rfl ?_
            | refine sP (opp_fieldF rfl rfl rfl fld29_7 rfl rfl) rfl rfl ?_
          first
            | refine sP (opp_loadP rfl rfl rfl rfl bi rfl ty9) rfl rfl ?_
            | refine sP (opp_loadF rfl rfl ty9) rfl rfl ?_
          first
            | refine sP (opp_indexSl rfl rfl rfl el24 (by omega) (by omega)) rfl rfl ?_
            | refine sP (opp_indexOsl0 rfl rfl rfl el24 (by omega) (by omega)) rfl rfl ?_
            | refine sP (opp_indexOsl rfl rfl rfl el24 (by omega) (by omega)) rfl rfl ?_
          refine sR0 (opr_storeA (v := .str _) rfl rfl rfl (by omega) (by first | rfl | omega) rfl rfl rfl rfl ty9) rfl rfl rfl ?_
          refine awp_seq ?_
          refine awp_region rfl ?_
          first
            | refine sP (opp_loadP rfl rfl rfl rfl bi rfl ty37) rfl rfl ?_
            | refine sP (opp_loadF rfl rfl ty37) rfl rfl ?_
          refine sP (opp_mv (v := .str _) rfl rfl) rfl rfl ?_
          refine sP (opp_strEq (b := []) rfl rfl rfl (.inl ⟨rfl, rfl⟩)) rfl rfl ?_
          refine sR0 (opr_store (v := .agg _) (trn := (.agg _)) rfl rfl rfl rfl bi rfl rfl rfl rfl fr2 ty37 (fun _ _ h => h)) rfl rfl rfl ?_
          refine sP (opp_as (v := .bool _) rfl rfl) rfl rfl ?_
          refine sP (opp_as (v := .err _) rfl rfl) rfl rfl ?_
          refine awp_ret ?_
          repeat (first | refine athen_ret ?_ | refine ain_ret ?_)
          first
            | refine apost_ret (aend (l := [.agg _, .bool _, .err _]) (.cell rfl rfl rfl (by exact True.intro) rfl ty37 (.tmp (.tmp .nil))) (fun h => by cases h) (.cons (.noN rfl rfl) (.cons (.noN rfl rfl) (.cons (.noN rfl rfl) .nil))) ⟨Wk.v ?_, rfl, rfl⟩)
            | refine apost_ret (aends (l := [.agg _, .bool _, .err _]) (.cell rfl rfl rfl (by exact True.intro) rfl ty37 (.tmp (.tmp .nil))) (fun h => by cases h) (.cons shut (fun h => by cases h) (.cons shut (fun h => by cases h) (.cons shut (fun h => by cases h) .nil))) rfl ⟨Wk.v ?_, rfl, rfl⟩)
          have hd : ¬ (s.pieces.getD n.index.toNat [] ≠ [] ∧ s.pieces.getD n.index.toNat [] ≠ n.data) := by
            generalize s.pieces.getD n.index.toNat [] = y at hc14
            by_cases h1 : y = [] <;> by_cases h2 : y = n.data <;> simp_all
          rw [show Sp.add s n = ({ s with pieces := s.pieces.set n.index.toNat n.data }, decide (s.pieces.getD n.index.toNat [] = []), 0) by simp only [Sp.add, hgs, hc7, hq, if_neg hd]; simp]
          show Wk _ (.tup [stageAV false _, .bool _, .err .nil]); simp only [stageAV, xidAV, List.length_set]; (repeat' (first | exact Wk.refl | exact Wk.sl0 | apply Wk.tup | apply Wk.agg | apply WkL.cons | exact WkL.nil | refine Wk.sl (fun _ _ => ?_)))
          rename_i j hj; simp only [strAt, List.getD_eq_getElem?_getD, List.getElem?_set]
          by_cases hj2 : j = n.index.toNat
          · subst hj2; simp [hj]
          · rw [if_neg hj2, if_neg (Ne.symm hj2)]
theorem c19 (b : Bool) (s : Stage) (hG0 : gl 0 = some (.err (.code 9))) : APure (V ea cds gl) 19 [stageAV b s] false (.tup [.sl 1 (decide ((Sp.missing s).1 = [])) (Sp.missing s).1.length (fun j => .int .i64 ((Sp.missing s).1.getD j 0)), .err (errD (Sp.missing s).2)]) := by
  refine acalls_of_body (N := 27) Tryz.func19 rfl rfl (Nat.le_of_ble_eq_true rfl) fun C hV hN hM hO => ?_
  obtain ⟨_, _, w0, G0, σ0, _, own0⟩ := C; dsimp only at hV hN hM hO; subst hV; subst hN; subst hM
  refine awp_seq ?_
  refine awp_region rfl ?_
  refine sR (opr_box (y := .agg _) (n := 1) rfl rfl rfl) rfl rfl rfl ?_
  first
    | refine sP (opp_as (v := .sl _ _ _ _) rfl rfl) rfl rfl ?_
    | refine sP (opp_as (v := .osl _ _ _ _ _) rfl rfl) rfl rfl ?_
  refine sP (opp_as (v := .err _) rfl rfl) rfl rfl ?_
  refine awp_seq ?_
  refine awp_seq ?_
  refine awp_region rfl ?_
  first
    | refine sP (opp_loadP rfl rfl rfl rfl bi rfl ty37) rfl rfl ?_
    | refine sP (opp_loadF rfl rfl ty37) rfl rfl ?_
  refine sR (opr_call rfl rfl ent20 rfl (c20 _ _) (AViews.refl _ rfl)) rfl rfl rfl ?_ -- d=8 t=4
  refine sP (opp_not rfl rfl) rfl rfl ?_
  refine awp_cond _ rfl (fun hc3 => ?_) (fun hc3 => ?_)
  · (try simp only [cmpI, errD_nil, Bool.not_eq_true', Bool.not_eq_false', decide_eq_true_eq, decide_eq_false_iff_not] at hc3); have ht9 := hc3
    refine awp_seq ?_
    refine awp_draw hmix rfl (by kernel_rfl) ?_
    refine dP (fun _ => false) (opp_loadF rfl (ev_glob hG0) ty42) rfl rfl ?_
    first
      | refine dP (fun _ => false) (opp_as (v := .sl _ _ _ _) rfl rfl) rfl rfl ?_
      | refine dP (fun _ => false) (opp_as (v := .osl _ _ _ _ _) rfl rfl) rfl rfl ?_
    refine dP (fun _ => false) (opp_as (v := .err _) rfl rfl) rfl rfl ?_
    refine And.intro (by kernel_rfl) ?_
    refine awp_ret ?_
    repeat (first | refine athen_ret ?_ | refine ain_ret ?_)
    first
      | refine apost_ret (aend (l := [.sl _ _ _ _, .err _]) (.tmp (.tmp .nil)) (fun h => by cases h) (.cons (.noN rfl rfl) (.cons (.noN rfl rfl) .nil)) ⟨Wk.v ?_, rfl, rfl⟩)
      | refine apost_ret (aends (l := [.sl _ _ _ _, .err _]) (.tmp (.tmp .nil)) (fun h => by cases h) (.cons shut (fun h => by cases h) (.cons shut (fun h => by cases h) .nil)) rfl ⟨Wk.v ?_, rfl, rfl⟩)
      | refine apost_ret (aend (l := [.osl _ _ _ _ _, .err _]) (.tmp (.tmp .nil)) (fun h => by cases h) (.cons (.noN rfl rfl) (.cons (.noN rfl rfl) .nil)) ⟨Wk.v ?_, rfl, rfl⟩)
      | refine apost_ret (aends (l := [.osl _ _ _ _ _, .err _]) (.tmp (.tmp .nil)) (fun h => by cases h) (.cons shut (fun h => by cases h) (.cons shut (fun h => by cases h) .nil)) rfl ⟨Wk.v ?_, rfl, rfl⟩)
    rw [show Sp.missing s = ([], 9) by simp [Sp.missing, hc3]]; show Wk _ (.tup [.sl 1 true 0 _, .err (.code 9)]); (repeat' (first | exact Wk.refl | exact Wk.sl0 | apply Wk.tup | apply Wk.agg | apply WkL.cons | exact WkL.nil | refine Wk.sl (fun _ _ => ?_)))
  · (try simp only [cmpI, errD_nil, Bool.not_eq_true', Bool.not_eq_false', decide_eq_true_eq, decide_eq_false_iff_not] at hc3); have ht9 := hc3
    refine awp_skip ?_
    refine awp_seq ?_
    have hgs : Sp.goodS s = true := by simpa using hc3
    have hgb := Sp.goodS_bounds hgs
    refine awp_region rfl ?_
    first
      | refine sP (opp_as (v := .sl _ _ _ _) rfl rfl) rfl rfl ?_
      | refine sP (opp_as (v := .osl _ _ _ _ _) rfl rfl) rfl rfl ?_
    refine awp_seq ?_
    refine awp_seq ?_
    refine awp_region rfl ?_
    first
      | refine sP (opp_fieldP rfl rfl fld37_4 rfl) rfl rfl ?_
      | refine sP (opp_fieldF rfl rfl rfl fld37_4 rfl rfl) rfl rfl ?_
    first
      | refine sP (opp_loadP rfl rfl rfl rfl bi rfl ty24) rfl rfl ?_
      | refine sP (opp_loadF rfl rfl ty24) rfl rfl ?_
    first
      | refine sP (opp_lenSl rfl rfl un24) rfl rfl ?_
      | refine sP (opp_lenOsl rfl rfl un24) rfl rfl ?_
    refine sP (opp_mv (v := .int _ _) rfl rfl) rfl rfl ?_
    refine awp_block ?_
    refine awp_loopK (ι := Nat × Bool) (fun p => p.1 ≤ s.pieces.length ∧ (p.2 = true ↔ (Sp.gone s p.1) = [])) (fun p => [(4, cond p.2 (.sl 1 true 0 (fun _ => .top)) (.osl 1004 1 0 (Sp.gone s p.1).length (Sp.gone s p.1).length)), (5, .top), (6, .top), (14, .int .i64 p.1), (15, .top), (16, .top), (17, .top), (18, .top), (19, .top), (20, .top), (21, .top), (22, .top), (23, .top), (24, .top), (25, .top)]) (fun p => [(1004, cond p.2 none (some (.arr 1 (Sp.gone s p.1).length (fun j => .int .i64 ((Sp.gone s p.1).getD j 0)))))]) [1004] (fun p => s.pieces.length - p.1) ((0, true)) (⟨Nat.zero_le _, by simp [Sp.gone]⟩) (by
      refine imp_over [] rfl rfl (by kernel_rfl) ?_ ?_
      · refine And.intro wkv ?_
        refine And.intro wkv ?_
        refine And.intro wkv ?_
        refine And.intro wkv ?_
        refine And.intro wkv ?_
        refine And.intro wkv ?_
        refine And.intro wkv ?_
        refine And.intro wkv ?_
        refine And.intro wkv ?_
        refine And.intro wkv ?_
        refine And.intro wkv ?_
        refine And.intro wkv ?_
        refine And.intro wkv ?_
        refine And.intro wkv ?_
        refine And.intro wkv ?_
        exact True.intro
      · exact True.intro
      ) ?_
    intro p hi1; obtain ⟨i, e⟩ := p; rcases e with _ | _
    · dsimp only [cond] at hi1 ⊢
      refine awp_seq ?_
      refine awp_region rfl ?_
      refine sP (opp_cmp rfl rfl rfl rfl) rfl rfl ?_
      refine awp_seq ?_
      refine awp_cond _ rfl (fun hc8 => ?_) (fun hc8 => ?_)
      · (try simp only [cmpI, errD_nil, Bool.not_eq_true', Bool.not_eq_false', decide_eq_true_eq, decide_eq_false_iff_not] at hc8); have ht15 := hc8
        refine awp_skip ?_
        refine awp_seq ?_
        refine awp_block ?_
        refine awp_seq ?_
        refine awp_region rfl ?_
        refine sP (opp_mv (v := .int _ _) rfl rfl) rfl rfl ?_
        first
          | refine sP (opp_indexSl rfl rfl rfl el24 (by omega) (by omega)) rfl rfl ?_
          | refine sP (opp_indexOsl0 rfl rfl rfl el24 (by omega) (by omega)) rfl rfl ?_
          | refine sP (opp_indexOsl rfl rfl rfl el24 (by omega) (by omega)) rfl rfl ?_
        first
          | refine sP (opp_loadP rfl rfl rfl rfl bi rfl ty9) rfl rfl ?_
          | refine sP (opp_loadF rfl rfl ty9) rfl rfl ?_
        refine sP (opp_as (v := .int _ _) rfl rfl) rfl rfl ?_
        refine sP (opp_as (v := .str _) rfl rfl) rfl rfl ?_
        refine awp_seq ?_
        refine awp_region rfl ?_
        refine sP (opp_mv (v := .str _) rfl rfl) rfl rfl ?_
        refine sP (opp_strEq (b := []) rfl rfl rfl (.inl ⟨rfl, rfl⟩)) rfl rfl ?_
        refine awp_cond _ rfl (fun hc11 => ?_) (fun hc11 => ?_)
        · (try simp only [cmpI, errD_nil, Bool.not_eq_true', Bool.not_eq_false', decide_eq_true_eq, decide_eq_false_iff_not] at hc11); have ht20 := hc11
          have hgl := Sp.gone_len s i
          refine awp_region rfl ?_
          first
            | refine sP (opp_mv (v := .sl _ _ _ _) rfl rfl) rfl rfl ?_
            | refine sP (opp_mv (v := .osl _ _ _ _ _) rfl rfl) rfl rfl ?_
          refine sP (opp_mv (v := .int _ _) rfl rfl) rfl rfl ?_
          refine sR (opr_buildSlice (n := 23) (g := fun j => if j = 0 then .int _ _ else .int .i64 0) rfl eb55 z3 (by decide) rfl rfl) rfl rfl rfl ?_
          first
            | refine sR (opr_append (d := 24) rfl rfl rfl (by omega) (.osl0 rfl (by omega)) eb55 z3 (by omega) (by omega)) rfl rfl rfl ?_
            | refine sR (opr_append (d := 24) rfl rfl rfl (by omega) .sl eb55 z3 (by omega) (by omega)) rfl rfl rfl ?_
            | refine sR (opr_append (d := 24) rfl rfl rfl (by omega) (.osl rfl (by omega) (fun _ _ => rfl)) eb55 z3 (by omega) (by omega)) rfl rfl rfl ?_
            | refine sR (opr_appendNil (d := 24) rfl rfl (.osl0 rfl (by omega)) eb55 z3 (by omega) (by omega) (by omega)) rfl rfl rfl ?_
            | refine sR (opr_appendNil (d := 24) rfl rfl .sl eb55 z3 (by omega) (by omega) (by omega)) rfl rfl rfl ?_
            | refine sR (opr_appendNil (d := 24) rfl rfl (.osl rfl (by omega) (fun _ _ => rfl)) eb55 z3 (by omega) (by omega) (by omega)) rfl rfl rfl ?_
          first
            | refine sP (opp_as (v := .sl _ _ _ _) rfl rfl) rfl rfl ?_
            | refine sP (opp_as (v := .osl _ _ _ _ _) rfl rfl) rfl rfl ?_
          refine awp_region rfl ?_
          first
            | refine sP (opp_arith rfl rfl rfl (.inl ⟨rfl, w64 (by omega)⟩)) rfl rfl ?_
            | refine sP (opp_arith rfl rfl rfl (.inl ⟨rfl, rfl⟩)) rfl rfl ?_
          refine sP (opp_mv (v := .int _ _) rfl rfl) rfl rfl ?_
          have hs1 : Sp.gone s (i + 1) = Sp.gone s i ++ [(i : Int)] := by rw [Sp.gone_succ, if_pos (by simpa using hc11)]
          refine Exists.intro ((i + 1, false)) (And.intro (And.intro (And.intro (by show i + 1 ≤ s.pieces.length; omega) (by rw [hs1]; simp)) (by omega)) (by
            refine imp_over [(1004, 24)] rfl rfl (by kernel_rfl) ?_ ?_
            · refine And.intro (by exact Or.inr (And.intro rfl (WkV.of (by show AV.osl 24 1 0 _ _ = AV.osl 24 1 0 _ _; rw [hs1]; simp)))) ?_
              refine And.intro wkv ?_
              refine And.intro wkv ?_
              refine And.intro wkv ?_
              refine And.intro wkv ?_
              refine And.intro wkv ?_
              refine And.intro wkv ?_
              refine And.intro wkv ?_
              refine And.intro wkv ?_
              refine And.intro wkv ?_
              refine And.intro wkv ?_
              refine And.intro wkv ?_
              refine And.intro wkv ?_
              refine And.intro wkv ?_
              refine And.intro wkv ?_
              exact True.intro
            · refine And.intro (And.intro rfl (And.intro rfl (Exists.intro _ (And.intro rfl (by show WkC (AV.arr 1 _ _) (AV.arr 1 _ _); rw [hs1, List.length_append]; exact WkC.arr (fun j hj => by exact Sp.int_append _ _ j (by simpa using hj))))))) ?_
              exact True.intro
            ))
        · (try simp only [cmpI, errD_nil, Bool.not_eq_true', Bool.not_eq_false', decide_eq_true_eq, decide_eq_false_iff_not] at hc11); have ht20 := hc11
          refine awp_skip ?_
          refine awp_region rfl ?_
          first
            | refine sP (opp_arith rfl rfl rfl (.inl ⟨rfl, w64 (by omega)⟩)) rfl rfl ?_
            | refine sP (opp_arith rfl rfl rfl (.inl ⟨rfl, rfl⟩)) rfl rfl ?_
          refine sP (opp_mv (v := .int _ _) rfl rfl) rfl rfl ?_
          have hs1 : Sp.gone s (i + 1) = Sp.gone s i := by rw [Sp.gone_succ, if_neg (by simpa using hc11)]
          refine Exists.intro ((i + 1, false)) (And.intro (And.intro (And.intro (by show i + 1 ≤ s.pieces.length; omega) (by rw [hs1]; exact hi1.2)) (by omega)) (by
            refine imp_over [] rfl rfl (by kernel_rfl) ?_ ?_
            · refine And.intro (by rw [hs1]; exact Or.inr (And.intro rfl (WkV.refl _))) ?_
              refine And.intro wkv ?_
              refine And.intro wkv ?_
              refine And.intro wkv ?_
              refine And.intro wkv ?_
              refine And.intro wkv ?_
              refine And.intro wkv ?_
              refine And.intro wkv ?_
              refine And.intro wkv ?_
              refine And.intro wkv ?_
              refine And.intro wkv ?_
              refine And.intro wkv ?_
              refine And.intro wkv ?_
              refine And.intro wkv ?_
              refine And.intro wkv ?_
              exact True.intro
            · refine And.intro (And.intro rfl (And.intro rfl (Exists.intro _ (And.intro rfl (by rw [hs1]; exact WkC.refl _))))) ?_
              exact True.intro
            ))
      · (try simp only [cmpI, errD_nil, Bool.not_eq_true', Bool.not_eq_false', decide_eq_true_eq, decide_eq_false_iff_not] at hc8); have ht15 := hc8
        refine awp_exit ?_
        refine awp_seq ?_
        refine awp_region rfl ?_
        first
          | refine sP (opp_mv (v := .sl _ _ _ _) rfl rfl) rfl rfl ?_
          | refine sP (opp_mv (v := .osl _ _ _ _ _) rfl rfl) rfl rfl ?_
        first
          | refine sP (opp_as (v := .sl _ _ _ _) rfl rfl) rfl rfl ?_
          | refine sP (opp_as (v := .osl _ _ _ _ _) rfl rfl) rfl rfl ?_
        refine sP (opp_as (v := .err _) rfl rfl) rfl rfl ?_
        refine awp_ret ?_
        repeat (first | refine athen_ret ?_ | refine ain_ret ?_)
        first
          | refine apost_ret (aend (l := [.sl _ _ _ _, .err _]) (.tmp (.tmp .nil)) (fun h => by cases h) (.cons (.noN rfl rfl) (.cons (.noN rfl rfl) .nil)) ⟨Wk.v ?_, rfl, rfl⟩)
          | refine apost_ret (aends (l := [.sl _ _ _ _, .err _]) (.tmp (.tmp .nil)) (fun h => by cases h) (.cons shut (fun h => by cases h) (.cons shut (fun h => by cases h) .nil)) rfl ⟨Wk.v ?_, rfl, rfl⟩)
          | refine apost_ret (aend (l := [.osl _ _ _ _ _, .err _]) (.tmp (.tmp .nil)) (fun h => by cases h) (.cons (.noN rfl rfl) (.cons (.noN rfl rfl) .nil)) ⟨Wk.v ?_, rfl, rfl⟩)
          | refine apost_ret (aends (l := [.osl _ _ _ _ _, .err _]) (.tmp (.tmp .nil)) (fun h => by cases h) (.cons shut (fun h => by cases h) (.cons shut (fun h => by cases h) .nil)) rfl ⟨Wk.v ?_, rfl, rfl⟩)
        have hi2 : i = s.pieces.length := by omega
        subst hi2
        have hne : Sp.gone s s.pieces.length ≠ [] := fun h => by have := hi1.2.2 h; cases this
        rw [show Sp.missing s = (Sp.gone s s.pieces.length, 0) by simp [Sp.missing, hgs, Sp.gone]]
        simp only [decide_eq_false hne]; (repeat' (first | exact Wk.refl | exact Wk.sl0 | apply Wk.tup | apply Wk.agg | apply WkL.cons | exact WkL.nil | refine Wk.sl (fun _ _ => ?_)))
    · dsimp only [cond] at hi1 ⊢
      refine awp_seq ?_
      refine awp_region rfl ?_
      refine sP (opp_cmp rfl rfl rfl rfl) rfl rfl ?_
      refine awp_seq ?_
      refine awp_cond _ rfl (fun hc17 => ?_) (fun hc17 => ?_)
      · (try simp only [cmpI, errD_nil, Bool.not_eq_true', Bool.not_eq_false', decide_eq_true_eq, decide_eq_false_iff_not] at hc17); have ht15 := hc17
        refine awp_skip ?_
        refine awp_seq ?_
        refine awp_block ?_
        refine awp_seq ?_
        refine awp_region rfl ?_
        refine sP (opp_mv (v := .int _ _) rfl rfl) rfl rfl ?_
        first
          | refine sP (opp_indexSl rfl rfl rfl el24 (by omega) (by omega)) rfl rfl ?_
          | refine sP (opp_indexOsl0 rfl rfl rfl el24 (by omega) (by omega)) rfl rfl ?_
          | refine sP (opp_indexOsl rfl rfl rfl el24 (by omega) (by omega)) rfl rfl ?_
        first
          | refine sP (opp_loadP rfl rfl rfl rfl bi rfl ty9) rfl rfl ?_
          | refine sP (opp_loadF rfl rfl ty9) rfl rfl ?_
        refine sP (opp_as (v := .int _ _) rfl rfl) rfl rfl ?_
        refine sP (opp_as (v := .str _) rfl rfl) rfl rfl ?_
        refine awp_seq ?_
        refine awp_region rfl ?_
        refine sP (opp_mv (v := .str _) rfl rfl) rfl rfl ?_
        refine sP (opp_strEq (b := []) rfl rfl rfl (.inl ⟨rfl, rfl⟩)) rfl rfl ?_
        refine awp_cond _ rfl (fun hc20 => ?_) (fun hc20 => ?_)
        · (try simp only [cmpI, errD_nil, Bool.not_eq_true', Bool.not_eq_false', decide_eq_true_eq, decide_eq_false_iff_not] at hc20); have ht20 := hc20
          have hgl := Sp.gone_len s i
          refine awp_region rfl ?_
          first
            | refine sP (opp_mv (v := .sl _ _ _ _) rfl rfl) rfl rfl ?_
            | refine sP (opp_mv (v := .osl _ _ _ _ _) rfl rfl) rfl rfl ?_
          refine sP (opp_mv (v := .int _ _) rfl rfl) rfl rfl ?_
          refine sR (opr_buildSlice (n := 23) (g := fun j => if j = 0 then .int _ _ else .int .i64 0) rfl eb55 z3 (by decide) rfl rfl) rfl rfl rfl ?_
          first
            | refine sR (opr_append (d := 24) rfl rfl rfl (by omega) (.osl0 rfl (by omega)) eb55 z3 (by omega) (by omega)) rfl rfl rfl ?_
            | refine sR (opr_append (d := 24) rfl rfl rfl (by omega) .sl eb55 z3 (by omega) (by omega)) rfl rfl rfl ?_
            | refine sR (opr_append (d := 24) rfl rfl rfl (by omega) (.osl rfl (by omega) (fun _ _ => rfl)) eb55 z3 (by omega) (by omega)) rfl rfl rfl ?_
            | refine sR (opr_appendNil (d := 24) rfl rfl (.osl0 rfl (by omega)) eb55 z3 (by omega) (by omega) (by omega)) rfl rfl rfl ?_
            | refine sR (opr_appendNil (d := 24) rfl rfl .sl eb55 z3 (by omega) (by omega) (by omega)) rfl rfl rfl ?_
            | refine sR (opr_appendNil (d := 24) rfl rfl (.osl rfl (by omega) (fun _ _ => rfl)) eb55 z3 (by omega) (by omega) (by omega)) rfl rfl rfl ?_
          first
            | refine sP (opp_as (v := .sl _ _ _ _) rfl rfl) rfl rfl ?_
            | refine sP (opp_as (v := .osl _ _ _ _ _) rfl rfl) rfl rfl ?_
          refine awp_region rfl ?_
          first
            | refine sP (opp_arith rfl rfl rfl (.inl ⟨rfl, w64 (by omega)⟩)) rfl rfl ?_
            | refine sP (opp_arith rfl rfl rfl (.inl ⟨rfl, rfl⟩)) rfl rfl ?_
          refine sP (opp_mv (v := .int _ _) rfl rfl) rfl rfl ?_
          have hs1 : Sp.gone s (i + 1) = Sp.gone s i ++ [(i : Int)] := by rw [Sp.gone_succ, if_pos (by simpa using hc20)]
          have hs0 : Sp.gone s i = [] := hi1.2.1 rfl
          refine Exists.intro ((i + 1, false)) (And.intro (And.intro (And.intro (by show i + 1 ≤ s.pieces.length; omega) (by rw [hs1]; simp)) (by omega)) (by
            refine imp_over [(1004, 24)] rfl rfl (by kernel_rfl) ?_ ?_
            · refine And.intro (by exact Or.inr (And.intro rfl (WkV.of (by show AV.osl 24 1 0 _ _ = AV.osl 24 1 0 _ _; rw [hs1, hs0]; simp)))) ?_
              refine And.intro wkv ?_
              refine And.intro wkv ?_
              refine And.intro wkv ?_
              refine And.intro wkv ?_
              refine And.intro wkv ?_
              refine And.intro wkv ?_
              refine And.intro wkv ?_
              refine And.intro wkv ?_
              refine And.intro wkv ?_
              refine And.intro wkv ?_
              refine And.intro wkv ?_
              refine And.intro wkv ?_
              refine And.intro wkv ?_
              refine And.intro wkv ?_
              exact True.intro
            · refine And.intro (And.intro rfl (And.intro rfl (Exists.intro _ (And.intro rfl (by show WkC (AV.arr 1 _ _) (AV.arr 1 _ _); rw [hs1, hs0]; exact WkC.arr (fun j hj => by have h0 : j = 0 := (by simpa using hj); subst h0; rfl)))))) ?_
              exact True.intro
            ))
        · (try simp only [cmpI, errD_nil, Bool.not_eq_true', Bool.not_eq_false', decide_eq_true_eq, decide_eq_false_iff_not] at hc20); have ht20 := hc20
          refine awp_skip ?_
          refine awp_region rfl ?_
          first
            | refine sP (opp_arith rfl rfl rfl (.inl ⟨rfl, w64 (by omega)⟩)) rfl rfl ?_
            | refine sP (opp_arith rfl rfl rfl (.inl ⟨rfl, rfl⟩)) rfl rfl ?_
          refine sP (opp_mv (v := .int _ _) rfl rfl) rfl rfl ?_
          have hs1 : Sp.gone s (i + 1) = Sp.gone s i := by rw [Sp.gone_succ, if_neg (by simpa using hc20)]
          refine Exists.intro ((i + 1, true)) (And.intro (And.intro (And.intro (by show i + 1 ≤ s.pieces.length; omega) (by rw [hs1]; exact hi1.2)) (by omega)) (by
            refine imp_over [] rfl rfl (by kernel_rfl) ?_ ?_
            · refine And.intro wkv ?_
              refine And.intro wkv ?_
              refine And.intro wkv ?_
              refine And.intro wkv ?_
              refine And.intro wkv ?_
              refine And.intro wkv ?_
              refine And.intro wkv ?_
              refine And.intro wkv ?_
              refine And.intro wkv ?_
              refine And.intro wkv ?_
              refine And.intro wkv ?_
              refine And.intro wkv ?_
              refine And.intro wkv ?_
              refine And.intro wkv ?_
              refine And.intro wkv ?_
              exact True.intro
            · exact True.intro
            ))
      · (try simp only [cmpI, errD_nil, Bool.not_eq_true', Bool.not_eq_false', decide_eq_true_eq, decide_eq_false_iff_not] at hc17); have ht15 := hc17
        refine awp_exit ?_
        refine awp_seq ?_
        refine awp_region rfl ?_
        first
          | refine sP (opp_mv (v := .sl _ _ _ _) rfl rfl) rfl rfl ?_
          | refine sP (opp_mv (v := .osl _ _ _ _ _) rfl rfl) rfl rfl ?_
        first
          | refine sP (opp_as (v := .sl _ _ _ _) rfl rfl) rfl rfl ?_
          | refine sP (opp_as (v := .osl _ _ _ _ _) rfl rfl) rfl rfl ?_
        refine sP (opp_as (v := .err _) rfl rfl) rfl rfl ?_
        refine awp_ret ?_
        repeat (first | refine athen_ret ?_ | refine ain_ret ?_)
        first
          | refine apost_ret (aend (l := [.sl _ _ _ _, .err _]) (.tmp (.tmp .nil)) (fun h => by cases h) (.cons (.noN rfl rfl) (.cons (.noN rfl rfl) .nil)) ⟨Wk.v ?_, rfl, rfl⟩)
          | refine apost_ret (aends (l := [.sl _ _ _ _, .err _]) (.tmp (.tmp .nil)) (fun h => by cases h) (.cons shut (fun h => by cases h) (.cons shut (fun h => by cases h) .nil)) rfl ⟨Wk.v ?_, rfl, rfl⟩)
          | refine apost_ret (aend (l := [.osl _ _ _ _ _, .err _]) (.tmp (.tmp .nil)) (fun h => by cases h) (.cons (.noN rfl rfl) (.cons (.noN rfl rfl) .nil)) ⟨Wk.v ?_, rfl, rfl⟩)
          | refine apost_ret (aends (l := [.osl _ _ _ _ _, .err _]) (.tmp (.tmp .nil)) (fun h => by cases h) (.cons shut (fun h => by cases h) (.cons shut (fun h => by cases h) .nil)) rfl ⟨Wk.v ?_, rfl, rfl⟩)
        have hi2 : i = s.pieces.length := by omega
        subst hi2
        have hne : Sp.gone s s.pieces.length = [] := hi1.2.1 rfl
        rw [show Sp.missing s = (Sp.gone s s.pieces.length, 0) by simp [Sp.missing, hgs, Sp.gone], hne]
        show Wk _ (.tup [.sl 1 true 0 _, .err .nil]); (repeat' (first | exact Wk.refl | exact Wk.sl0 | apply Wk.tup | apply Wk.agg | apply WkL.cons | exact WkL.nil | refine Wk.sl (fun _ _ => ?_)))
end
end Go.Proofs.YtgaihhimkodmmaaGreatDoor
/- Layer 22: what has come (walks over this dump). -/
namespace Go.Proofs.YtgaihhimkodmmaaGreatDoor
attribute [local irreducible] Tryz.prog
open Go.Fy
set_option linter.unusedSimpArgs false
section
variable {ea : Nat → Addr} {cds : List Nat} {gl : Nat → Option AV}
end
end Go.Proofs.YtgaihhimkodmmaaGreatDoor
/- Layer 20: an image is cut (walks over this dump). -/
namespace Go.Proofs.YtgaihhimkodmmaaGreatDoor
attribute [local irreducible] Tryz.prog
open Go.Fy
set_option linter.unusedSimpArgs false
section
variable {ea : Nat → Addr} {cds : List Nat} {gl : Nat → Option AV}
theorem c56 (b : Bool) (n : Nat) (f : Nat → AV) (k : Int) (h0 : 1 ≤ k) : APure (V ea cds gl) 56 [.sl 1 b n f, .int .i64 k] false (.fn 76 [.fptr (.sl 1 b n f), .fptr (.int .i64 k)]) := by
  refine acalls_of_body (N := 9) Tryz.func56 rfl rfl (Nat.le_of_ble_eq_true rfl) fun C hV hN hM hO => ?_
  obtain ⟨_, _, w0, G0, σ0, _, own0⟩ := C; dsimp only at hV hN hM hO; subst hV; subst hN; subst hM
  refine awp_seq ?_
  refine awp_region rfl ?_
  first
    | refine sR (opr_box (y := .sl _ _ _ _) (n := 2) rfl rfl rfl) rfl rfl rfl ?_
    | refine sR (opr_box (y := .osl _ _ _ _ _) (n := 2) rfl rfl rfl) rfl rfl rfl ?_
  refine sR (opr_box (y := .int _ _) (n := 3) rfl rfl rfl) rfl rfl rfl ?_
  first
    | refine sP (opp_as (v := .fn _ _) rfl rfl) rfl rfl ?_
    | refine sP (opp_as (v := .val _) rfl rfl) rfl rfl ?_
  refine awp_seq ?_
  refine awp_seq ?_
  refine awp_region rfl ?_
  first
    | refine sP (opp_loadP rfl rfl rfl rfl bi rfl ty3) rfl rfl ?_
    | refine sP (opp_loadF rfl rfl ty3) rfl rfl ?_
  refine sP (opp_cmp rfl rfl rfl rfl) rfl rfl ?_
  refine awp_cond _ rfl (fun hc3 => ?_) (fun hc3 => ?_)
  · (try simp only [cmpI, errD_nil, Bool.not_eq_true', Bool.not_eq_false', decide_eq_true_eq, decide_eq_false_iff_not] at hc3); have ht6 := hc3
    exfalso; first | omega | (simp_all; done)
  · (try simp only [cmpI, errD_nil, Bool.not_eq_true', Bool.not_eq_false', decide_eq_true_eq, decide_eq_false_iff_not] at hc3); have ht6 := hc3
    refine awp_skip ?_
    refine awp_seq ?_
    refine awp_region rfl ?_
    first
      | refine sP (opp_makeFunc (vs := [.ptr _ _ _, .ptr _ _ _]) rfl rfl rfl rfl) rfl rfl ?_
      | refine sP (opp_makeFunc (vs := [.ptr _ _ _, .fptr _]) rfl rfl rfl rfl) rfl rfl ?_
      | refine sP (opp_makeFunc (vs := [.ptr _ _ _, .fn _ _]) rfl rfl rfl rfl) rfl rfl ?_
      | refine sP (opp_makeFunc (vs := [.ptr _ _ _, .int _ _]) rfl rfl rfl rfl) rfl rfl ?_
      | refine sP (opp_makeFunc (vs := [.ptr _ _ _, .osl _ _ _ _ _]) rfl rfl rfl rfl) rfl rfl ?_
      | refine sP (opp_makeFunc (vs := [.ptr _ _ _, .sl _ _ _ _]) rfl rfl rfl rfl) rfl rfl ?_
      | refine sP (opp_makeFunc (vs := [.fptr _, .ptr _ _ _]) rfl rfl rfl rfl) rfl rfl ?_
      | refine sP (opp_makeFunc (vs := [.fptr _, .fptr _]) rfl rfl rfl rfl) rfl rfl ?_
      | refine sP (opp_makeFunc (vs := [.fptr _, .fn _ _]) rfl rfl rfl rfl) rfl rfl ?_
      | refine sP (opp_makeFunc (vs := [.fptr _, .int _ _]) rfl rfl rfl rfl) rfl rfl ?_
      | refine sP (opp_makeFunc (vs := [.fptr _, .osl _ _ _ _ _]) rfl rfl rfl rfl) rfl rfl ?_
      | refine sP (opp_makeFunc (vs := [.fptr _, .sl _ _ _ _]) rfl rfl rfl rfl) rfl rfl ?_
      | refine sP (opp_makeFunc (vs := [.fn _ _, .ptr _ _ _]) rfl rfl rfl rfl) rfl rfl ?_
      | refine sP (opp_makeFunc (vs := [.fn _ _, .fptr _]) rfl rfl rfl rfl) rfl rfl ?_
      | refine sP (opp_makeFunc (vs := [.fn _ _, .fn _ _]) rfl rfl rfl rfl) rfl rfl ?_
      | refine sP (opp_makeFunc (vs := [.fn _ _, .int _ _]) rfl rfl rfl rfl) rfl rfl ?_
      | refine sP (opp_makeFunc (vs := [.fn _ _, .osl _ _ _ _ _]) rfl rfl rfl rfl) rfl rfl ?_
      | refine sP (opp_makeFunc (vs := [.fn _ _, .sl _ _ _ _]) rfl rfl rfl rfl) rfl rfl ?_
      | refine sP (opp_makeFunc (vs := [.int _ _, .ptr _ _ _]) rfl rfl rfl rfl) rfl rfl ?_
      | refine sP (opp_makeFunc (vs := [.int _ _, .fptr _]) rfl rfl rfl rfl) rfl rfl ?_
      | refine sP (opp_makeFunc (vs := [.int _ _, .fn _ _]) rfl rfl rfl rfl) rfl rfl ?_
      | refine sP (opp_makeFunc (vs := [.int _ _, .int _ _]) rfl rfl rfl rfl) rfl rfl ?_
      | refine sP (opp_makeFunc (vs := [.int _ _, .osl _ _ _ _ _]) rfl rfl rfl rfl) rfl rfl ?_
      | refine sP (opp_makeFunc (vs := [.int _ _, .sl _ _ _ _]) rfl rfl rfl rfl) rfl rfl ?_
      | refine sP (opp_makeFunc (vs := [.osl _ _ _ _ _, .ptr _ _ _]) rfl rfl rfl rfl) rfl rfl ?_
      | refine sP (opp_makeFunc (vs := [.osl _ _ _ _ _, .fptr _]) rfl rfl rfl rfl) rfl rfl ?_
      | refine sP (opp_makeFunc (vs := [.osl _ _ _ _ _, .fn _ _]) rfl rfl rfl rfl) rfl rfl ?_
      | refine sP (opp_makeFunc (vs := [.osl _ _ _ _ _, .int _ _]) rfl rfl rfl rfl) rfl rfl ?_
      | refine sP (opp_makeFunc (vs := [.osl _ _ _ _ _, .osl _ _ _ _ _]) rfl rfl rfl rfl) rfl rfl ?_
      | refine sP (opp_makeFunc (vs := [.osl _ _ _ _ _, .sl _ _ _ _]) rfl rfl rfl rfl) rfl rfl ?_
      | refine sP (opp_makeFunc (vs := [.sl _ _ _ _, .ptr _ _ _]) rfl rfl rfl rfl) rfl rfl ?_
      | refine sP (opp_makeFunc (vs := [.sl _ _ _ _, .fptr _]) rfl rfl rfl rfl) rfl rfl ?_
      | refine sP (opp_makeFunc (vs := [.sl _ _ _ _, .fn _ _]) rfl rfl rfl rfl) rfl rfl ?_
      | refine sP (opp_makeFunc (vs := [.sl _ _ _ _, .int _ _]) rfl rfl rfl rfl) rfl rfl ?_
      | refine sP (opp_makeFunc (vs := [.sl _ _ _ _, .osl _ _ _ _ _]) rfl rfl rfl rfl) rfl rfl ?_
      | refine sP (opp_makeFunc (vs := [.sl _ _ _ _, .sl _ _ _ _]) rfl rfl rfl rfl) rfl rfl ?_
    first
      | refine sP (opp_as (v := .fn _ _) rfl rfl) rfl rfl ?_
      | refine sP (opp_as (v := .val _) rfl rfl) rfl rfl ?_
    refine awp_ret ?_
    repeat (first | refine athen_ret ?_ | refine ain_ret ?_)
    first
      | refine apost_ret (aend1 (r0 := .fn _ _) (.tmp .nil) (.noN rfl rfl) ⟨Wk.v ?_, rfl, rfl⟩)
      | refine apost_ret (aend1s (r0 := .fn _ _) (.tmp .nil) shut rfl ⟨Wk.v ?_, rfl, rfl⟩)
      | refine apost_ret (aend1 (r0 := .val _) (.tmp .nil) (.noN rfl rfl) ⟨Wk.v ?_, rfl, rfl⟩)
      | refine apost_ret (aend1s (r0 := .val _) (.tmp .nil) shut rfl ⟨Wk.v ?_, rfl, rfl⟩)
    (repeat' (first | exact Wk.refl | exact Wk.sl0 | apply Wk.tup | apply Wk.agg | apply WkL.cons | exact WkL.nil | refine Wk.sl (fun _ _ => ?_)))
end
end Go.Proofs.YtgaihhimkodmmaaGreatDoor
/- Layer 20: an image is cut (walks over this dump). -/
namespace Go.Proofs.YtgaihhimkodmmaaGreatDoor
open Go.Fy Go.RowKit
set_option linter.unusedSimpArgs false
attribute [local irreducible] Tryz.prog
/-- The pieces of a row. -/
theorem chunk_seq {ea : Nat → Addr} {cds : List Nat} {gl : Nat → Option AV} (b : Bool) (n : Nat) (f : Nat → AV) (h1 : 1 ≤ n) (h2 : n ≤ 4611686018427387904) :
    ASeq (V ea cds gl) 76 [.fptr (.sl 1 b n f), .fptr (.int .i64 128)] ((n + 127) / 128) (fun k => .sl 1 (decide (n ≤ 128 * k)) (min 128 (n - 128 * k)) fun j => f (128 * k + j)) := by
  intro E cv hV hE hG hcv
  obtain ⟨cl⟩ := cv
  simp only [RelC, Rel] at hcv
  obtain ⟨c1, d1, rfl, ⟨b1, e1, hs1, hg1, ds1, hh1, hr1⟩, c2, d2, rfl, ⟨b2, e2, hs2, hg2, ds2, hh2, hr2⟩, rfl⟩ := hcv
  simp only [List.cons.injEq, and_true] at e1 e2
  subst e1; subst e2
  obtain ⟨a, cap, rfl, hle, hnn, hnone, hel⟩ := hr1
  subst hr2
  cases a with
  | none => have := (hnone rfl).1; omega
  | some ad =>
    obtain ⟨hsp, hgd, hds⟩ := hel ad rfl
    have hsp := hsp (by omega)
    have hc1 : E.w.cell? ⟨b1.block, b1.off, none⟩ = some (.slice (some ad) n cap) := hh1 0 _ rfl
    have hc2 : E.w.cell? ⟨b2.block, b2.off, none⟩ = some (.int .i64 128) := hh2 0 _ rfl
    obtain ⟨ab, ao, asp⟩ := ad
    obtain ⟨bb1, bo1, bs1⟩ := b1
    obtain ⟨bb2, bo2, bs2⟩ := b2
    dsimp only at hsp hs1 hs2 hg1 hg2 hgd hc1 hc2
    subst hsp; subst hs1; subst hs2
    refine ⟨fun k => if 128 * k < n then .slice (some ⟨ab, ao + 128 * k, none⟩) (min 128 (n - 128 * k)) (min 128 (n - 128 * k)) else .slice none 0 0, fun k => ?_, fun m Kp hm hKp l J Jx W hW hJ hJx hY h0 => ?_⟩
    · simp only [RelV, Rel]
      by_cases hk : 128 * k < n
      · rw [if_pos hk]
        refine ⟨_, _, rfl, Nat.le_refl _, by simp; omega, (fun h => by cases h), fun bb hb => ?_⟩
        cases hb
        refine ⟨fun _ => rfl, fun _ => hgd (by omega), fun j hj => ?_⟩
        obtain ⟨ds, h3, h4, h5⟩ := hds (128 * k + j) (by omega)
        refine ⟨ds, h3, fun q v hq => ?_, h5⟩
        have := h4 q v hq
        simp only at this ⊢
        rw [show ao + 128 * k + (j * 1 + q) = ao + ((128 * k + j) * 1 + q) by omega]
        exact this
      · rw [if_neg hk, show min 128 (n - 128 * k) = 0 by omega]
        exact ⟨none, 0, rfl, Nat.le_refl _, by simp; omega, fun _ => ⟨rfl, rfl⟩, fun bb hb => by cases hb⟩
    · have hb1 : bb1 < E.w.heap.size := hG _ hg1
      have hb2 : bb2 < E.w.heap.size := hG _ hg2
      refine (chunk_in Fence.wide m trivial rfl hm l bb1 bo1 bb2 bo2 ab ao n cap hle h2 Kp J Jx (fun pre W hJW => hJ pre W W.drew none hJW ⟨rfl, rfl, rfl, Nat.le_refl _, fun _ _ _ => rfl⟩ (fun r h => by cases h))
        (fun A B hAB v hv => hKp A B hAB _ hg1 _ _ hv) (fun A B hAB v hv => hKp A B hAB _ hg2 _ _ hv) hY W ((hW.cell (p := ⟨bb1, bo1, none⟩) hb1).trans hc1) ((hW.cell (p := ⟨bb2, bo2, none⟩) hb2).trans hc2) h0)
section
variable {ea : Nat → Addr} {cds : List Nat} {gl : Nat → Option AV}
theorem c24 (p : Int) (x : Xid) (st : Int) (b : Bool) (im : List UInt8) (hG5 : gl 5 = some (.err (.code 12))) (hG6 : gl 6 = some (.err (.code 11))) :
    APure (V ea cds gl) 24 [.int .i64 p, xidAV x, .int .i64 st, .sl 1 b im.length (bAt im)] true
      (.tup [.sl 10 (decide ((Sp.cut p x st im).1 = [])) (Sp.cut p x st im).1.length (fun j => noteAV ((Sp.cut p x st im).1.getD j Sp.zero)), .err (errD (Sp.cut p x st im).2)]) := by
  refine acalls_of_body (N := 59) Tryz.func24 rfl rfl (Nat.le_of_ble_eq_true rfl) fun C hV hN hM hO => ?_
  obtain ⟨_, _, w0, G0, σ0, _, own0⟩ := C; dsimp only at hV hN hM hO; subst hV; subst hN; subst hM
  refine awp_seq ?_
  refine awp_region rfl ?_
  refine sR (opr_box (y := .int _ _) (n := 4) rfl rfl rfl) rfl rfl rfl ?_
  refine sR (opr_box (y := .agg _) (n := 5) rfl rfl rfl) rfl rfl rfl ?_
  refine sR (opr_box (y := .int _ _) (n := 6) rfl rfl rfl) rfl rfl rfl ?_
  first
    | refine sP (opp_as (v := .sl _ _ _ _) rfl rfl) rfl rfl ?_
    | refine sP (opp_as (v := .osl _ _ _ _ _) rfl rfl) rfl rfl ?_
  refine sP (opp_as (v := .err _) rfl rfl) rfl rfl ?_
  refine awp_seq ?_
  refine awp_seq ?_
  refine awp_region rfl ?_
  first
    | refine sP (opp_loadP rfl rfl rfl rfl bi rfl ty3) rfl rfl ?_
    | refine sP (opp_loadF rfl rfl ty3) rfl rfl ?_
  refine sR (opr_call rfl rfl ent36 rfl (c36 _) (AViews.refl _ rfl)) rfl rfl rfl ?_ -- d=14 t=4
  refine sP (opp_not rfl rfl) rfl rfl ?_
  refine sP (opp_mv (v := .bool _) rfl rfl) rfl rfl ?_
  first
    | refine sG _ rfl rfl rfl rfl (fun hg => (And.intro gi (True.intro))) (fun hg => opp_loadP rfl rfl rfl rfl bi rfl ty23) ?_
    | refine sG _ rfl rfl rfl rfl (fun hg => (And.intro gi (True.intro))) (fun hg => opp_loadF rfl rfl ty23) ?_
  refine sGR _ rfl rfl rfl rfl (fun hg => (And.intro gi (And.intro gi (True.intro)))) (fun hg => (opr_call rfl rfl ent37 rfl (c37 _) (AViews.refl _ rfl))) ?_
  refine sG _ rfl rfl rfl rfl (fun hg => (And.intro gi (True.intro))) (fun hg => opp_not rfl rfl) ?_
  refine sPick rfl rfl rfl rfl (by exact True.intro) rfl rfl (fun hg => gi) (fun hg => gi) ?_
  refine sP (opp_mv (v := .bool _) rfl rfl) rfl rfl ?_
  first
    | refine sG _ rfl rfl rfl rfl (fun hg => (And.intro gi (True.intro))) (fun hg => opp_loadP rfl rfl rfl rfl bi rfl ty3) ?_
    | refine sG _ rfl rfl rfl rfl (fun hg => (And.intro gi (True.intro))) (fun hg => opp_loadF rfl rfl ty3) ?_
  refine sGR _ rfl rfl rfl rfl (fun hg => (And.intro gi (And.intro gi (True.intro)))) (fun hg => (opr_call rfl rfl ent38 rfl (c38 _) (AViews.refl _ rfl))) ?_
  refine sG _ rfl rfl rfl rfl (fun hg => (And.intro gi (True.intro))) (fun hg => opp_not rfl rfl) ?_
  refine sPick rfl rfl rfl rfl (by exact True.intro) rfl rfl (fun hg => gi) (fun hg => gi) ?_
  refine awp_cond _ rfl (fun hc3 => ?_) (fun hc3 => ?_)
  · (try simp only [cmpI, errD_nil, Bool.not_eq_true', Bool.not_eq_false', decide_eq_true_eq, decide_eq_false_iff_not] at hc3); have ht25 := hc3
    refine awp_seq ?_
    refine awp_draw hmix rfl (by kernel_rfl) ?_
    refine dP (fun _ => false) (opp_loadF rfl (ev_glob hG5) ty42) rfl rfl ?_
    first
      | refine dP (fun _ => false) (opp_as (v := .sl _ _ _ _) rfl rfl) rfl rfl ?_
      | refine dP (fun _ => false) (opp_as (v := .osl _ _ _ _ _) rfl rfl) rfl rfl ?_
    refine dP (fun _ => false) (opp_as (v := .err _) rfl rfl) rfl rfl ?_
    refine And.intro (by kernel_rfl) ?_
    refine awp_ret ?_
    repeat (first | refine athen_ret ?_ | refine ain_ret ?_)
    first
      | refine apost_ret (aend (l := [.sl _ _ _ _, .err _]) (.tmp (.tmp .nil)) (fun h => by cases h) (.cons (.noN rfl rfl) (.cons (.noN rfl rfl) .nil)) ⟨Wk.v ?_, rfl, rfl⟩)
      | refine apost_ret (aends (l := [.sl _ _ _ _, .err _]) (.tmp (.tmp .nil)) (fun h => by cases h) (.cons shut (fun h => by cases h) (.cons shut (fun h => by cases h) .nil)) rfl ⟨Wk.v ?_, rfl, rfl⟩)
      | refine apost_ret (aend (l := [.osl _ _ _ _ _, .err _]) (.tmp (.tmp .nil)) (fun h => by cases h) (.cons (.noN rfl rfl) (.cons (.noN rfl rfl) .nil)) ⟨Wk.v ?_, rfl, rfl⟩)
      | refine apost_ret (aends (l := [.osl _ _ _ _ _, .err _]) (.tmp (.tmp .nil)) (fun h => by cases h) (.cons shut (fun h => by cases h) (.cons shut (fun h => by cases h) .nil)) rfl ⟨Wk.v ?_, rfl, rfl⟩)
    have h : (Sp.goodPart p && Sp.goodXid x && Sp.goodStage st) = false := by
      cases h1 : Sp.goodPart p <;> cases h2 : Sp.goodXid x <;> cases h3 : Sp.goodStage st <;> simp [h1, h2, h3] at hc3 ⊢
    rw [show Sp.cut p x st im = ([], 12) by simp only [Sp.cut, h, if_true]]; show Wk _ (.tup [.sl 10 true 0 _, .err (.code 12)]); (repeat' (first | exact Wk.refl | exact Wk.sl0 | apply Wk.tup | apply Wk.agg | apply WkL.cons | exact WkL.nil | refine Wk.sl (fun _ _ => ?_)))
  · (try simp only [cmpI, errD_nil, Bool.not_eq_true', Bool.not_eq_false', decide_eq_true_eq, decide_eq_false_iff_not] at hc3); have ht25 := hc3
    refine awp_skip ?_
    refine awp_seq ?_
    refine awp_seq ?_
    refine awp_region rfl ?_
    first
      | refine sP (opp_mv (v := .sl _ _ _ _) rfl rfl) rfl rfl ?_
      | refine sP (opp_mv (v := .osl _ _ _ _ _) rfl rfl) rfl rfl ?_
    first
      | refine sP (opp_lenSl rfl rfl un36) rfl rfl ?_
      | refine sP (opp_lenOsl rfl rfl un36) rfl rfl ?_
    refine sR (opr_call rfl rfl ent39 rfl (c39 _ _ _) (AViews.refl _ rfl)) rfl rfl rfl ?_ -- d=29 t=4
    refine sP (opp_not rfl rfl) rfl rfl ?_
    refine awp_cond _ rfl (fun hc6 => ?_) (fun hc6 => ?_)
    · (try simp only [cmpI, errD_nil, Bool.not_eq_true', Bool.not_eq_false', decide_eq_true_eq, decide_eq_false_iff_not] at hc6); have ht30 := hc6
      refine awp_seq ?_
      refine awp_draw hmix rfl (by kernel_rfl) ?_
      refine dP (fun _ => false) (opp_loadF rfl (ev_glob hG6) ty42) rfl rfl ?_
      first
        | refine dP (fun _ => false) (opp_as (v := .sl _ _ _ _) rfl rfl) rfl rfl ?_
        | refine dP (fun _ => false) (opp_as (v := .osl _ _ _ _ _) rfl rfl) rfl rfl ?_
      refine dP (fun _ => false) (opp_as (v := .err _) rfl rfl) rfl rfl ?_
      refine And.intro (by kernel_rfl) ?_
      refine awp_ret ?_
      repeat (first | refine athen_ret ?_ | refine ain_ret ?_)
      first
        | refine apost_ret (aend (l := [.sl _ _ _ _, .err _]) (.tmp (.tmp .nil)) (fun h => by cases h) (.cons (.noN rfl rfl) (.cons (.noN rfl rfl) .nil)) ⟨Wk.v ?_, rfl, rfl⟩)
        | refine apost_ret (aends (l := [.sl _ _ _ _, .err _]) (.tmp (.tmp .nil)) (fun h => by cases h) (.cons shut (fun h => by cases h) (.cons shut (fun h => by cases h) .nil)) rfl ⟨Wk.v ?_, rfl, rfl⟩)
        | refine apost_ret (aend (l := [.osl _ _ _ _ _, .err _]) (.tmp (.tmp .nil)) (fun h => by cases h) (.cons (.noN rfl rfl) (.cons (.noN rfl rfl) .nil)) ⟨Wk.v ?_, rfl, rfl⟩)
        | refine apost_ret (aends (l := [.osl _ _ _ _ _, .err _]) (.tmp (.tmp .nil)) (fun h => by cases h) (.cons shut (fun h => by cases h) (.cons shut (fun h => by cases h) .nil)) rfl ⟨Wk.v ?_, rfl, rfl⟩)
      have hgd : (Sp.goodPart p && Sp.goodXid x && Sp.goodStage st) = true := by
        cases h1 : Sp.goodPart p <;> cases h2 : Sp.goodXid x <;> cases h3 : Sp.goodStage st <;> simp [h1, h2, h3] at hc3 ⊢
      rw [show Sp.cut p x st im = ([], 11) by simp [Sp.cut, hgd, hc6]]; show Wk _ (.tup [.sl 10 true 0 _, .err (.code 11)]); (repeat' (first | exact Wk.refl | exact Wk.sl0 | apply Wk.tup | apply Wk.agg | apply WkL.cons | exact WkL.nil | refine Wk.sl (fun _ _ => ?_)))
    · (try simp only [cmpI, errD_nil, Bool.not_eq_true', Bool.not_eq_false', decide_eq_true_eq, decide_eq_false_iff_not] at hc6); have ht30 := hc6
      refine awp_skip ?_
      refine awp_seq ?_
      have hsz : 1 ≤ im.length ∧ im.length ≤ 4096 := by
        have : Sp.within im.length 1 4096 = true := by simpa using hc6
        simp only [Sp.within, decide_eq_true_eq] at this; omega
      have htot : Sp.total im ≤ 32 := by unfold Sp.total; omega
      have htot1 : 1 ≤ Sp.total im := by unfold Sp.total; omega
      have hgd : (Sp.goodPart p && Sp.goodXid x && Sp.goodStage st) = true := by
        cases h1 : Sp.goodPart p <;> cases h2 : Sp.goodXid x <;> cases h3 : Sp.goodStage st <;> simp [h1, h2, h3] at hc3 ⊢
      refine awp_region rfl ?_
      refine sR (opr_alloc (n := 10) rfl z54) rfl rfl rfl ?_
      refine awp_seq ?_
      refine awp_seq ?_
      refine awp_region rfl ?_
      first
        | refine sP (opp_mv (v := .sl _ _ _ _) rfl rfl) rfl rfl ?_
        | refine sP (opp_mv (v := .osl _ _ _ _ _) rfl rfl) rfl rfl ?_
      refine sR (opr_call rfl rfl ent56 rfl (c56 _ _ _ _ (by first | omega | (simp_all; done))) (AViews.refl _ rfl)) rfl rfl rfl ?_ -- d=33 t=93
      refine awp_block ?_
      refine awp_rangeFunc (x := fun k => .sl 1 (decide (im.length ≤ 128 * k)) (min 128 (im.length - 128 * k)) (fun j => bAt im (128 * k + j))) (total := Sp.total im) rfl ent76 (chunk_seq b im.length (bAt im) (by omega) (by omega)) rfl rfl rfl (Nat.le_of_ble_eq_true rfl) (Nat.le_of_ble_eq_true rfl) (by kernel_rfl) (fun pre => [(10, cond pre.isEmpty (some (.sl 10 true 0 (fun _ => .top))) (some (.osl 1044 10 0 pre.length pre.length))), (1044, cond pre.isEmpty none (some (.arr 10 pre.length (fun j => noteAV (Sp.cutNote p x st im (pre.getD j 0) j 0)))))]) [1044] (by
        refine imp_over (L := []) [] rfl rfl (by kernel_rfl) True.intro ?_
        refine And.intro (And.intro rfl (And.intro rfl (Exists.intro _ (And.intro rfl wkc)))) ?_
        exact True.intro
        ) (fun C' hV' hN' hM' l m pre k hlen => ?_) ?_
      obtain ⟨_, _, w0', G0', σ0', _, own0'⟩ := C'; dsimp only at hV' hN' hM'; subst hV'; subst hN'; subst hM'; rcases pre with _ | ⟨p0, rest⟩
      · skip
        refine awpr_block ?_
        refine awpr_region rfl rfl ?_
        first
          | refine sP (opp_loadP rfl rfl rfl rfl bi rfl ty54) rfl rfl ?_
          | refine sP (opp_loadF rfl rfl ty54) rfl rfl ?_
        first
          | refine sP (opp_loadP rfl rfl rfl rfl bi rfl ty3) rfl rfl ?_
          | refine sP (opp_loadF rfl rfl ty3) rfl rfl ?_
        first
          | refine sP (opp_loadP rfl rfl rfl rfl bi rfl ty23) rfl rfl ?_
          | refine sP (opp_loadF rfl rfl ty23) rfl rfl ?_
        first
          | refine sP (opp_loadP rfl rfl rfl rfl bi rfl ty3) rfl rfl ?_
          | refine sP (opp_loadF rfl rfl ty3) rfl rfl ?_
        first
          | refine sP (opp_loadP rfl rfl rfl rfl bi rfl ty54) rfl rfl ?_
          | refine sP (opp_loadF rfl rfl ty54) rfl rfl ?_
        first
          | refine sP (opp_lenSl rfl rfl un54) rfl rfl ?_
          | refine sP (opp_lenOsl rfl rfl un54) rfl rfl ?_
        first
          | refine sP (opp_mv (v := .sl _ _ _ _) rfl rfl) rfl rfl ?_
          | refine sP (opp_mv (v := .osl _ _ _ _ _) rfl rfl) rfl rfl ?_
        refine sP (opp_bytesStr rfl rfl (Sp.pieceOf im k) (Sp.pieceOf_length im k) (fun j hj => by rw [Sp.pieceOf_get im k j hj]; rfl) un36 unu8 un9) rfl rfl ?_
        refine sP (opp_build rfl z29 bld29 rfl [.int _ _, .int _ _, .agg _, .int _ _, .int _ _, .int .i64 0, .int .u32 0, .str _] rfl) rfl rfl ?_
        refine sR (opr_buildSlice (n := 44) (g := fun j => if j = 0 then .agg _ else .agg [.int .i64 0, .int .i64 0, .agg [.int .i64 0, .int .i64 0, .int .i64 0], .int .i64 0, .int .i64 0, .int .i64 0, .int .u32 0, .str []]) rfl eb54 z29 (by decide) rfl rfl) rfl rfl rfl ?_
        first
          | refine sR (opr_append (d := 45) rfl rfl rfl (by omega) (.osl0 rfl (by omega)) eb54 z29 (by omega) (by omega)) rfl rfl rfl ?_
          | refine sR (opr_append (d := 45) rfl rfl rfl (by omega) .sl eb54 z29 (by omega) (by omega)) rfl rfl rfl ?_
          | refine sR (opr_append (d := 45) rfl rfl rfl (by omega) (.osl rfl (by omega) (fun _ _ => rfl)) eb54 z29 (by omega) (by omega)) rfl rfl rfl ?_
          | refine sR (opr_appendNil (d := 45) rfl rfl (.osl0 rfl (by omega)) eb54 z29 (by omega) (by omega) (by omega)) rfl rfl rfl ?_
          | refine sR (opr_appendNil (d := 45) rfl rfl .sl eb54 z29 (by omega) (by omega) (by omega)) rfl rfl rfl ?_
          | refine sR (opr_appendNil (d := 45) rfl rfl (.osl rfl (by omega) (fun _ _ => rfl)) eb54 z29 (by omega) (by omega) (by omega)) rfl rfl rfl ?_
        first
          | refine sR0 (opr_store (v := .sl _ _ _ _) (trn := (.sl _ _ _ _)) rfl rfl rfl rfl bi rfl rfl rfl rfl fr2 ty54 (fun _ _ h => h)) rfl rfl rfl ?_
          | refine sR0 (opr_store (v := .osl _ _ _ _ _) (trn := (.osl _ _ _ _ _)) rfl rfl rfl rfl bi rfl rfl rfl rfl fr2 ty54 (fun _ _ h => h)) rfl rfl rfl ?_
        refine And.intro rfl (Exists.intro [] (imp_overH [(1044, 45)] rfl (by kernel_rfl) ?_))
        refine And.intro (And.intro rfl (And.intro rfl (Exists.intro _ (And.intro rfl wkc)))) ?_
        refine And.intro (And.intro rfl (And.intro rfl (Exists.intro _ (And.intro rfl (by exact WkC.arr (fun j hj => by have h0 : j = 0 := (by simpa using hj); subst h0; rfl)))))) ?_
        exact True.intro
      · skip
        refine awpr_block ?_
        refine awpr_region rfl rfl ?_
        first
          | refine sP (opp_loadP rfl rfl rfl rfl bi rfl ty54) rfl rfl ?_
          | refine sP (opp_loadF rfl rfl ty54) rfl rfl ?_
        first
          | refine sP (opp_loadP rfl rfl rfl rfl bi rfl ty3) rfl rfl ?_
          | refine sP (opp_loadF rfl rfl ty3) rfl rfl ?_
        first
          | refine sP (opp_loadP rfl rfl rfl rfl bi rfl ty23) rfl rfl ?_
          | refine sP (opp_loadF rfl rfl ty23) rfl rfl ?_
        first
          | refine sP (opp_loadP rfl rfl rfl rfl bi rfl ty3) rfl rfl ?_
          | refine sP (opp_loadF rfl rfl ty3) rfl rfl ?_
        first
          | refine sP (opp_loadP rfl rfl rfl rfl bi rfl ty54) rfl rfl ?_
          | refine sP (opp_loadF rfl rfl ty54) rfl rfl ?_
        first
          | refine sP (opp_lenSl rfl rfl un54) rfl rfl ?_
          | refine sP (opp_lenOsl rfl rfl un54) rfl rfl ?_
        first
          | refine sP (opp_mv (v := .sl _ _ _ _) rfl rfl) rfl rfl ?_
          | refine sP (opp_mv (v := .osl _ _ _ _ _) rfl rfl) rfl rfl ?_
        refine sP (opp_bytesStr rfl rfl (Sp.pieceOf im k) (Sp.pieceOf_length im k) (fun j hj => by rw [Sp.pieceOf_get im k j hj]; rfl) un36 unu8 un9) rfl rfl ?_
        refine sP (opp_build rfl z29 bld29 rfl [.int _ _, .int _ _, .agg _, .int _ _, .int _ _, .int .i64 0, .int .u32 0, .str _] rfl) rfl rfl ?_
        refine sR (opr_buildSlice (n := 44) (g := fun j => if j = 0 then .agg _ else .agg [.int .i64 0, .int .i64 0, .agg [.int .i64 0, .int .i64 0, .int .i64 0], .int .i64 0, .int .i64 0, .int .i64 0, .int .u32 0, .str []]) rfl eb54 z29 (by decide) rfl rfl) rfl rfl rfl ?_
        first
          | refine sR (opr_append (d := 45) rfl rfl rfl (by omega) (.osl0 rfl (by omega)) eb54 z29 (by omega) (by omega)) rfl rfl rfl ?_
          | refine sR (opr_append (d := 45) rfl rfl rfl (by omega) .sl eb54 z29 (by omega) (by omega)) rfl rfl rfl ?_
          | refine sR (opr_append (d := 45) rfl rfl rfl (by omega) (.osl rfl (by omega) (fun _ _ => rfl)) eb54 z29 (by omega) (by omega)) rfl rfl rfl ?_
          | refine sR (opr_appendNil (d := 45) rfl rfl (.osl0 rfl (by omega)) eb54 z29 (by omega) (by omega) (by omega)) rfl rfl rfl ?_
          | refine sR (opr_appendNil (d := 45) rfl rfl .sl eb54 z29 (by omega) (by omega) (by omega)) rfl rfl rfl ?_
          | refine sR (opr_appendNil (d := 45) rfl rfl (.osl rfl (by omega) (fun _ _ => rfl)) eb54 z29 (by omega) (by omega) (by omega)) rfl rfl rfl ?_
        first
          | refine sR0 (opr_store (v := .sl _ _ _ _) (trn := (.sl _ _ _ _)) rfl rfl rfl rfl bi rfl rfl rfl rfl fr2 ty54 (fun _ _ h => h)) rfl rfl rfl ?_
          | refine sR0 (opr_store (v := .osl _ _ _ _ _) (trn := (.osl _ _ _ _ _)) rfl rfl rfl rfl bi rfl rfl rfl rfl fr2 ty54 (fun _ _ h => h)) rfl rfl rfl ?_
        refine And.intro rfl (Exists.intro [] (imp_overH [(1044, 45)] rfl (by kernel_rfl) ?_))
        refine And.intro (And.intro rfl (And.intro rfl (Exists.intro _ (And.intro rfl (by exact WkC.of (by show AV.osl 45 10 0 _ _ = AV.osl 45 10 0 _ _; simp)))))) ?_
        refine And.intro (And.intro rfl (And.intro rfl (Exists.intro _ (And.intro rfl (by show WkC (AV.arr 10 _ _) (AV.arr 10 _ _); rw [List.length_append]; exact WkC.arr (fun j hj => Sp.cut_append p x st im (p0 :: rest) k j _ rfl _ hj)))))) ?_
        exact True.intro
      · obtain ⟨p0, rest, hr⟩ : ∃ p0 rest, List.range (Sp.total im) = p0 :: rest := by
          cases h : List.range (Sp.total im) with
          | nil => have := congrArg List.length h; simp at this; omega
          | cons p0 rest => exact ⟨p0, rest, rfl⟩
        have hlen : (p0 :: rest).length = Sp.total im := by rw [← hr]; simp
        rw [hr]
        refine awp_seq ?_
        refine awp_seq ?_
        refine awp_region rfl ?_
        first
          | refine sP (opp_loadP rfl rfl rfl rfl bi rfl ty54) rfl rfl ?_
          | refine sP (opp_loadF rfl rfl ty54) rfl rfl ?_
        first
          | refine sP (opp_lenSl rfl rfl un54) rfl rfl ?_
          | refine sP (opp_lenOsl rfl rfl un54) rfl rfl ?_
        refine sP (opp_mv (v := .int _ _) rfl rfl) rfl rfl ?_
        refine awp_block ?_
        refine awp_loopK (ι := Nat) (fun i => i ≤ (p0 :: rest).length) (fun i => [(12, .top), (48, .int .i64 i), (49, .top), (50, .top), (51, .top), (52, .top), (53, .top), (54, .top), (55, .top), (56, .top), (57, .top)]) (fun i => [(1044, some (.arr 10 (p0 :: rest).length (fun j => noteAV (Sp.cutNote p x st im j j (if j < i then Sp.total im else 0)))))]) [] (fun i => (p0 :: rest).length - i) (0) (Nat.zero_le _) (by
          refine imp_over [] rfl rfl (by kernel_rfl) ?_ ?_
          · refine And.intro wkv ?_
            refine And.intro wkv ?_
            refine And.intro wkv ?_
            refine And.intro wkv ?_
            refine And.intro wkv ?_
            refine And.intro wkv ?_
            refine And.intro wkv ?_
            refine And.intro wkv ?_
            refine And.intro wkv ?_
            refine And.intro wkv ?_
            refine And.intro wkv ?_
            exact True.intro
          · refine And.intro (And.intro rfl (And.intro rfl (Exists.intro _ (And.intro rfl (by exact WkC.arr (fun j hj => by rw [← hr, Sp.range_get _ _ (by rw [← hlen]; exact hj)]; simp)))))) ?_
            exact True.intro
          ) ?_
        intro i hi1
        refine awp_seq ?_
        refine awp_region rfl ?_
        refine sP (opp_cmp rfl rfl rfl rfl) rfl rfl ?_
        refine awp_seq ?_
        refine awp_cond _ rfl (fun hc14 => ?_) (fun hc14 => ?_)
        · (try simp only [cmpI, errD_nil, Bool.not_eq_true', Bool.not_eq_false', decide_eq_true_eq, decide_eq_false_iff_not] at hc14); have ht49 := hc14
          refine awp_skip ?_
          refine awp_seq ?_
          refine awp_block ?_
          refine awp_seq ?_
          refine awp_region rfl ?_
          refine sP (opp_mv (v := .int _ _) rfl rfl) rfl rfl ?_
          refine sP (opp_as (v := .int _ _) rfl rfl) rfl rfl ?_
          refine awp_region rfl ?_
          first
            | refine sP (opp_loadP rfl rfl rfl rfl bi rfl ty54) rfl rfl ?_
            | refine sP (opp_loadF rfl rfl ty54) rfl rfl ?_
          refine sP (opp_mv (v := .int _ _) rfl rfl) rfl rfl ?_
          first
            | refine sP (opp_loadP rfl rfl rfl rfl bi rfl ty54) rfl rfl ?_
            | refine sP (opp_loadF rfl rfl ty54) rfl rfl ?_
          first
            | refine sP (opp_lenSl rfl rfl un54) rfl rfl ?_
            | refine sP (opp_lenOsl rfl rfl un54) rfl rfl ?_
          first
            | refine sP (opp_indexSl rfl rfl rfl el54 (by omega) (by omega)) rfl rfl ?_
            | refine sP (opp_indexOsl0 rfl rfl rfl el54 (by omega) (by omega)) rfl rfl ?_
            | refine sP (opp_indexOsl rfl rfl rfl el54 (by omega) (by omega)) rfl rfl ?_
          first
            | refine sP (opp_fieldP rfl rfl fld29_5 rfl) rfl rfl ?_
            | refine sP (opp_fieldF rfl rfl rfl fld29_5 rfl rfl) rfl rfl ?_
          first
            | refine sR0 (opr_storeA (v := .int _ _) rfl rfl rfl (by omega) (by first | rfl | omega) rfl rfl rfl rfl ty3) rfl rfl rfl ?_
            | refine sR0 (opr_storeAF (v := .int _ _) (w := .agg [_, _, _, _, _, .int _ _, _, _]) rfl rfl rfl (by omega) rfl rfl rfl rfl rfl rfl rfl rfl ty3) rfl rfl rfl ?_
          refine awp_region rfl ?_
          first
            | refine sP (opp_arith rfl rfl rfl (.inl ⟨rfl, w64 (by omega)⟩)) rfl rfl ?_
            | refine sP (opp_arith rfl rfl rfl (.inl ⟨rfl, rfl⟩)) rfl rfl ?_
          refine sP (opp_mv (v := .int _ _) rfl rfl) rfl rfl ?_
          refine Exists.intro (i + 1) (And.intro (And.intro (by omega) (by omega)) (by
            refine imp_over [] rfl rfl (by kernel_rfl) ?_ ?_
            · refine And.intro wkv ?_
              refine And.intro wkv ?_
              refine And.intro wkv ?_
              refine And.intro wkv ?_
              refine And.intro wkv ?_
              refine And.intro wkv ?_
              refine And.intro wkv ?_
              refine And.intro wkv ?_
              refine And.intro wkv ?_
              refine And.intro wkv ?_
              refine And.intro wkv ?_
              exact True.intro
            · refine And.intro (And.intro rfl (And.intro rfl (Exists.intro _ (And.intro rfl (by exact WkC.arr (fun j hj => Sp.cut_tot p x st im j i _ _ (fun h => by subst h; rw [hlen]; simp [noteAV, Sp.cutNote]))))))) ?_
              exact True.intro
            ))
        · (try simp only [cmpI, errD_nil, Bool.not_eq_true', Bool.not_eq_false', decide_eq_true_eq, decide_eq_false_iff_not] at hc14); have ht49 := hc14
          refine awp_exit ?_
          refine awp_seq ?_
          refine awp_region rfl ?_
          first
            | refine sP (opp_loadP rfl rfl rfl rfl bi rfl ty54) rfl rfl ?_
            | refine sP (opp_loadF rfl rfl ty54) rfl rfl ?_
          first
            | refine sP (opp_as (v := .sl _ _ _ _) rfl rfl) rfl rfl ?_
            | refine sP (opp_as (v := .osl _ _ _ _ _) rfl rfl) rfl rfl ?_
          refine sP (opp_as (v := .err _) rfl rfl) rfl rfl ?_
          refine awp_ret ?_
          repeat (first | refine athen_ret ?_ | refine ain_ret ?_)
          first
            | refine apost_ret (aend (l := [.sl _ _ _ _, .err _]) (.tmp (.tmp .nil)) (fun h => by cases h) (.cons (.noN rfl rfl) (.cons (.noN rfl rfl) .nil)) ⟨Wk.v ?_, rfl, rfl⟩)
            | refine apost_ret (aends (l := [.sl _ _ _ _, .err _]) (.tmp (.tmp .nil)) (fun h => by cases h) (.cons shut (fun h => by cases h) (.cons shut (fun h => by cases h) .nil)) rfl ⟨Wk.v ?_, rfl, rfl⟩)
            | refine apost_ret (aend (l := [.osl _ _ _ _ _, .err _]) (.tmp (.tmp .nil)) (fun h => by cases h) (.cons (.noN rfl rfl) (.cons (.noN rfl rfl) .nil)) ⟨Wk.v ?_, rfl, rfl⟩)
            | refine apost_ret (aends (l := [.osl _ _ _ _ _, .err _]) (.tmp (.tmp .nil)) (fun h => by cases h) (.cons shut (fun h => by cases h) (.cons shut (fun h => by cases h) .nil)) rfl ⟨Wk.v ?_, rfl, rfl⟩)
          have hi2 : i = Sp.total im := by omega
          have hne : Sp.notes p x st im ≠ [] := fun h => by have := congrArg List.length h; rw [Sp.notes_length] at this; simp at this; omega
          rw [show Sp.cut p x st im = (Sp.notes p x st im, 0) by simp [Sp.cut, hgd, hc6], hlen]; simp only [decide_eq_false hne, Sp.notes_length]; (repeat' (first | exact Wk.refl | exact Wk.sl0 | apply Wk.tup | apply Wk.agg | apply WkL.cons | exact WkL.nil | refine Wk.sl (fun _ _ => ?_)))
          rename_i j hj; rw [Sp.notes_get _ _ _ _ _ hj, if_pos (by omega)]
end
end Go.Proofs.YtgaihhimkodmmaaGreatDoor
/- The laws of layer 20: what they begin with (walks over this dump). -/
namespace Go.Proofs.YtgaihhimkodmmaaGreatDoor
attribute [local irreducible] Tryz.prog
open Go.Fy
set_option linter.unusedSimpArgs false
set_option linter.unusedVariables false
section
variable {ea : Nat → Addr} {cds : List Nat} {gl : Nat → Option AV}
theorem bAt_rep (n j : Nat) : bAt (List.replicate n 0) j = .int .u8 0 := by
  simp only [bAt, List.getD_eq_getElem?_getD, List.getElem?_replicate]; split <;> rfl
theorem c9 : APure (V ea cds gl) 9 [] true (noteAV Sp.kN) := by
  refine acalls_of_body (N := 3) Tryz.func9 rfl rfl (Nat.le_of_ble_eq_true rfl) fun C hV hN hM hO => ?_
  obtain ⟨_, _, w0, G0, σ0, _, own0⟩ := C; dsimp only at hV hN hM hO; subst hV; subst hN; subst hM
  refine awp_seq ?_
  refine awp_region rfl ?_
  refine sR (opr_alloc (n := 0) rfl z29) rfl rfl rfl ?_
  refine awp_seq ?_
  refine awp_region rfl ?_
  refine sP (opp_build rfl z23 bld23 rfl [.int _ _, .int _ _, .int _ _] rfl) rfl rfl ?_
  refine sP (opp_build rfl z29 bld29 rfl [.int _ _, .int _ _, .agg _, .int .i64 0, .int .i64 0, .int .i64 0, .int .u32 0, .str []] rfl) rfl rfl ?_
  refine sR0 (opr_store (v := .agg _) (trn := (.agg _)) rfl rfl rfl rfl bi rfl rfl rfl rfl fr2 ty29 (fun _ _ h => h)) rfl rfl rfl ?_
  refine awp_ret ?_
  repeat (first | refine athen_ret ?_ | refine ain_ret ?_)
  first
    | refine apost_ret (aend1 (r0 := .agg _) (.cell rfl rfl rfl (by exact True.intro) rfl ty29 .nil) (.noN rfl rfl) ⟨Wk.v ?_, rfl, rfl⟩)
    | refine apost_ret (aend1s (r0 := .agg _) (.cell rfl rfl rfl (by exact True.intro) rfl ty29 .nil) shut rfl ⟨Wk.v ?_, rfl, rfl⟩)
  exact .refl
set_option maxRecDepth 100000 in
theorem c5 (hG3 : gl 3 = some (.err (.code 1))) (hG4 : gl 4 = some (.err (.code 5))) (hG11 : gl 11 = some (.err (.code 6)))
    (hG7 : gl 7 = some (.err (.code 7))) (hG10 : gl 10 = some (.err (.code 4))) (hG5 : gl 5 = some (.err (.code 12))) (hG6 : gl 6 = some (.err (.code 11))) :
    APure (V ea cds gl) 5 [] false (.bool true) := by
  refine acalls_of_body (N := 60) Tryz.func5 rfl rfl (Nat.le_of_ble_eq_true rfl) fun C hV hN hM hO => ?_
  obtain ⟨_, _, w0, G0, σ0, _, own0⟩ := C; dsimp only at hV hN hM hO; subst hV; subst hN; subst hM
  refine awp_seq ?_
  refine awp_region rfl ?_
  refine sP (opp_as (v := .bool _) rfl rfl) rfl rfl ?_
  refine awp_seq ?_
  refine awp_region rfl ?_
  refine sR (opr_call rfl rfl ent9 rfl (c9) (AViews.refl _ rfl)) rfl rfl rfl ?_ -- d=8 t=29
  refine sR (opr_call rfl rfl ent22 rfl (c22 Sp.kN (by decide) hG7 hG10) (AViews.refl _ rfl)) rfl rfl rfl ?_ -- d=9 t=64
  refine sP (opp_mv (v := .tup _) rfl rfl) rfl rfl ?_
  refine sP (opp_extract rfl rfl rfl) rfl rfl ?_
  refine sP (opp_extract rfl rfl rfl) rfl rfl ?_
  refine sP (opp_as (v := .str _) rfl rfl) rfl rfl ?_
  refine sP (opp_as (v := .err _) rfl rfl) rfl rfl ?_
  refine awp_seq ?_
  rw [Sp.k_put]
  refine awp_region rfl ?_
  refine sP (opp_mv (v := .str _) rfl rfl) rfl rfl ?_
  refine sR (opr_call rfl rfl ent23 rfl (c23 (Sp.crcSeal Sp.kB) (by rw [Sp.k_len]; decide) hG3 hG4 hG11 hG7 hG10) (AViews.refl _ rfl)) rfl rfl rfl ?_ -- d=14 t=66
  refine sP (opp_mv (v := .tup _) rfl rfl) rfl rfl ?_
  refine sP (opp_extract rfl rfl rfl) rfl rfl ?_
  refine sP (opp_extract rfl rfl rfl) rfl rfl ?_
  refine sR (opr_alloc (n := 3) rfl z29) rfl rfl rfl ?_
  refine sR0 (opr_store (v := .agg _) (trn := (.agg _)) rfl rfl rfl rfl bi rfl rfl rfl rfl fr2 ty29 (fun _ _ h => h)) rfl rfl rfl ?_
  refine sP (opp_as (v := .err _) rfl rfl) rfl rfl ?_
  refine awp_seq ?_
  rw [Sp.k_get]
  refine awp_draw hmix rfl (by kernel_rfl) ?_
  refine dR (fun _ => false) (opr_call rfl rfl ent9 rfl (c9) (AViews.refl _ rfl)) rfl rfl rfl ?_ -- d=18 t=29
  refine dP (fun _ => false) (opp_field rfl rfl rfl fld29_2 rfl) rfl rfl ?_
  refine dR (fun _ => false) (opr_make (n := 20) rfl rfl rfl eb36 z5 (by omega) (by omega) (by omega) (by omega)) rfl rfl rfl ?_
  refine dR (fun n => !([] : List Nat).contains n) (opr_call rfl rfl ent24 rfl (c24 2 ⟨1, 3, 2⟩ 1 false (List.replicate 300 0) hG5 hG6) (.cons (aview_noN rfl) (.cons (aview_noN rfl) (.cons (aview_noN rfl) (.cons (aview_osl rfl (fun j h => by cases h) (by decide) _ (fun j hj => bAt_rep 300 j)) .nil))))) rfl rfl rfl ?_ -- d=21 t=68
  refine dP (fun _ => false) (opp_mv (v := .tup _) rfl rfl) rfl rfl ?_
  refine dP (fun _ => false) (opp_extract rfl rfl rfl) rfl rfl ?_
  refine dP (fun _ => false) (opp_extract rfl rfl rfl) rfl rfl ?_
  first
    | refine dP (fun _ => false) (opp_as (v := .sl _ _ _ _) rfl rfl) rfl rfl ?_
    | refine dP (fun _ => false) (opp_as (v := .osl _ _ _ _ _) rfl rfl) rfl rfl ?_
  refine dP (fun _ => false) (opp_as (v := .err _) rfl rfl) rfl rfl ?_
  refine And.intro (by kernel_rfl) ?_
  refine awp_seq ?_
  refine awp_seq ?_
  rw [Sp.k_cut]
  refine awp_draw hmix rfl (by kernel_rfl) ?_
  refine dP (fun _ => false) (opp_mv (v := .err _) rfl rfl) rfl rfl ?_
  refine dP (fun _ => false) (opp_errNil rfl rfl rfl un42 (.inr ⟨rfl, rfl⟩)) rfl rfl ?_
  refine dP (fun _ => false) (opp_mv (v := .bool _) rfl rfl) rfl rfl ?_
  refine dG _ (fun _ => false) rfl rfl rfl rfl (fun hg => (And.intro gi (True.intro))) (fun hg => opp_mv (v := .err _) rfl rfl) ?_
  refine dG _ (fun _ => false) rfl rfl rfl rfl (fun hg => (And.intro gi (And.intro gi (True.intro)))) (fun hg => opp_errNil rfl rfl rfl un42 (.inr ⟨rfl, rfl⟩)) ?_
  refine dPick (fun _ => false) rfl rfl rfl rfl (by exact True.intro) rfl rfl (fun hg => gi) (fun hg => gi) ?_
  refine dP (fun _ => false) (opp_mv (v := .bool _) rfl rfl) rfl rfl ?_
  refine dG _ (fun _ => false) rfl rfl rfl rfl (fun hg => (And.intro gi (True.intro))) (fun hg => opp_mv (v := .err _) rfl rfl) ?_
  refine dG _ (fun _ => false) rfl rfl rfl rfl (fun hg => (And.intro gi (And.intro gi (True.intro)))) (fun hg => opp_errNil rfl rfl rfl un42 (.inr ⟨rfl, rfl⟩)) ?_
  refine dPick (fun _ => false) rfl rfl rfl rfl (by exact True.intro) rfl rfl (fun hg => gi) (fun hg => gi) ?_
  refine dP (fun _ => false) (opp_mv (v := .bool _) rfl rfl) rfl rfl ?_
  first
    | refine dG _ (fun n => Nat.beq n 3) rfl rfl rfl rfl (fun hg => (And.intro gi (True.intro))) (fun hg => opp_loadP rfl rfl rfl rfl bi rfl ty29) ?_
    | refine dG _ (fun n => Nat.beq n 3) rfl rfl rfl rfl (fun hg => (And.intro gi (True.intro))) (fun hg => opp_loadF rfl rfl ty29) ?_
  refine dGR _ (fun n => !([] : List Nat).contains n) rfl rfl rfl rfl (fun hg => (And.intro gi (True.intro))) (fun hg => (opr_call rfl rfl ent9 rfl (c9) (AViews.refl _ rfl))) ?_
  refine dG _ (fun _ => false) rfl rfl rfl rfl (fun hg => (And.intro gi (And.intro gi (True.intro)))) (fun hg => opp_eqAgg rfl rfl rfl (eq29 ..) eg29 rfl (.inr ⟨rfl, rfl⟩)) ?_
  refine dPick (fun _ => false) rfl rfl rfl rfl (by exact True.intro) rfl rfl (fun hg => gi) (fun hg => gi) ?_
  refine dP (fun _ => false) (opp_mv (v := .bool _) rfl rfl) rfl rfl ?_
  first
    | refine dG _ (fun _ => false) rfl rfl rfl rfl (fun hg => (And.intro gi (True.intro))) (fun hg => opp_mv (v := .sl _ _ _ _) rfl rfl) ?_
    | refine dG _ (fun _ => false) rfl rfl rfl rfl (fun hg => (And.intro gi (True.intro))) (fun hg => opp_mv (v := .osl _ _ _ _ _) rfl rfl) ?_
  first
    | refine dG _ (fun n => !([] : List Nat).contains n) rfl rfl rfl rfl (fun hg => (And.intro gi (True.intro))) (fun hg => opp_lenSl rfl rfl un54) ?_
    | refine dG _ (fun n => !([] : List Nat).contains n) rfl rfl rfl rfl (fun hg => (And.intro gi (True.intro))) (fun hg => opp_lenOsl rfl rfl un54) ?_
  refine dG _ (fun _ => false) rfl rfl rfl rfl (fun hg => (And.intro gi (And.intro gi (True.intro)))) (fun hg => opp_cmp rfl rfl rfl rfl) ?_
  refine dPick (fun _ => false) rfl rfl rfl rfl (by exact True.intro) rfl rfl (fun hg => gi) (fun hg => gi) ?_
  refine dP (fun _ => false) (opp_mv (v := .bool _) rfl rfl) rfl rfl ?_
  first
    | refine dG _ (fun _ => false) rfl rfl rfl rfl (fun hg => (And.intro gi (True.intro))) (fun hg => opp_mv (v := .sl _ _ _ _) rfl rfl) ?_
    | refine dG _ (fun _ => false) rfl rfl rfl rfl (fun hg => (And.intro gi (True.intro))) (fun hg => opp_mv (v := .osl _ _ _ _ _) rfl rfl) ?_
  refine dG _ (fun _ => false) rfl rfl rfl rfl (fun hg => (And.intro gi (And.intro gi (True.intro)))) (fun hg => opp_indexSl rfl rfl rfl el54 (by decide) (by decide)) ?_
  first
    | refine dG _ (fun _ => false) rfl rfl rfl rfl (fun hg => (And.intro gi (True.intro))) (fun hg => opp_fieldP rfl rfl fld29_7 rfl) ?_
    | refine dG _ (fun _ => false) rfl rfl rfl rfl (fun hg => (And.intro gi (True.intro))) (fun hg => opp_fieldF rfl rfl rfl fld29_7 rfl rfl) ?_
  first
    | refine dG _ (fun n => !([] : List Nat).contains n) rfl rfl rfl rfl (fun hg => (And.intro gi (True.intro))) (fun hg => opp_loadP rfl rfl rfl rfl bi rfl ty9) ?_
    | refine dG _ (fun n => !([] : List Nat).contains n) rfl rfl rfl rfl (fun hg => (And.intro gi (True.intro))) (fun hg => opp_loadF rfl rfl ty9) ?_
  refine dG _ (fun n => !([] : List Nat).contains n) rfl rfl rfl rfl (fun hg => (And.intro gi (True.intro))) (fun hg => opp_lenStr rfl rfl un9) ?_
  refine dG _ (fun _ => false) rfl rfl rfl rfl (fun hg => (And.intro gi (And.intro gi (True.intro)))) (fun hg => opp_cmp rfl rfl rfl rfl) ?_
  refine dPick (fun _ => false) rfl rfl rfl rfl (by exact True.intro) rfl rfl (fun hg => gi) (fun hg => gi) ?_
  refine And.intro (by kernel_rfl) ?_
  refine awp_cond _ rfl (fun hc6 => ?_) (fun hc6 => ?_)
  · (try simp only [cmpI, errD_nil, Bool.not_eq_true', Bool.not_eq_false', decide_eq_true_eq, decide_eq_false_iff_not] at hc6); have ht51 := hc6
    exfalso; simp [Sp.kCut] at ht51
  · (try simp only [cmpI, errD_nil, Bool.not_eq_true', Bool.not_eq_false', decide_eq_true_eq, decide_eq_false_iff_not] at hc6); have ht51 := hc6
    refine awp_skip ?_
    refine awp_seq ?_
    rw [show ((Sp.crcSeal Sp.kB, (0 : Nat)).1) = Sp.crcSeal Sp.kB from rfl]
    have hk := Sp.k_len
    refine awp_region rfl ?_
    refine sP (opp_mv (v := .str _) rfl rfl) rfl rfl ?_
    refine sP (opp_lenStr rfl rfl un9) rfl rfl ?_
    refine sP (opp_cmp rfl rfl rfl rfl) rfl rfl ?_
    refine sP (opp_mv (v := .bool _) rfl rfl) rfl rfl ?_
    refine sG _ rfl rfl rfl rfl (fun hg => (And.intro gi (True.intro))) (fun hg => opp_mv (v := .str _) rfl rfl) ?_
    refine sG _ rfl rfl rfl rfl (fun hg => (And.intro gi (And.intro gi (True.intro)))) (fun hg => opp_sliceStr rfl rfl rfl rfl un9 (by omega) (by omega) (by omega)) ?_
    refine sG _ rfl rfl rfl rfl (fun hg => (And.intro gi (And.intro gi (True.intro)))) (fun hg => opp_strEq (b := [0, 27, 4, 2, 0, 0, 0, 1, 0, 0, 0, 3, 0, 0, 0, 2, 0, 0, 0, 0, 0, 0, 0]) rfl rfl rfl (.inl ⟨rfl, rfl⟩)) ?_
    refine sPick rfl rfl rfl rfl (by exact True.intro) rfl rfl (fun hg => gi) (fun hg => gi) ?_
    refine sP (opp_as (v := .bool _) rfl rfl) rfl rfl ?_
    refine awp_ret ?_
    repeat (first | refine athen_ret ?_ | refine ain_ret ?_)
    first
      | refine apost_ret (aend1 (r0 := .bool _) (.tmp .nil) (.noN rfl rfl) ⟨Wk.v ?_, rfl, rfl⟩)
      | refine apost_ret (aend1s (r0 := .bool _) (.tmp .nil) shut rfl ⟨Wk.v ?_, rfl, rfl⟩)
    have hh := Sp.k_head
    refine .of (congrArg AV.bool ?_)
    simp only [cmpI, hk, Int.toNat_zero, List.drop_zero]
    show (bif decide (((27 : Nat) : Int) = 27) then decide ((Sp.crcSeal Sp.kB).take 23 = Sp.kB) else false) = true
    rw [hh]; simp
end
end Go.Proofs.YtgaihhimkodmmaaGreatDoor
/- The numbers of errors: api.Code; ferrylaw22.plain (walks over this dump). -/
namespace Go.Proofs.YtgaihhimkodmmaaGreatDoor
attribute [local irreducible] Tryz.prog
open Go.Fy
set_option linter.unusedSimpArgs false
set_option linter.unusedVariables false
section
variable {ea : Nat → Addr} {cds : List Nat} {gl : Nat → Option AV}
theorem c59 (c : Nat) (h1 : 11 ≤ c) (h20 : c ≤ 20) (hS : Sents cds gl) : APure (V ea cds gl) 59 [.err (.code c)] false (.int .i64 c) := by
  have hS0 := hS
  obtain ⟨hG3, hG8, hG9, hG10, hG4, hG11, hG7, hG12, hG0, hG1, hG6, hG5, hG14, hG2, hG15, hG16, hG17, hG18, hG19, hG20, hT, hall⟩ := hS
  refine acalls_of_body (N := 43) Tryz.func59 rfl rfl (Nat.le_of_ble_eq_true rfl) fun C hV hN hM hO => ?_
  obtain ⟨_, _, w0, G0, σ0, _, own0⟩ := C; dsimp only at hV hN hM hO; subst hV; subst hN; subst hM
  refine awp_seq ?_
  refine awp_region rfl ?_
  refine sP (opp_as (v := .int _ _) rfl rfl) rfl rfl ?_
  refine awp_seq ?_
  refine awp_block ?_
  refine awp_seq ?_
  refine awp_region rfl ?_
  refine sP (opp_mv (v := .err _) rfl rfl) rfl rfl ?_
  refine sP (opp_loadF rfl (ev_glob hG6) ty42) rfl rfl ?_
  refine sR (opr_call rfl rfl ent58 rfl (c58 c 11 (hall _ (by omega) h20) (hall _ (by omega) (by omega))) (AViews.refl _ rfl)) rfl rfl rfl ?_ -- d=6 t=4
  refine sP (opp_as (v := .bool _) rfl rfl) rfl rfl ?_
  refine awp_cond _ rfl (fun hc3 => ?_) (fun hc3 => ?_)
  · (try simp only [cmpI, errD_nil, Bool.not_eq_true', Bool.not_eq_false', decide_eq_true_eq, decide_eq_false_iff_not] at hc3); have ht3 := hc3
    refine awp_seq ?_
    refine awp_region rfl ?_
    refine sP (opp_as (v := .int _ _) rfl rfl) rfl rfl ?_
    refine awp_ret ?_
    repeat (first | refine athen_ret ?_ | refine ain_ret ?_)
    first
      | refine apost_ret (aend1 (r0 := .int _ _) (.tmp .nil) (.noN rfl rfl) ⟨Wk.v ?_, rfl, rfl⟩)
      | refine apost_ret (aend1s (r0 := .int _ _) (.tmp .nil) shut rfl ⟨Wk.v ?_, rfl, rfl⟩)
    have hk : c = 11 := by omega
    subst hk; exact .refl
  · (try simp only [cmpI, errD_nil, Bool.not_eq_true', Bool.not_eq_false', decide_eq_true_eq, decide_eq_false_iff_not] at hc3); have ht3 := hc3
    refine awp_seq ?_
    refine awp_region rfl ?_
    refine sP (opp_mv (v := .err _) rfl rfl) rfl rfl ?_
    refine sP (opp_loadF rfl (ev_glob hG5) ty42) rfl rfl ?_
    refine sR (opr_call rfl rfl ent58 rfl (c58 c 12 (hall _ (by omega) h20) (hall _ (by omega) (by omega))) (AViews.refl _ rfl)) rfl rfl rfl ?_ -- d=10 t=4
    refine sP (opp_as (v := .bool _) rfl rfl) rfl rfl ?_
    refine awp_cond _ rfl (fun hc6 => ?_) (fun hc6 => ?_)
    · (try simp only [cmpI, errD_nil, Bool.not_eq_true', Bool.not_eq_false', decide_eq_true_eq, decide_eq_false_iff_not] at hc6); have ht7 := hc6
      refine awp_seq ?_
      refine awp_region rfl ?_
      refine sP (opp_as (v := .int _ _) rfl rfl) rfl rfl ?_
      refine awp_ret ?_
      repeat (first | refine athen_ret ?_ | refine ain_ret ?_)
      first
        | refine apost_ret (aend1 (r0 := .int _ _) (.tmp .nil) (.noN rfl rfl) ⟨Wk.v ?_, rfl, rfl⟩)
        | refine apost_ret (aend1s (r0 := .int _ _) (.tmp .nil) shut rfl ⟨Wk.v ?_, rfl, rfl⟩)
      have hk : c = 12 := by omega
      subst hk; exact .refl
    · (try simp only [cmpI, errD_nil, Bool.not_eq_true', Bool.not_eq_false', decide_eq_true_eq, decide_eq_false_iff_not] at hc6); have ht7 := hc6
      refine awp_seq ?_
      refine awp_region rfl ?_
      refine sP (opp_mv (v := .err _) rfl rfl) rfl rfl ?_
      refine sP (opp_loadF rfl (ev_glob hG14) ty42) rfl rfl ?_
      refine sR (opr_call rfl rfl ent58 rfl (c58 c 13 (hall _ (by omega) h20) (hall _ (by omega) (by omega))) (AViews.refl _ rfl)) rfl rfl rfl ?_ -- d=14 t=4
      refine sP (opp_as (v := .bool _) rfl rfl) rfl rfl ?_
      refine awp_cond _ rfl (fun hc9 => ?_) (fun hc9 => ?_)
      · (try simp only [cmpI, errD_nil, Bool.not_eq_true', Bool.not_eq_false', decide_eq_true_eq, decide_eq_false_iff_not] at hc9); have ht11 := hc9
        refine awp_seq ?_
        refine awp_region rfl ?_
        refine sP (opp_as (v := .int _ _) rfl rfl) rfl rfl ?_
        refine awp_ret ?_
        repeat (first | refine athen_ret ?_ | refine ain_ret ?_)
        first
          | refine apost_ret (aend1 (r0 := .int _ _) (.tmp .nil) (.noN rfl rfl) ⟨Wk.v ?_, rfl, rfl⟩)
          | refine apost_ret (aend1s (r0 := .int _ _) (.tmp .nil) shut rfl ⟨Wk.v ?_, rfl, rfl⟩)
        have hk : c = 13 := by omega
        subst hk; exact .refl
      · (try simp only [cmpI, errD_nil, Bool.not_eq_true', Bool.not_eq_false', decide_eq_true_eq, decide_eq_false_iff_not] at hc9); have ht11 := hc9
        refine awp_seq ?_
        refine awp_region rfl ?_
        refine sP (opp_mv (v := .err _) rfl rfl) rfl rfl ?_
        refine sP (opp_loadF rfl (ev_glob hG2) ty42) rfl rfl ?_
        refine sR (opr_call rfl rfl ent58 rfl (c58 c 14 (hall _ (by omega) h20) (hall _ (by omega) (by omega))) (AViews.refl _ rfl)) rfl rfl rfl ?_ -- d=18 t=4
        refine sP (opp_as (v := .bool _) rfl rfl) rfl rfl ?_
        refine awp_cond _ rfl (fun hc12 => ?_) (fun hc12 => ?_)
        · (try simp only [cmpI, errD_nil, Bool.not_eq_true', Bool.not_eq_false', decide_eq_true_eq, decide_eq_false_iff_not] at hc12); have ht15 := hc12
          refine awp_seq ?_
          refine awp_region rfl ?_
          refine sP (opp_as (v := .int _ _) rfl rfl) rfl rfl ?_
          refine awp_ret ?_
          repeat (first | refine athen_ret ?_ | refine ain_ret ?_)
          first
            | refine apost_ret (aend1 (r0 := .int _ _) (.tmp .nil) (.noN rfl rfl) ⟨Wk.v ?_, rfl, rfl⟩)
            | refine apost_ret (aend1s (r0 := .int _ _) (.tmp .nil) shut rfl ⟨Wk.v ?_, rfl, rfl⟩)
          have hk : c = 14 := by omega
          subst hk; exact .refl
        · (try simp only [cmpI, errD_nil, Bool.not_eq_true', Bool.not_eq_false', decide_eq_true_eq, decide_eq_false_iff_not] at hc12); have ht15 := hc12
          refine awp_seq ?_
          refine awp_region rfl ?_
          refine sP (opp_mv (v := .err _) rfl rfl) rfl rfl ?_
          refine sP (opp_loadF rfl (ev_glob hG15) ty42) rfl rfl ?_
          refine sR (opr_call rfl rfl ent58 rfl (c58 c 15 (hall _ (by omega) h20) (hall _ (by omega) (by omega))) (AViews.refl _ rfl)) rfl rfl rfl ?_ -- d=22 t=4
          refine sP (opp_as (v := .bool _) rfl rfl) rfl rfl ?_
          refine awp_cond _ rfl (fun hc15 => ?_) (fun hc15 => ?_)
          · (try simp only [cmpI, errD_nil, Bool.not_eq_true', Bool.not_eq_false', decide_eq_true_eq, decide_eq_false_iff_not] at hc15); have ht19 := hc15
            refine awp_seq ?_
            refine awp_region rfl ?_
            refine sP (opp_as (v := .int _ _) rfl rfl) rfl rfl ?_
            refine awp_ret ?_
            repeat (first | refine athen_ret ?_ | refine ain_ret ?_)
            first
              | refine apost_ret (aend1 (r0 := .int _ _) (.tmp .nil) (.noN rfl rfl) ⟨Wk.v ?_, rfl, rfl⟩)
              | refine apost_ret (aend1s (r0 := .int _ _) (.tmp .nil) shut rfl ⟨Wk.v ?_, rfl, rfl⟩)
            have hk : c = 15 := by omega
            subst hk; exact .refl
          · (try simp only [cmpI, errD_nil, Bool.not_eq_true', Bool.not_eq_false', decide_eq_true_eq, decide_eq_false_iff_not] at hc15); have ht19 := hc15
            refine awp_seq ?_
            refine awp_region rfl ?_
            refine sP (opp_mv (v := .err _) rfl rfl) rfl rfl ?_
            refine sP (opp_loadF rfl (ev_glob hG16) ty42) rfl rfl ?_
            refine sR (opr_call rfl rfl ent58 rfl (c58 c 16 (hall _ (by omega) h20) (hall _ (by omega) (by omega))) (AViews.refl _ rfl)) rfl rfl rfl ?_ -- d=26 t=4
            refine sP (opp_as (v := .bool _) rfl rfl) rfl rfl ?_
            refine awp_cond _ rfl (fun hc18 => ?_) (fun hc18 => ?_)
            · (try simp only [cmpI, errD_nil, Bool.not_eq_true', Bool.not_eq_false', decide_eq_true_eq, decide_eq_false_iff_not] at hc18); have ht23 := hc18
              refine awp_seq ?_
              refine awp_region rfl ?_
              refine sP (opp_as (v := .int _ _) rfl rfl) rfl rfl ?_
              refine awp_ret ?_
              repeat (first | refine athen_ret ?_ | refine ain_ret ?_)
              first
                | refine apost_ret (aend1 (r0 := .int _ _) (.tmp .nil) (.noN rfl rfl) ⟨Wk.v ?_, rfl, rfl⟩)
                | refine apost_ret (aend1s (r0 := .int _ _) (.tmp .nil) shut rfl ⟨Wk.v ?_, rfl, rfl⟩)
              have hk : c = 16 := by omega
              subst hk; exact .refl
            · (try simp only [cmpI, errD_nil, Bool.not_eq_true', Bool.not_eq_false', decide_eq_true_eq, decide_eq_false_iff_not] at hc18); have ht23 := hc18
              refine awp_seq ?_
              refine awp_region rfl ?_
              refine sP (opp_mv (v := .err _) rfl rfl) rfl rfl ?_
              refine sP (opp_loadF rfl (ev_glob hG17) ty42) rfl rfl ?_
              refine sR (opr_call rfl rfl ent58 rfl (c58 c 17 (hall _ (by omega) h20) (hall _ (by omega) (by omega))) (AViews.refl _ rfl)) rfl rfl rfl ?_ -- d=30 t=4
              refine sP (opp_as (v := .bool _) rfl rfl) rfl rfl ?_
              refine awp_cond _ rfl (fun hc21 => ?_) (fun hc21 => ?_)
              · (try simp only [cmpI, errD_nil, Bool.not_eq_true', Bool.not_eq_false', decide_eq_true_eq, decide_eq_false_iff_not] at hc21); have ht27 := hc21
                refine awp_seq ?_
                refine awp_region rfl ?_
                refine sP (opp_as (v := .int _ _) rfl rfl) rfl rfl ?_
                refine awp_ret ?_
                repeat (first | refine athen_ret ?_ | refine ain_ret ?_)
                first
                  | refine apost_ret (aend1 (r0 := .int _ _) (.tmp .nil) (.noN rfl rfl) ⟨Wk.v ?_, rfl, rfl⟩)
                  | refine apost_ret (aend1s (r0 := .int _ _) (.tmp .nil) shut rfl ⟨Wk.v ?_, rfl, rfl⟩)
                have hk : c = 17 := by omega
                subst hk; exact .refl
              · (try simp only [cmpI, errD_nil, Bool.not_eq_true', Bool.not_eq_false', decide_eq_true_eq, decide_eq_false_iff_not] at hc21); have ht27 := hc21
                refine awp_seq ?_
                refine awp_region rfl ?_
                refine sP (opp_mv (v := .err _) rfl rfl) rfl rfl ?_
                refine sP (opp_loadF rfl (ev_glob hG18) ty42) rfl rfl ?_
                refine sR (opr_call rfl rfl ent58 rfl (c58 c 18 (hall _ (by omega) h20) (hall _ (by omega) (by omega))) (AViews.refl _ rfl)) rfl rfl rfl ?_ -- d=34 t=4
                refine sP (opp_as (v := .bool _) rfl rfl) rfl rfl ?_
                refine awp_cond _ rfl (fun hc24 => ?_) (fun hc24 => ?_)
                · (try simp only [cmpI, errD_nil, Bool.not_eq_true', Bool.not_eq_false', decide_eq_true_eq, decide_eq_false_iff_not] at hc24); have ht31 := hc24
                  refine awp_seq ?_
                  refine awp_region rfl ?_
                  refine sP (opp_as (v := .int _ _) rfl rfl) rfl rfl ?_
                  refine awp_ret ?_
                  repeat (first | refine athen_ret ?_ | refine ain_ret ?_)
                  first
                    | refine apost_ret (aend1 (r0 := .int _ _) (.tmp .nil) (.noN rfl rfl) ⟨Wk.v ?_, rfl, rfl⟩)
                    | refine apost_ret (aend1s (r0 := .int _ _) (.tmp .nil) shut rfl ⟨Wk.v ?_, rfl, rfl⟩)
                  have hk : c = 18 := by omega
                  subst hk; exact .refl
                · (try simp only [cmpI, errD_nil, Bool.not_eq_true', Bool.not_eq_false', decide_eq_true_eq, decide_eq_false_iff_not] at hc24); have ht31 := hc24
                  refine awp_seq ?_
                  refine awp_region rfl ?_
                  refine sP (opp_mv (v := .err _) rfl rfl) rfl rfl ?_
                  refine sP (opp_loadF rfl (ev_glob hG19) ty42) rfl rfl ?_
                  refine sR (opr_call rfl rfl ent58 rfl (c58 c 19 (hall _ (by omega) h20) (hall _ (by omega) (by omega))) (AViews.refl _ rfl)) rfl rfl rfl ?_ -- d=38 t=4
                  refine sP (opp_as (v := .bool _) rfl rfl) rfl rfl ?_
                  refine awp_cond _ rfl (fun hc27 => ?_) (fun hc27 => ?_)
                  · (try simp only [cmpI, errD_nil, Bool.not_eq_true', Bool.not_eq_false', decide_eq_true_eq, decide_eq_false_iff_not] at hc27); have ht35 := hc27
                    refine awp_seq ?_
                    refine awp_region rfl ?_
                    refine sP (opp_as (v := .int _ _) rfl rfl) rfl rfl ?_
                    refine awp_ret ?_
                    repeat (first | refine athen_ret ?_ | refine ain_ret ?_)
                    first
                      | refine apost_ret (aend1 (r0 := .int _ _) (.tmp .nil) (.noN rfl rfl) ⟨Wk.v ?_, rfl, rfl⟩)
                      | refine apost_ret (aend1s (r0 := .int _ _) (.tmp .nil) shut rfl ⟨Wk.v ?_, rfl, rfl⟩)
                    have hk : c = 19 := by omega
                    subst hk; exact .refl
                  · (try simp only [cmpI, errD_nil, Bool.not_eq_true', Bool.not_eq_false', decide_eq_true_eq, decide_eq_false_iff_not] at hc27); have ht35 := hc27
                    refine awp_seq ?_
                    refine awp_region rfl ?_
                    refine sP (opp_mv (v := .err _) rfl rfl) rfl rfl ?_
                    refine sP (opp_loadF rfl (ev_glob hG20) ty42) rfl rfl ?_
                    refine sR (opr_call rfl rfl ent58 rfl (c58 c 20 (hall _ (by omega) h20) (hall _ (by omega) (by omega))) (AViews.refl _ rfl)) rfl rfl rfl ?_ -- d=42 t=4
                    refine sP (opp_as (v := .bool _) rfl rfl) rfl rfl ?_
                    refine awp_cond _ rfl (fun hc30 => ?_) (fun hc30 => ?_)
                    · (try simp only [cmpI, errD_nil, Bool.not_eq_true', Bool.not_eq_false', decide_eq_true_eq, decide_eq_false_iff_not] at hc30); have ht39 := hc30
                      refine awp_seq ?_
                      refine awp_region rfl ?_
                      refine sP (opp_as (v := .int _ _) rfl rfl) rfl rfl ?_
                      refine awp_ret ?_
                      repeat (first | refine athen_ret ?_ | refine ain_ret ?_)
                      first
                        | refine apost_ret (aend1 (r0 := .int _ _) (.tmp .nil) (.noN rfl rfl) ⟨Wk.v ?_, rfl, rfl⟩)
                        | refine apost_ret (aend1s (r0 := .int _ _) (.tmp .nil) shut rfl ⟨Wk.v ?_, rfl, rfl⟩)
                      have hk : c = 20 := by omega
                      subst hk; exact .refl
                    · (try simp only [cmpI, errD_nil, Bool.not_eq_true', Bool.not_eq_false', decide_eq_true_eq, decide_eq_false_iff_not] at hc30); have ht39 := hc30
                      refine awp_skip ?_
                      refine awp_seq ?_
                      refine awp_region rfl ?_
                      refine sP (opp_as (v := .int _ _) rfl rfl) rfl rfl ?_
                      refine awp_ret ?_
                      repeat (first | refine athen_ret ?_ | refine ain_ret ?_)
                      first
                        | refine apost_ret (aend1 (r0 := .int _ _) (.tmp .nil) (.noN rfl rfl) ⟨Wk.v ?_, rfl, rfl⟩)
                        | refine apost_ret (aend1s (r0 := .int _ _) (.tmp .nil) shut rfl ⟨Wk.v ?_, rfl, rfl⟩)
                      exfalso; omega
theorem c33 (c : Nat) (h1 : 1 ≤ c) (h20 : c ≤ 20) (hS : Sents cds gl) : APure (V ea cds gl) 33 [.err (.code c)] false (.int .i64 c) := by
  have hS0 := hS
  obtain ⟨hG3, hG8, hG9, hG10, hG4, hG11, hG7, hG12, hG0, hG1, hG6, hG5, hG14, hG2, hG15, hG16, hG17, hG18, hG19, hG20, hT, hall⟩ := hS
  refine acalls_of_body (N := 48) Tryz.func33 rfl rfl (Nat.le_of_ble_eq_true rfl) fun C hV hN hM hO => ?_
  obtain ⟨_, _, w0, G0, σ0, _, own0⟩ := C; dsimp only at hV hN hM hO; subst hV; subst hN; subst hM
  refine awp_seq ?_
  refine awp_region rfl ?_
  refine sP (opp_as (v := .int _ _) rfl rfl) rfl rfl ?_
  refine awp_seq ?_
  refine awp_block ?_
  refine awp_seq ?_
  refine awp_region rfl ?_
  refine sP (opp_mv (v := .err _) rfl rfl) rfl rfl ?_
  refine sP (opp_errNil rfl rfl rfl un42 (.inl ⟨rfl, rfl⟩)) rfl rfl ?_
  refine sP (opp_as (v := .bool _) rfl rfl) rfl rfl ?_
  refine awp_cond _ rfl (fun hc3 => ?_) (fun hc3 => ?_)
  · (try simp only [cmpI, errD_nil, Bool.not_eq_true', Bool.not_eq_false', decide_eq_true_eq, decide_eq_false_iff_not] at hc3); have ht3 := hc3
    cases ht3
  · (try simp only [cmpI, errD_nil, Bool.not_eq_true', Bool.not_eq_false', decide_eq_true_eq, decide_eq_false_iff_not] at hc3); have ht3 := hc3
    refine awp_seq ?_
    refine awp_region rfl ?_
    refine sP (opp_mv (v := .err _) rfl rfl) rfl rfl ?_
    refine sP (opp_loadF rfl (ev_glob hG3) ty42) rfl rfl ?_
    refine sR (opr_call rfl rfl ent58 rfl (c58 c 1 (hall _ (by omega) h20) (hall _ (by omega) (by omega))) (AViews.refl _ rfl)) rfl rfl rfl ?_ -- d=9 t=4
    refine sP (opp_as (v := .bool _) rfl rfl) rfl rfl ?_
    refine awp_cond _ rfl (fun hc5 => ?_) (fun hc5 => ?_)
    · (try simp only [cmpI, errD_nil, Bool.not_eq_true', Bool.not_eq_false', decide_eq_true_eq, decide_eq_false_iff_not] at hc5); have ht6 := hc5
      refine awp_seq ?_
      refine awp_region rfl ?_
      refine sP (opp_as (v := .int _ _) rfl rfl) rfl rfl ?_
      refine awp_ret ?_
      repeat (first | refine athen_ret ?_ | refine ain_ret ?_)
      first
        | refine apost_ret (aend1 (r0 := .int _ _) (.tmp .nil) (.noN rfl rfl) ⟨Wk.v ?_, rfl, rfl⟩)
        | refine apost_ret (aend1s (r0 := .int _ _) (.tmp .nil) shut rfl ⟨Wk.v ?_, rfl, rfl⟩)
      have hk : c = 1 := by omega
      subst hk; exact .refl
    · (try simp only [cmpI, errD_nil, Bool.not_eq_true', Bool.not_eq_false', decide_eq_true_eq, decide_eq_false_iff_not] at hc5); have ht6 := hc5
      refine awp_seq ?_
      refine awp_region rfl ?_
      refine sP (opp_mv (v := .err _) rfl rfl) rfl rfl ?_
      refine sP (opp_loadF rfl (ev_glob hG8) ty42) rfl rfl ?_
      refine sR (opr_call rfl rfl ent58 rfl (c58 c 2 (hall _ (by omega) h20) (hall _ (by omega) (by omega))) (AViews.refl _ rfl)) rfl rfl rfl ?_ -- d=13 t=4
      refine sP (opp_as (v := .bool _) rfl rfl) rfl rfl ?_
      refine awp_cond _ rfl (fun hc8 => ?_) (fun hc8 => ?_)
      · (try simp only [cmpI, errD_nil, Bool.not_eq_true', Bool.not_eq_false', decide_eq_true_eq, decide_eq_false_iff_not] at hc8); have ht10 := hc8
        refine awp_seq ?_
        refine awp_region rfl ?_
        refine sP (opp_as (v := .int _ _) rfl rfl) rfl rfl ?_
        refine awp_ret ?_
        repeat (first | refine athen_ret ?_ | refine ain_ret ?_)
        first
          | refine apost_ret (aend1 (r0 := .int _ _) (.tmp .nil) (.noN rfl rfl) ⟨Wk.v ?_, rfl, rfl⟩)
          | refine apost_ret (aend1s (r0 := .int _ _) (.tmp .nil) shut rfl ⟨Wk.v ?_, rfl, rfl⟩)
        have hk : c = 2 := by omega
        subst hk; exact .refl
      · (try simp only [cmpI, errD_nil, Bool.not_eq_true', Bool.not_eq_false', decide_eq_true_eq, decide_eq_false_iff_not] at hc8); have ht10 := hc8
        refine awp_seq ?_
        refine awp_region rfl ?_
        refine sP (opp_mv (v := .err _) rfl rfl) rfl rfl ?_
        refine sP (opp_loadF rfl (ev_glob hG9) ty42) rfl rfl ?_
        refine sR (opr_call rfl rfl ent58 rfl (c58 c 3 (hall _ (by omega) h20) (hall _ (by omega) (by omega))) (AViews.refl _ rfl)) rfl rfl rfl ?_ -- d=17 t=4
        refine sP (opp_as (v := .bool _) rfl rfl) rfl rfl ?_
        refine awp_cond _ rfl (fun hc11 => ?_) (fun hc11 => ?_)
        · (try simp only [cmpI, errD_nil, Bool.not_eq_true', Bool.not_eq_false', decide_eq_true_eq, decide_eq_false_iff_not] at hc11); have ht14 := hc11
          refine awp_seq ?_
          refine awp_region rfl ?_
          refine sP (opp_as (v := .int _ _) rfl rfl) rfl rfl ?_
          refine awp_ret ?_
          repeat (first | refine athen_ret ?_ | refine ain_ret ?_)
          first
            | refine apost_ret (aend1 (r0 := .int _ _) (.tmp .nil) (.noN rfl rfl) ⟨Wk.v ?_, rfl, rfl⟩)
            | refine apost_ret (aend1s (r0 := .int _ _) (.tmp .nil) shut rfl ⟨Wk.v ?_, rfl, rfl⟩)
          have hk : c = 3 := by omega
          subst hk; exact .refl
        · (try simp only [cmpI, errD_nil, Bool.not_eq_true', Bool.not_eq_false', decide_eq_true_eq, decide_eq_false_iff_not] at hc11); have ht14 := hc11
          refine awp_seq ?_
          refine awp_region rfl ?_
          refine sP (opp_mv (v := .err _) rfl rfl) rfl rfl ?_
          refine sP (opp_loadF rfl (ev_glob hG10) ty42) rfl rfl ?_
          refine sR (opr_call rfl rfl ent58 rfl (c58 c 4 (hall _ (by omega) h20) (hall _ (by omega) (by omega))) (AViews.refl _ rfl)) rfl rfl rfl ?_ -- d=21 t=4
          refine sP (opp_as (v := .bool _) rfl rfl) rfl rfl ?_
          refine awp_cond _ rfl (fun hc14 => ?_) (fun hc14 => ?_)
          · (try simp only [cmpI, errD_nil, Bool.not_eq_true', Bool.not_eq_false', decide_eq_true_eq, decide_eq_false_iff_not] at hc14); have ht18 := hc14
            refine awp_seq ?_
            refine awp_region rfl ?_
            refine sP (opp_as (v := .int _ _) rfl rfl) rfl rfl ?_
            refine awp_ret ?_
            repeat (first | refine athen_ret ?_ | refine ain_ret ?_)
            first
              | refine apost_ret (aend1 (r0 := .int _ _) (.tmp .nil) (.noN rfl rfl) ⟨Wk.v ?_, rfl, rfl⟩)
              | refine apost_ret (aend1s (r0 := .int _ _) (.tmp .nil) shut rfl ⟨Wk.v ?_, rfl, rfl⟩)
            have hk : c = 4 := by omega
            subst hk; exact .refl
          · (try simp only [cmpI, errD_nil, Bool.not_eq_true', Bool.not_eq_false', decide_eq_true_eq, decide_eq_false_iff_not] at hc14); have ht18 := hc14
            refine awp_seq ?_
            refine awp_region rfl ?_
            refine sP (opp_mv (v := .err _) rfl rfl) rfl rfl ?_
            refine sP (opp_loadF rfl (ev_glob hG4) ty42) rfl rfl ?_
            refine sR (opr_call rfl rfl ent58 rfl (c58 c 5 (hall _ (by omega) h20) (hall _ (by omega) (by omega))) (AViews.refl _ rfl)) rfl rfl rfl ?_ -- d=25 t=4
            refine sP (opp_as (v := .bool _) rfl rfl) rfl rfl ?_
            refine awp_cond _ rfl (fun hc17 => ?_) (fun hc17 => ?_)
            · (try simp only [cmpI, errD_nil, Bool.not_eq_true', Bool.not_eq_false', decide_eq_true_eq, decide_eq_false_iff_not] at hc17); have ht22 := hc17
              refine awp_seq ?_
              refine awp_region rfl ?_
              refine sP (opp_as (v := .int _ _) rfl rfl) rfl rfl ?_
              refine awp_ret ?_
              repeat (first | refine athen_ret ?_ | refine ain_ret ?_)
              first
                | refine apost_ret (aend1 (r0 := .int _ _) (.tmp .nil) (.noN rfl rfl) ⟨Wk.v ?_, rfl, rfl⟩)
                | refine apost_ret (aend1s (r0 := .int _ _) (.tmp .nil) shut rfl ⟨Wk.v ?_, rfl, rfl⟩)
              have hk : c = 5 := by omega
              subst hk; exact .refl
            · (try simp only [cmpI, errD_nil, Bool.not_eq_true', Bool.not_eq_false', decide_eq_true_eq, decide_eq_false_iff_not] at hc17); have ht22 := hc17
              refine awp_seq ?_
              refine awp_region rfl ?_
              refine sP (opp_mv (v := .err _) rfl rfl) rfl rfl ?_
              refine sP (opp_loadF rfl (ev_glob hG11) ty42) rfl rfl ?_
              refine sR (opr_call rfl rfl ent58 rfl (c58 c 6 (hall _ (by omega) h20) (hall _ (by omega) (by omega))) (AViews.refl _ rfl)) rfl rfl rfl ?_ -- d=29 t=4
              refine sP (opp_as (v := .bool _) rfl rfl) rfl rfl ?_
              refine awp_cond _ rfl (fun hc20 => ?_) (fun hc20 => ?_)
              · (try simp only [cmpI, errD_nil, Bool.not_eq_true', Bool.not_eq_false', decide_eq_true_eq, decide_eq_false_iff_not] at hc20); have ht26 := hc20
                refine awp_seq ?_
                refine awp_region rfl ?_
                refine sP (opp_as (v := .int _ _) rfl rfl) rfl rfl ?_
                refine awp_ret ?_
                repeat (first | refine athen_ret ?_ | refine ain_ret ?_)
                first
                  | refine apost_ret (aend1 (r0 := .int _ _) (.tmp .nil) (.noN rfl rfl) ⟨Wk.v ?_, rfl, rfl⟩)
                  | refine apost_ret (aend1s (r0 := .int _ _) (.tmp .nil) shut rfl ⟨Wk.v ?_, rfl, rfl⟩)
                have hk : c = 6 := by omega
                subst hk; exact .refl
              · (try simp only [cmpI, errD_nil, Bool.not_eq_true', Bool.not_eq_false', decide_eq_true_eq, decide_eq_false_iff_not] at hc20); have ht26 := hc20
                refine awp_seq ?_
                refine awp_region rfl ?_
                refine sP (opp_mv (v := .err _) rfl rfl) rfl rfl ?_
                refine sP (opp_loadF rfl (ev_glob hG7) ty42) rfl rfl ?_
                refine sR (opr_call rfl rfl ent58 rfl (c58 c 7 (hall _ (by omega) h20) (hall _ (by omega) (by omega))) (AViews.refl _ rfl)) rfl rfl rfl ?_ -- d=33 t=4
                refine sP (opp_as (v := .bool _) rfl rfl) rfl rfl ?_
                refine awp_cond _ rfl (fun hc23 => ?_) (fun hc23 => ?_)
                · (try simp only [cmpI, errD_nil, Bool.not_eq_true', Bool.not_eq_false', decide_eq_true_eq, decide_eq_false_iff_not] at hc23); have ht30 := hc23
                  refine awp_seq ?_
                  refine awp_region rfl ?_
                  refine sP (opp_as (v := .int _ _) rfl rfl) rfl rfl ?_
                  refine awp_ret ?_
                  repeat (first | refine athen_ret ?_ | refine ain_ret ?_)
                  first
                    | refine apost_ret (aend1 (r0 := .int _ _) (.tmp .nil) (.noN rfl rfl) ⟨Wk.v ?_, rfl, rfl⟩)
                    | refine apost_ret (aend1s (r0 := .int _ _) (.tmp .nil) shut rfl ⟨Wk.v ?_, rfl, rfl⟩)
                  have hk : c = 7 := by omega
                  subst hk; exact .refl
                · (try simp only [cmpI, errD_nil, Bool.not_eq_true', Bool.not_eq_false', decide_eq_true_eq, decide_eq_false_iff_not] at hc23); have ht30 := hc23
                  refine awp_seq ?_
                  refine awp_region rfl ?_
                  refine sP (opp_mv (v := .err _) rfl rfl) rfl rfl ?_
                  refine sP (opp_loadF rfl (ev_glob hG12) ty42) rfl rfl ?_
                  refine sR (opr_call rfl rfl ent58 rfl (c58 c 8 (hall _ (by omega) h20) (hall _ (by omega) (by omega))) (AViews.refl _ rfl)) rfl rfl rfl ?_ -- d=37 t=4
                  refine sP (opp_as (v := .bool _) rfl rfl) rfl rfl ?_
                  refine awp_cond _ rfl (fun hc26 => ?_) (fun hc26 => ?_)
                  · (try simp only [cmpI, errD_nil, Bool.not_eq_true', Bool.not_eq_false', decide_eq_true_eq, decide_eq_false_iff_not] at hc26); have ht34 := hc26
                    refine awp_seq ?_
                    refine awp_region rfl ?_
                    refine sP (opp_as (v := .int _ _) rfl rfl) rfl rfl ?_
                    refine awp_ret ?_
                    repeat (first | refine athen_ret ?_ | refine ain_ret ?_)
                    first
                      | refine apost_ret (aend1 (r0 := .int _ _) (.tmp .nil) (.noN rfl rfl) ⟨Wk.v ?_, rfl, rfl⟩)
                      | refine apost_ret (aend1s (r0 := .int _ _) (.tmp .nil) shut rfl ⟨Wk.v ?_, rfl, rfl⟩)
                    have hk : c = 8 := by omega
                    subst hk; exact .refl
                  · (try simp only [cmpI, errD_nil, Bool.not_eq_true', Bool.not_eq_false', decide_eq_true_eq, decide_eq_false_iff_not] at hc26); have ht34 := hc26
                    refine awp_seq ?_
                    refine awp_region rfl ?_
                    refine sP (opp_mv (v := .err _) rfl rfl) rfl rfl ?_
                    refine sP (opp_loadF rfl (ev_glob hG0) ty42) rfl rfl ?_
                    refine sR (opr_call rfl rfl ent58 rfl (c58 c 9 (hall _ (by omega) h20) (hall _ (by omega) (by omega))) (AViews.refl _ rfl)) rfl rfl rfl ?_ -- d=41 t=4
                    refine sP (opp_as (v := .bool _) rfl rfl) rfl rfl ?_
                    refine awp_cond _ rfl (fun hc29 => ?_) (fun hc29 => ?_)
                    · (try simp only [cmpI, errD_nil, Bool.not_eq_true', Bool.not_eq_false', decide_eq_true_eq, decide_eq_false_iff_not] at hc29); have ht38 := hc29
                      refine awp_seq ?_
                      refine awp_region rfl ?_
                      refine sP (opp_as (v := .int _ _) rfl rfl) rfl rfl ?_
                      refine awp_ret ?_
                      repeat (first | refine athen_ret ?_ | refine ain_ret ?_)
                      first
                        | refine apost_ret (aend1 (r0 := .int _ _) (.tmp .nil) (.noN rfl rfl) ⟨Wk.v ?_, rfl, rfl⟩)
                        | refine apost_ret (aend1s (r0 := .int _ _) (.tmp .nil) shut rfl ⟨Wk.v ?_, rfl, rfl⟩)
                      have hk : c = 9 := by omega
                      subst hk; exact .refl
                    · (try simp only [cmpI, errD_nil, Bool.not_eq_true', Bool.not_eq_false', decide_eq_true_eq, decide_eq_false_iff_not] at hc29); have ht38 := hc29
                      refine awp_seq ?_
                      refine awp_region rfl ?_
                      refine sP (opp_mv (v := .err _) rfl rfl) rfl rfl ?_
                      refine sP (opp_loadF rfl (ev_glob hG1) ty42) rfl rfl ?_
                      refine sR (opr_call rfl rfl ent58 rfl (c58 c 10 (hall _ (by omega) h20) (hall _ (by omega) (by omega))) (AViews.refl _ rfl)) rfl rfl rfl ?_ -- d=45 t=4
                      refine sP (opp_as (v := .bool _) rfl rfl) rfl rfl ?_
                      refine awp_cond _ rfl (fun hc32 => ?_) (fun hc32 => ?_)
                      · (try simp only [cmpI, errD_nil, Bool.not_eq_true', Bool.not_eq_false', decide_eq_true_eq, decide_eq_false_iff_not] at hc32); have ht42 := hc32
                        refine awp_seq ?_
                        refine awp_region rfl ?_
                        refine sP (opp_as (v := .int _ _) rfl rfl) rfl rfl ?_
                        refine awp_ret ?_
                        repeat (first | refine athen_ret ?_ | refine ain_ret ?_)
                        first
                          | refine apost_ret (aend1 (r0 := .int _ _) (.tmp .nil) (.noN rfl rfl) ⟨Wk.v ?_, rfl, rfl⟩)
                          | refine apost_ret (aend1s (r0 := .int _ _) (.tmp .nil) shut rfl ⟨Wk.v ?_, rfl, rfl⟩)
                        have hk : c = 10 := by omega
                        subst hk; exact .refl
                      · (try simp only [cmpI, errD_nil, Bool.not_eq_true', Bool.not_eq_false', decide_eq_true_eq, decide_eq_false_iff_not] at hc32); have ht42 := hc32
                        refine awp_skip ?_
                        refine awp_seq ?_
                        refine awp_region rfl ?_
                        refine sP (opp_mv (v := .err _) rfl rfl) rfl rfl ?_
                        refine sR (opr_call rfl rfl ent59 rfl (c59 c (by omega) h20 hS0) (AViews.refl _ rfl)) rfl rfl rfl ?_ -- d=47 t=3
                        refine sP (opp_as (v := .int _ _) rfl rfl) rfl rfl ?_
                        refine awp_ret ?_
                        repeat (first | refine athen_ret ?_ | refine ain_ret ?_)
                        first
                          | refine apost_ret (aend1 (r0 := .int _ _) (.tmp .nil) (.noN rfl rfl) ⟨Wk.v ?_, rfl, rfl⟩)
                          | refine apost_ret (aend1s (r0 := .int _ _) (.tmp .nil) shut rfl ⟨Wk.v ?_, rfl, rfl⟩)
                        exact .refl
theorem cn33 (hS : Sents cds gl) : APure (V ea cds gl) 33 [.err .nil] false (.int .i64 0) := by
  have hS0 := hS
  obtain ⟨hG3, hG8, hG9, hG10, hG4, hG11, hG7, hG12, hG0, hG1, hG6, hG5, hG14, hG2, hG15, hG16, hG17, hG18, hG19, hG20, hT, hall⟩ := hS
  refine acalls_of_body (N := 48) Tryz.func33 rfl rfl (Nat.le_of_ble_eq_true rfl) fun C hV hN hM hO => ?_
  obtain ⟨_, _, w0, G0, σ0, _, own0⟩ := C; dsimp only at hV hN hM hO; subst hV; subst hN; subst hM
  refine awp_seq ?_
  refine awp_region rfl ?_
  refine sP (opp_as (v := .int _ _) rfl rfl) rfl rfl ?_
  refine awp_seq ?_
  refine awp_block ?_
  refine awp_seq ?_
  refine awp_region rfl ?_
  refine sP (opp_mv (v := .err _) rfl rfl) rfl rfl ?_
  refine sP (opp_errNil rfl rfl rfl un42 (.inl ⟨rfl, rfl⟩)) rfl rfl ?_
  refine sP (opp_as (v := .bool _) rfl rfl) rfl rfl ?_
  refine awp_cond _ rfl (fun hc3 => ?_) (fun hc3 => ?_)
  · (try simp only [cmpI, errD_nil, Bool.not_eq_true', Bool.not_eq_false', decide_eq_true_eq, decide_eq_false_iff_not] at hc3); have ht3 := hc3
    refine awp_seq ?_
    refine awp_region rfl ?_
    refine sP (opp_as (v := .int _ _) rfl rfl) rfl rfl ?_
    refine awp_ret ?_
    repeat (first | refine athen_ret ?_ | refine ain_ret ?_)
    first
      | refine apost_ret (aend1 (r0 := .int _ _) (.tmp .nil) (.noN rfl rfl) ⟨Wk.v ?_, rfl, rfl⟩)
      | refine apost_ret (aend1s (r0 := .int _ _) (.tmp .nil) shut rfl ⟨Wk.v ?_, rfl, rfl⟩)
    exact .refl
  · (try simp only [cmpI, errD_nil, Bool.not_eq_true', Bool.not_eq_false', decide_eq_true_eq, decide_eq_false_iff_not] at hc3); have ht3 := hc3
    exfalso; simp [ErrD.isNil] at ht3
theorem ck33 (c : Nat) (hc : c ≤ 20) (hS : Sents cds gl) : APure (V ea cds gl) 33 [.err (errD c)] false (.int .i64 c) := by
  by_cases e : c = 0
  · subst e; exact cn33 hS
  · rw [show errD c = .code c from if_neg e]; exact c33 c (by omega) hc hS
end
end Go.Proofs.YtgaihhimkodmmaaGreatDoor
/- Go's library: strings.Join (the shelf's contract); layer 20: the whole image (walks over this dump). -/
namespace Go.Proofs.YtgaihhimkodmmaaGreatDoor
attribute [local irreducible] Tryz.prog
open Go.Fy Go.RowKit
set_option linter.unusedSimpArgs false
section
variable {ea : Nat → Addr} {cds : List Nat} {gl : Nat → Option AV}
theorem join_flat (l : List (List UInt8)) : Lib.join l [] = l.flatten := by
  cases l with
  | nil => rfl
  | cons a l => rw [Lib.join_cons]; simp [Lib.joinTail]
theorem c35 (b : Bool) (l : List (List UInt8)) (h1 : l.length ≤ 140737488355328) (h2 : l.flatten.length ≤ 140737488355328) : APure (V ea cds gl) 35 [.sl 1 b l.length (strAt l), .str []] false (.str l.flatten) := by
  refine apure_of_calls fun E vals hV hE hG hv => ?_
  obtain ⟨vl⟩ := vals
  simp only [RelT, RelV, Rel] at hv
  obtain ⟨c1, d1, rfl, ⟨a, cap, e1, hle, hnn, hnone, hel⟩, c2, d2, rfl, e2, rfl⟩ := hv
  simp only [List.cons.injEq, and_true] at e1 e2
  subst e1; subst e2
  by_cases hl : l.length = 0
  · have hl0 : l = [] := List.eq_nil_of_length_eq_zero hl
    subst hl0
    refine (Go.Proofs.Tryz.strings_Join_none a cap ⟨#[]⟩ E.w).mono fun e w' ⟨he, hw⟩ => ⟨_, he, fun E' => ?_, by rw [hw]; exact Below.refl _ _⟩
    simp only [RelV, Rel]; rfl
  · cases a with
    | none => exact absurd (hnone rfl).1 hl
    | some ad =>
      obtain ⟨hsp, hgd, hds⟩ := hel ad rfl
      have hsp := hsp (by omega)
      obtain ⟨ab, ao, asp⟩ := ad
      dsimp only at hsp hgd
      subst hsp
      have hm : (l.map fun s => (⟨s.toArray⟩ : ByteArray)).map (·.data.toList) = l := by rw [List.map_map]; exact List.map_id'' (fun _ => rfl) l
      have hJ := Go.Proofs.Tryz.strings_Join ab ao cap (l.map fun s => ⟨s.toArray⟩) ⟨#[]⟩ E.w (fun j x hx => ?_) (hG _ (hgd (by omega))) (by simpa using h1) (by simpa using hle) (by rw [hm]; show (Lib.join l []).length ≤ _; rw [join_flat]; exact h2)
      · rw [hm] at hJ
        simp only [List.length_map] at hJ
        refine hJ.mono fun e w' ⟨he, hw⟩ => ⟨_, he, fun E' => ?_, hw⟩
        simp only [RelV, Rel]
        show [Value.string ⟨(Lib.join l []).toArray⟩] = _
        rw [join_flat]
      · simp only [List.getElem?_map, Option.map_eq_some_iff] at hx
        obtain ⟨s, hs, rfl⟩ := hx
        have hj : j < l.length := (List.getElem?_eq_some_iff.1 hs).1
        obtain ⟨ds, h3, h4, h5⟩ := hds j hj
        simp only [strAt, Rel] at h5
        subst h5
        have := h4 0 _ rfl
        simp only [List.getD_eq_getElem?_getD, hs, Option.getD_some, Nat.mul_one, Nat.add_zero] at this
        exact this
theorem c17 (b : Bool) (s : Stage) (hG0 : gl 0 = some (.err (.code 9))) : APure (V ea cds gl) 17 [stageAV b s] false
    (.tup [.sl 1 (!(Sp.whole s).2.1) (Sp.whole s).1.length (bAt (Sp.whole s).1), .bool (Sp.whole s).2.1, .err (errD (Sp.whole s).2.2)]) := by
  refine acalls_of_body (N := 16) Tryz.func17 rfl rfl (Nat.le_of_ble_eq_true rfl) fun C hV hN hM hO => ?_
  obtain ⟨_, _, w0, G0, σ0, _, own0⟩ := C; dsimp only at hV hN hM hO; subst hV; subst hN; subst hM
  refine awp_seq ?_
  refine awp_region rfl ?_
  refine sR (opr_box (y := .agg _) (n := 1) rfl rfl rfl) rfl rfl rfl ?_
  first
    | refine sP (opp_as (v := .sl _ _ _ _) rfl rfl) rfl rfl ?_
    | refine sP (opp_as (v := .osl _ _ _ _ _) rfl rfl) rfl rfl ?_
  refine sP (opp_as (v := .bool _) rfl rfl) rfl rfl ?_
  refine sP (opp_as (v := .err _) rfl rfl) rfl rfl ?_
  refine awp_seq ?_
  refine awp_seq ?_
  refine awp_region rfl ?_
  first
    | refine sP (opp_loadP rfl rfl rfl rfl bi rfl ty37) rfl rfl ?_
    | refine sP (opp_loadF rfl rfl ty37) rfl rfl ?_
  refine sR (opr_call rfl rfl ent20 rfl (c20 _ _) (AViews.refl _ rfl)) rfl rfl rfl ?_ -- d=6 t=4
  refine sP (opp_not rfl rfl) rfl rfl ?_
  refine awp_cond _ rfl (fun hc3 => ?_) (fun hc3 => ?_)
  · (try simp only [cmpI, errD_nil, Bool.not_eq_true', Bool.not_eq_false', decide_eq_true_eq, decide_eq_false_iff_not] at hc3); have ht7 := hc3
    refine awp_seq ?_
    refine awp_draw hmix rfl (by kernel_rfl) ?_
    refine dP (fun _ => false) (opp_loadF rfl (ev_glob hG0) ty42) rfl rfl ?_
    first
      | refine dP (fun _ => false) (opp_as (v := .sl _ _ _ _) rfl rfl) rfl rfl ?_
      | refine dP (fun _ => false) (opp_as (v := .osl _ _ _ _ _) rfl rfl) rfl rfl ?_
    refine dP (fun _ => false) (opp_as (v := .bool _) rfl rfl) rfl rfl ?_
    refine dP (fun _ => false) (opp_as (v := .err _) rfl rfl) rfl rfl ?_
    refine And.intro (by kernel_rfl) ?_
    refine awp_ret ?_
    repeat (first | refine athen_ret ?_ | refine ain_ret ?_)
    first
      | refine apost_ret (aend (l := [.sl _ _ _ _, .bool _, .err _]) (.tmp (.tmp (.tmp .nil))) (fun h => by cases h) (.cons (.noN rfl rfl) (.cons (.noN rfl rfl) (.cons (.noN rfl rfl) .nil))) ⟨Wk.v ?_, rfl, rfl⟩)
      | refine apost_ret (aends (l := [.sl _ _ _ _, .bool _, .err _]) (.tmp (.tmp (.tmp .nil))) (fun h => by cases h) (.cons shut (fun h => by cases h) (.cons shut (fun h => by cases h) (.cons shut (fun h => by cases h) .nil))) rfl ⟨Wk.v ?_, rfl, rfl⟩)
      | refine apost_ret (aend (l := [.osl _ _ _ _ _, .bool _, .err _]) (.tmp (.tmp (.tmp .nil))) (fun h => by cases h) (.cons (.noN rfl rfl) (.cons (.noN rfl rfl) (.cons (.noN rfl rfl) .nil))) ⟨Wk.v ?_, rfl, rfl⟩)
      | refine apost_ret (aends (l := [.osl _ _ _ _ _, .bool _, .err _]) (.tmp (.tmp (.tmp .nil))) (fun h => by cases h) (.cons shut (fun h => by cases h) (.cons shut (fun h => by cases h) (.cons shut (fun h => by cases h) .nil))) rfl ⟨Wk.v ?_, rfl, rfl⟩)
    rw [show Sp.whole s = ([], false, 9) by simp [Sp.whole, hc3]]; show Wk _ (.tup [.sl 1 true 0 _, .bool false, .err (.code 9)]); (repeat' (first | exact Wk.refl | exact Wk.sl0 | apply Wk.tup | apply Wk.agg | apply WkL.cons | exact WkL.nil | refine Wk.sl (fun _ _ => ?_)))
  · (try simp only [cmpI, errD_nil, Bool.not_eq_true', Bool.not_eq_false', decide_eq_true_eq, decide_eq_false_iff_not] at hc3); have ht7 := hc3
    refine awp_skip ?_
    refine awp_seq ?_
    refine awp_seq ?_
    have hgb := Sp.goodS_bounds hc3
    have hgf := Sp.goodS_flat hc3
    refine awp_region rfl ?_
    first
      | refine sP (opp_fieldP rfl rfl fld37_4 rfl) rfl rfl ?_
      | refine sP (opp_fieldF rfl rfl rfl fld37_4 rfl rfl) rfl rfl ?_
    first
      | refine sP (opp_loadP rfl rfl rfl rfl bi rfl ty24) rfl rfl ?_
      | refine sP (opp_loadF rfl rfl ty24) rfl rfl ?_
    refine sR (opr_call rfl rfl ent34 rfl (c34 _ _ _ _ (by omega)) (AViews.refl _ rfl)) rfl rfl rfl ?_ -- d=11 t=4
    refine awp_cond _ rfl (fun hc6 => ?_) (fun hc6 => ?_)
    · (try simp only [cmpI, errD_nil, Bool.not_eq_true', Bool.not_eq_false', decide_eq_true_eq, decide_eq_false_iff_not] at hc6); have ht11 := hc6
      refine awp_seq ?_
      refine awp_region rfl ?_
      first
        | refine sP (opp_as (v := .sl _ _ _ _) rfl rfl) rfl rfl ?_
        | refine sP (opp_as (v := .osl _ _ _ _ _) rfl rfl) rfl rfl ?_
      refine sP (opp_as (v := .bool _) rfl rfl) rfl rfl ?_
      refine sP (opp_as (v := .err _) rfl rfl) rfl rfl ?_
      refine awp_ret ?_
      repeat (first | refine athen_ret ?_ | refine ain_ret ?_)
      first
        | refine apost_ret (aend (l := [.sl _ _ _ _, .bool _, .err _]) (.tmp (.tmp (.tmp .nil))) (fun h => by cases h) (.cons (.noN rfl rfl) (.cons (.noN rfl rfl) (.cons (.noN rfl rfl) .nil))) ⟨Wk.v ?_, rfl, rfl⟩)
        | refine apost_ret (aends (l := [.sl _ _ _ _, .bool _, .err _]) (.tmp (.tmp (.tmp .nil))) (fun h => by cases h) (.cons shut (fun h => by cases h) (.cons shut (fun h => by cases h) (.cons shut (fun h => by cases h) .nil))) rfl ⟨Wk.v ?_, rfl, rfl⟩)
        | refine apost_ret (aend (l := [.osl _ _ _ _ _, .bool _, .err _]) (.tmp (.tmp (.tmp .nil))) (fun h => by cases h) (.cons (.noN rfl rfl) (.cons (.noN rfl rfl) (.cons (.noN rfl rfl) .nil))) ⟨Wk.v ?_, rfl, rfl⟩)
        | refine apost_ret (aends (l := [.osl _ _ _ _ _, .bool _, .err _]) (.tmp (.tmp (.tmp .nil))) (fun h => by cases h) (.cons shut (fun h => by cases h) (.cons shut (fun h => by cases h) (.cons shut (fun h => by cases h) .nil))) rfl ⟨Wk.v ?_, rfl, rfl⟩)
      have h : ((List.range s.pieces.length).any fun j => decide (s.pieces.getD j [] = [])) = true := by rw [← hc6]; congr 1; funext j; rw [decide_eq_decide]; exact eq_comm
      rw [show Sp.whole s = ([], false, 0) by simp only [Sp.whole, hc3, h]; rfl]; show Wk _ (.tup [.sl 1 true 0 _, .bool false, .err .nil]); (repeat' (first | exact Wk.refl | exact Wk.sl0 | apply Wk.tup | apply Wk.agg | apply WkL.cons | exact WkL.nil | refine Wk.sl (fun _ _ => ?_)))
    · (try simp only [cmpI, errD_nil, Bool.not_eq_true', Bool.not_eq_false', decide_eq_true_eq, decide_eq_false_iff_not] at hc6); have ht11 := hc6
      refine awp_skip ?_
      refine awp_seq ?_
      refine awp_region rfl ?_
      first
        | refine sP (opp_fieldP rfl rfl fld37_4 rfl) rfl rfl ?_
        | refine sP (opp_fieldF rfl rfl rfl fld37_4 rfl rfl) rfl rfl ?_
      first
        | refine sP (opp_loadP rfl rfl rfl rfl bi rfl ty24) rfl rfl ?_
        | refine sP (opp_loadF rfl rfl ty24) rfl rfl ?_
      refine sR (opr_call rfl rfl ent35 rfl (c35 _ s.pieces (by omega) (by omega)) (AViews.refl _ rfl)) rfl rfl rfl ?_ -- d=14 t=9
      refine sR (opr_strBytes (n := 15) rfl rfl un9 un36 unu8) rfl rfl rfl ?_
      first
        | refine sP (opp_as (v := .sl _ _ _ _) rfl rfl) rfl rfl ?_
        | refine sP (opp_as (v := .osl _ _ _ _ _) rfl rfl) rfl rfl ?_
      refine sP (opp_as (v := .bool _) rfl rfl) rfl rfl ?_
      refine sP (opp_as (v := .err _) rfl rfl) rfl rfl ?_
      refine awp_ret ?_
      repeat (first | refine athen_ret ?_ | refine ain_ret ?_)
      first
        | refine apost_ret (aend (l := [.sl _ _ _ _, .bool _, .err _]) (.tmp (.tmp (.tmp .nil))) (fun h => by cases h) (.cons (.noN rfl rfl) (.cons (.noN rfl rfl) (.cons (.noN rfl rfl) .nil))) ⟨Wk.v ?_, rfl, rfl⟩)
        | refine apost_ret (aends (l := [.sl _ _ _ _, .bool _, .err _]) (.tmp (.tmp (.tmp .nil))) (fun h => by cases h) (.cons shut (fun h => by cases h) (.cons shut (fun h => by cases h) (.cons shut (fun h => by cases h) .nil))) rfl ⟨Wk.v ?_, rfl, rfl⟩)
        | refine apost_ret (aend (l := [.osl _ _ _ _ _, .bool _, .err _]) (.tmp (.tmp (.tmp .nil))) (fun h => by cases h) (.cons (.noN rfl rfl) (.cons (.noN rfl rfl) (.cons (.noN rfl rfl) .nil))) ⟨Wk.v ?_, rfl, rfl⟩)
        | refine apost_ret (aends (l := [.osl _ _ _ _ _, .bool _, .err _]) (.tmp (.tmp (.tmp .nil))) (fun h => by cases h) (.cons shut (fun h => by cases h) (.cons shut (fun h => by cases h) (.cons shut (fun h => by cases h) .nil))) rfl ⟨Wk.v ?_, rfl, rfl⟩)
      have h : ((List.range s.pieces.length).any fun j => decide (s.pieces.getD j [] = [])) = false := by rw [← hc6]; congr 1; funext j; rw [decide_eq_decide]; exact eq_comm
      rw [show Sp.whole s = (s.pieces.flatten, true, 0) by simp only [Sp.whole, hc3, h]; rfl]; exact .refl
end
end Go.Proofs.YtgaihhimkodmmaaGreatDoor
/- Layer 22: an image on its way (walks over this dump). -/
namespace Go.Proofs.YtgaihhimkodmmaaGreatDoor
attribute [local irreducible] Tryz.prog
open Go.Fy
set_option linter.unusedSimpArgs false
section
variable {ea : Nat → Addr} {cds : List Nat} {gl : Nat → Option AV}
end
end Go.Proofs.YtgaihhimkodmmaaGreatDoor
/- Layer 22: what has come, whole; the law's fixed fact (walks over this dump). -/
namespace Go.Proofs.YtgaihhimkodmmaaGreatDoor
attribute [local irreducible] Tryz.prog
open Go.Fy
set_option linter.unusedSimpArgs false
section
variable {ea : Nat → Addr} {cds : List Nat} {gl : Nat → Option AV}
end
end Go.Proofs.YtgaihhimkodmmaaGreatDoor
/- The document's answers for layer 20: an image is cut; for layer 22: an image is started (walks over this dump). -/
namespace Go.Proofs.YtgaihhimkodmmaaGreatDoor
attribute [local irreducible] Tryz.prog
open Go.Fy
set_option linter.unusedSimpArgs false
set_option linter.unusedVariables false
section
variable {ea : Nat → Addr} {cds : List Nat} {gl : Nat → Option AV}
theorem c25 (a : Int) : APure (V ea cds gl) 25 [.int .i64 a] false (.bool (Sp.goodPart a)) := by
  refine acalls_of_body (N := 9) Tryz.func25 rfl rfl (Nat.le_of_ble_eq_true rfl) fun C hV hN hM hO => ?_
  obtain ⟨_, _, w0, G0, σ0, _, own0⟩ := C; dsimp only at hV hN hM hO; subst hV; subst hN; subst hM
  refine awp_seq ?_
  refine awp_region rfl ?_
  refine sP (opp_as (v := .bool _) rfl rfl) rfl rfl ?_
  refine awp_seq ?_
  refine awp_region rfl ?_
  refine sP (opp_mv (v := .int _ _) rfl rfl) rfl rfl ?_
  refine sP (opp_cmp rfl rfl rfl rfl) rfl rfl ?_
  refine sP (opp_mv (v := .bool _) rfl rfl) rfl rfl ?_
  refine sG _ rfl rfl rfl rfl (fun hg => (And.intro gi (True.intro))) (fun hg => opp_mv (v := .int _ _) rfl rfl) ?_
  refine sG _ rfl rfl rfl rfl (fun hg => (And.intro gi (And.intro gi (True.intro)))) (fun hg => opp_cmp rfl rfl rfl rfl) ?_
  refine sPick rfl rfl rfl rfl (by exact True.intro) rfl rfl (fun hg => gi) (fun hg => gi) ?_
  refine sP (opp_as (v := .bool _) rfl rfl) rfl rfl ?_
  refine awp_ret ?_
  repeat (first | refine athen_ret ?_ | refine ain_ret ?_)
  first
    | refine apost_ret (aend1 (r0 := .bool _) (.tmp .nil) (.noN rfl rfl) ⟨Wk.v ?_, rfl, rfl⟩)
    | refine apost_ret (aend1s (r0 := .bool _) (.tmp .nil) shut rfl ⟨Wk.v ?_, rfl, rfl⟩)
  refine .of (congrArg AV.bool ?_)
  simp only [cmpI, Sp.goodPart, Sp.within]; by_cases h1 : 0 ≤ a <;> simp [h1]; omega
theorem c26 (x : Xid) : APure (V ea cds gl) 26 [xidAV x] false (.bool (Sp.goodXid x)) := by
  refine acalls_of_body (N := 31) Tryz.func26 rfl rfl (Nat.le_of_ble_eq_true rfl) fun C hV hN hM hO => ?_
  obtain ⟨_, _, w0, G0, σ0, _, own0⟩ := C; dsimp only at hV hN hM hO; subst hV; subst hN; subst hM
  refine awp_seq ?_
  refine awp_region rfl ?_
  refine sR (opr_box (y := .agg _) (n := 1) rfl rfl rfl) rfl rfl rfl ?_
  refine sP (opp_as (v := .bool _) rfl rfl) rfl rfl ?_
  refine awp_seq ?_
  refine awp_region rfl ?_
  first
    | refine sP (opp_fieldP rfl rfl fld23_0 rfl) rfl rfl ?_
    | refine sP (opp_fieldF rfl rfl rfl fld23_0 rfl rfl) rfl rfl ?_
  first
    | refine sP (opp_loadP rfl rfl rfl rfl bi rfl ty3) rfl rfl ?_
    | refine sP (opp_loadF rfl rfl ty3) rfl rfl ?_
  refine sP (opp_cmp rfl rfl rfl rfl) rfl rfl ?_
  refine sP (opp_mv (v := .bool _) rfl rfl) rfl rfl ?_
  first
    | refine sG _ rfl rfl rfl rfl (fun hg => (And.intro gi (True.intro))) (fun hg => opp_fieldP rfl rfl fld23_0 rfl) ?_
    | refine sG _ rfl rfl rfl rfl (fun hg => (And.intro gi (True.intro))) (fun hg => opp_fieldF rfl rfl rfl fld23_0 rfl rfl) ?_
  first
    | refine sG _ rfl rfl rfl rfl (fun hg => (And.intro gi (True.intro))) (fun hg => opp_loadP rfl rfl rfl rfl bi rfl ty3) ?_
    | refine sG _ rfl rfl rfl rfl (fun hg => (And.intro gi (True.intro))) (fun hg => opp_loadF rfl rfl ty3) ?_
  refine sG _ rfl rfl rfl rfl (fun hg => (And.intro gi (And.intro gi (True.intro)))) (fun hg => opp_cmp rfl rfl rfl rfl) ?_
  refine sPick rfl rfl rfl rfl (by exact True.intro) rfl rfl (fun hg => gi) (fun hg => gi) ?_
  refine sP (opp_mv (v := .bool _) rfl rfl) rfl rfl ?_
  first
    | refine sG _ rfl rfl rfl rfl (fun hg => (And.intro gi (True.intro))) (fun hg => opp_fieldP rfl rfl fld23_1 rfl) ?_
    | refine sG _ rfl rfl rfl rfl (fun hg => (And.intro gi (True.intro))) (fun hg => opp_fieldF rfl rfl rfl fld23_1 rfl rfl) ?_
  first
    | refine sG _ rfl rfl rfl rfl (fun hg => (And.intro gi (True.intro))) (fun hg => opp_loadP rfl rfl rfl rfl bi rfl ty3) ?_
    | refine sG _ rfl rfl rfl rfl (fun hg => (And.intro gi (True.intro))) (fun hg => opp_loadF rfl rfl ty3) ?_
  refine sG _ rfl rfl rfl rfl (fun hg => (And.intro gi (And.intro gi (True.intro)))) (fun hg => opp_cmp rfl rfl rfl rfl) ?_
  refine sPick rfl rfl rfl rfl (by exact True.intro) rfl rfl (fun hg => gi) (fun hg => gi) ?_
  refine sP (opp_mv (v := .bool _) rfl rfl) rfl rfl ?_
  first
    | refine sG _ rfl rfl rfl rfl (fun hg => (And.intro gi (True.intro))) (fun hg => opp_fieldP rfl rfl fld23_1 rfl) ?_
    | refine sG _ rfl rfl rfl rfl (fun hg => (And.intro gi (True.intro))) (fun hg => opp_fieldF rfl rfl rfl fld23_1 rfl rfl) ?_
  first
    | refine sG _ rfl rfl rfl rfl (fun hg => (And.intro gi (True.intro))) (fun hg => opp_loadP rfl rfl rfl rfl bi rfl ty3) ?_
    | refine sG _ rfl rfl rfl rfl (fun hg => (And.intro gi (True.intro))) (fun hg => opp_loadF rfl rfl ty3) ?_
  refine sG _ rfl rfl rfl rfl (fun hg => (And.intro gi (And.intro gi (True.intro)))) (fun hg => opp_cmp rfl rfl rfl rfl) ?_
  refine sPick rfl rfl rfl rfl (by exact True.intro) rfl rfl (fun hg => gi) (fun hg => gi) ?_
  refine sP (opp_mv (v := .bool _) rfl rfl) rfl rfl ?_
  first
    | refine sG _ rfl rfl rfl rfl (fun hg => (And.intro gi (True.intro))) (fun hg => opp_fieldP rfl rfl fld23_2 rfl) ?_
    | refine sG _ rfl rfl rfl rfl (fun hg => (And.intro gi (True.intro))) (fun hg => opp_fieldF rfl rfl rfl fld23_2 rfl rfl) ?_
  first
    | refine sG _ rfl rfl rfl rfl (fun hg => (And.intro gi (True.intro))) (fun hg => opp_loadP rfl rfl rfl rfl bi rfl ty3) ?_
    | refine sG _ rfl rfl rfl rfl (fun hg => (And.intro gi (True.intro))) (fun hg => opp_loadF rfl rfl ty3) ?_
  refine sG _ rfl rfl rfl rfl (fun hg => (And.intro gi (And.intro gi (True.intro)))) (fun hg => opp_cmp rfl rfl rfl rfl) ?_
  refine sPick rfl rfl rfl rfl (by exact True.intro) rfl rfl (fun hg => gi) (fun hg => gi) ?_
  refine sP (opp_mv (v := .bool _) rfl rfl) rfl rfl ?_
  first
    | refine sG _ rfl rfl rfl rfl (fun hg => (And.intro gi (True.intro))) (fun hg => opp_fieldP rfl rfl fld23_2 rfl) ?_
    | refine sG _ rfl rfl rfl rfl (fun hg => (And.intro gi (True.intro))) (fun hg => opp_fieldF rfl rfl rfl fld23_2 rfl rfl) ?_
  first
    | refine sG _ rfl rfl rfl rfl (fun hg => (And.intro gi (True.intro))) (fun hg => opp_loadP rfl rfl rfl rfl bi rfl ty3) ?_
    | refine sG _ rfl rfl rfl rfl (fun hg => (And.intro gi (True.intro))) (fun hg => opp_loadF rfl rfl ty3) ?_
  refine sG _ rfl rfl rfl rfl (fun hg => (And.intro gi (And.intro gi (True.intro)))) (fun hg => opp_cmp rfl rfl rfl rfl) ?_
  refine sPick rfl rfl rfl rfl (by exact True.intro) rfl rfl (fun hg => gi) (fun hg => gi) ?_
  refine sP (opp_as (v := .bool _) rfl rfl) rfl rfl ?_
  refine awp_ret ?_
  repeat (first | refine athen_ret ?_ | refine ain_ret ?_)
  first
    | refine apost_ret (aend1 (r0 := .bool _) (.tmp .nil) (.noN rfl rfl) ⟨Wk.v ?_, rfl, rfl⟩)
    | refine apost_ret (aend1s (r0 := .bool _) (.tmp .nil) shut rfl ⟨Wk.v ?_, rfl, rfl⟩)
  refine .of (congrArg AV.bool ?_)
  simp only [cmpI, Sp.goodXid, Sp.within]
  by_cases h1 : 1 ≤ x.boot <;> by_cases h2 : x.boot ≤ 2147483647 <;> by_cases h3 : 1 ≤ x.peer <;> by_cases h4 : x.peer ≤ 2147483647 <;> by_cases h5 : 1 ≤ x.num <;> by_cases h6 : x.num ≤ 2147483647 <;> simp [h1, h2, h3, h4, h5, h6]
/-- The first i pieces. -/
def notesTo (p : Int) (x : Xid) (st : Int) (im : List UInt8) (i : Nat) : List Note := (List.range i).map fun j => Sp.cutNote p x st im j j (Sp.total im)
end
end Go.Proofs.YtgaihhimkodmmaaGreatDoor
/- Layer 22: the fixed fact of the layer's laws (walks over this dump). -/
namespace Go.Proofs.YtgaihhimkodmmaaGreatDoor
attribute [local irreducible] Tryz.prog
open Go.Fy
set_option linter.unusedSimpArgs false
section
variable {ea : Nat → Addr} {cds : List Nat} {gl : Nat → Option AV}
section
variable (hG0 : gl 0 = some (.err (.code 9))) (hG7 : gl 7 = some (.err (.code 7))) (hG1 : gl 1 = some (.err (.code 10))) (hG5 : gl 5 = some (.err (.code 12))) (hG2 : gl 2 = some (.err (.code 14))) (hG10 : gl 10 = some (.err (.code 4))) (hG6 : gl 6 = some (.err (.code 11)))
include hG0 hG7 hG1 hG5 hG2 hG10
end
end
end Go.Proofs.YtgaihhimkodmmaaGreatDoor
/- Layer 22: XferStarts: what Start answers is the document's answer: true (walks over this dump). -/
namespace Go.Proofs.YtgaihhimkodmmaaGreatDoor
attribute [local irreducible] Tryz.prog
open Go.Fy
set_option linter.unusedSimpArgs false
set_option linter.unusedVariables false
section
variable {ea : Nat → Addr} {cds : List Nat} {gl : Nat → Option AV}
end
end Go.Proofs.YtgaihhimkodmmaaGreatDoor
/- Layer 22: boundaries, acknowledgements (walks over this dump). -/
namespace Go.Proofs.YtgaihhimkodmmaaGreatDoor
attribute [local irreducible] Tryz.prog
open Go.Fy
set_option linter.unusedSimpArgs false
section
variable {ea : Nat → Addr} {cds : List Nat} {gl : Nat → Option AV}
end
end Go.Proofs.YtgaihhimkodmmaaGreatDoor
/- The document's answers for layers 20 and 22: a note in form; boundaries, acknowledgements (walks over this dump). -/
namespace Go.Proofs.YtgaihhimkodmmaaGreatDoor
attribute [local irreducible] Tryz.prog
open Go.Fy
set_option linter.unusedSimpArgs false
set_option linter.unusedVariables false
section
variable {ea : Nat → Addr} {cds : List Nat} {gl : Nat → Option AV}
theorem c27 (i t n : Int) : APure (V ea cds gl) 27 [.int .i64 i, .int .i64 t, .int .i64 n] false (.bool (Sp.goodLenW n i t)) := by
  refine acalls_of_body (N := 19) Tryz.func27 rfl rfl (Nat.le_of_ble_eq_true rfl) fun C hV hN hM hO => ?_
  obtain ⟨_, _, w0, G0, σ0, _, own0⟩ := C; dsimp only at hV hN hM hO; subst hV; subst hN; subst hM
  refine awp_seq ?_
  refine awp_region rfl ?_
  refine sP (opp_as (v := .bool _) rfl rfl) rfl rfl ?_
  refine awp_seq ?_
  refine awp_seq ?_
  refine awp_region rfl ?_
  refine sP (opp_mv (v := .int _ _) rfl rfl) rfl rfl ?_
  refine sP (opp_mv (v := .int _ _) rfl rfl) rfl rfl ?_
  first
    | refine sP (opp_arith rfl rfl rfl (.inr <| .inl ⟨rfl, w64 (by omega)⟩)) rfl rfl ?_
    | refine sP (opp_arith rfl rfl rfl (.inr <| .inl ⟨rfl, rfl⟩)) rfl rfl ?_
  refine sP (opp_cmp rfl rfl rfl rfl) rfl rfl ?_
  refine awp_cond _ rfl (fun hc3 => ?_) (fun hc3 => ?_)
  · (try simp only [cmpI, errD_nil, Bool.not_eq_true', Bool.not_eq_false', decide_eq_true_eq, decide_eq_false_iff_not] at hc3); have ht10 := hc3
    refine awp_seq ?_
    refine awp_region rfl ?_
    refine sP (opp_mv (v := .int _ _) rfl rfl) rfl rfl ?_
    refine sP (opp_cmp rfl rfl rfl rfl) rfl rfl ?_
    refine sP (opp_mv (v := .bool _) rfl rfl) rfl rfl ?_
    refine sG _ rfl rfl rfl rfl (fun hg => (And.intro gi (True.intro))) (fun hg => opp_mv (v := .int _ _) rfl rfl) ?_
    refine sG _ rfl rfl rfl rfl (fun hg => (And.intro gi (And.intro gi (True.intro)))) (fun hg => opp_cmp rfl rfl rfl rfl) ?_
    refine sPick rfl rfl rfl rfl (by exact True.intro) rfl rfl (fun hg => gi) (fun hg => gi) ?_
    refine sP (opp_as (v := .bool _) rfl rfl) rfl rfl ?_
    refine awp_ret ?_
    repeat (first | refine athen_ret ?_ | refine ain_ret ?_)
    first
      | refine apost_ret (aend1 (r0 := .bool _) (.tmp .nil) (.noN rfl rfl) ⟨Wk.v ?_, rfl, rfl⟩)
      | refine apost_ret (aend1s (r0 := .bool _) (.tmp .nil) shut rfl ⟨Wk.v ?_, rfl, rfl⟩)
    refine .of (congrArg AV.bool ?_)
    rw [Sp.goodLenW, if_pos (by simpa using ht10)]; simp only [cmpI, Sp.within]; by_cases h1 : 1 ≤ n <;> simp [h1]
  · (try simp only [cmpI, errD_nil, Bool.not_eq_true', Bool.not_eq_false', decide_eq_true_eq, decide_eq_false_iff_not] at hc3); have ht10 := hc3
    refine awp_skip ?_
    refine awp_seq ?_
    refine awp_region rfl ?_
    refine sP (opp_mv (v := .int _ _) rfl rfl) rfl rfl ?_
    refine sP (opp_cmp rfl rfl rfl rfl) rfl rfl ?_
    refine sP (opp_as (v := .bool _) rfl rfl) rfl rfl ?_
    refine awp_ret ?_
    repeat (first | refine athen_ret ?_ | refine ain_ret ?_)
    first
      | refine apost_ret (aend1 (r0 := .bool _) (.tmp .nil) (.noN rfl rfl) ⟨Wk.v ?_, rfl, rfl⟩)
      | refine apost_ret (aend1s (r0 := .bool _) (.tmp .nil) shut rfl ⟨Wk.v ?_, rfl, rfl⟩)
    refine .of (congrArg AV.bool ?_)
    rw [Sp.goodLenW, if_neg (by simpa using ht10)]; simp [cmpI]
/-- Is a note of a right kind in form? -/
def rangesB (n : Note) : Bool := Sp.goodPart n.part && Sp.goodXid n.xid && (decide (n.sum = 0) || decide (n.kind = 2)) && (if Sp.staged n.kind then Sp.goodStage n.stage else decide (n.stage = 0)) && Sp.pieces n
theorem check_ranges {n : Note} : Sp.check n = if Sp.within n.kind 1 7 = false then 7 else if rangesB n = false then 4 else 0 := by
  unfold Sp.check
  split
  · rfl
  · congr 1
    rw [eq_iff_iff]
    unfold rangesB
    cases Sp.goodPart n.part <;> cases Sp.goodXid n.xid <;> cases Sp.pieces n <;> by_cases h1 : n.sum = 0 <;> by_cases h2 : n.kind = 2 <;> simp [h1, h2]
theorem c28 (n : Note) : APure (V ea cds gl) 28 [noteAV n] false (.bool (rangesB n)) := by
  refine acalls_of_body (N := 122) Tryz.func28 rfl rfl (Nat.le_of_ble_eq_true rfl) fun C hV hN hM hO => ?_
  obtain ⟨_, _, w0, G0, σ0, _, own0⟩ := C; dsimp only at hV hN hM hO; subst hV; subst hN; subst hM
  refine awp_seq ?_
  refine awp_region rfl ?_
  refine sR (opr_box (y := .agg _) (n := 1) rfl rfl rfl) rfl rfl rfl ?_
  refine sP (opp_as (v := .bool _) rfl rfl) rfl rfl ?_
  refine awp_seq ?_
  refine awp_region rfl ?_
  first
    | refine sP (opp_fieldP rfl rfl fld29_0 rfl) rfl rfl ?_
    | refine sP (opp_fieldF rfl rfl rfl fld29_0 rfl rfl) rfl rfl ?_
  first
    | refine sP (opp_loadP rfl rfl rfl rfl bi rfl ty3) rfl rfl ?_
    | refine sP (opp_loadF rfl rfl ty3) rfl rfl ?_
  refine sP (opp_cmp rfl rfl rfl rfl) rfl rfl ?_
  refine sP (opp_mv (v := .bool _) rfl rfl) rfl rfl ?_
  first
    | refine sG _ rfl rfl rfl rfl (fun hg => (And.intro gi (True.intro))) (fun hg => opp_fieldP rfl rfl fld29_0 rfl) ?_
    | refine sG _ rfl rfl rfl rfl (fun hg => (And.intro gi (True.intro))) (fun hg => opp_fieldF rfl rfl rfl fld29_0 rfl rfl) ?_
  first
    | refine sG _ rfl rfl rfl rfl (fun hg => (And.intro gi (True.intro))) (fun hg => opp_loadP rfl rfl rfl rfl bi rfl ty3) ?_
    | refine sG _ rfl rfl rfl rfl (fun hg => (And.intro gi (True.intro))) (fun hg => opp_loadF rfl rfl ty3) ?_
  refine sG _ rfl rfl rfl rfl (fun hg => (And.intro gi (And.intro gi (True.intro)))) (fun hg => opp_cmp rfl rfl rfl rfl) ?_
  refine sPick rfl rfl rfl rfl (by exact True.intro) rfl rfl (fun hg => gi) (fun hg => gi) ?_
  refine sP (opp_mv (v := .bool _) rfl rfl) rfl rfl ?_
  first
    | refine sG _ rfl rfl rfl rfl (fun hg => (And.intro gi (True.intro))) (fun hg => opp_fieldP rfl rfl fld29_0 rfl) ?_
    | refine sG _ rfl rfl rfl rfl (fun hg => (And.intro gi (True.intro))) (fun hg => opp_fieldF rfl rfl rfl fld29_0 rfl rfl) ?_
  first
    | refine sG _ rfl rfl rfl rfl (fun hg => (And.intro gi (True.intro))) (fun hg => opp_loadP rfl rfl rfl rfl bi rfl ty3) ?_
    | refine sG _ rfl rfl rfl rfl (fun hg => (And.intro gi (True.intro))) (fun hg => opp_loadF rfl rfl ty3) ?_
  refine sG _ rfl rfl rfl rfl (fun hg => (And.intro gi (And.intro gi (True.intro)))) (fun hg => opp_cmp rfl rfl rfl rfl) ?_
  refine sPick rfl rfl rfl rfl (by exact True.intro) rfl rfl (fun hg => gi) (fun hg => gi) ?_
  refine sP (opp_mv (v := .bool _) rfl rfl) rfl rfl ?_
  first
    | refine sG _ rfl rfl rfl rfl (fun hg => (And.intro gi (True.intro))) (fun hg => opp_fieldP rfl rfl fld29_0 rfl) ?_
    | refine sG _ rfl rfl rfl rfl (fun hg => (And.intro gi (True.intro))) (fun hg => opp_fieldF rfl rfl rfl fld29_0 rfl rfl) ?_
  first
    | refine sG _ rfl rfl rfl rfl (fun hg => (And.intro gi (True.intro))) (fun hg => opp_loadP rfl rfl rfl rfl bi rfl ty3) ?_
    | refine sG _ rfl rfl rfl rfl (fun hg => (And.intro gi (True.intro))) (fun hg => opp_loadF rfl rfl ty3) ?_
  refine sG _ rfl rfl rfl rfl (fun hg => (And.intro gi (And.intro gi (True.intro)))) (fun hg => opp_cmp rfl rfl rfl rfl) ?_
  refine sPick rfl rfl rfl rfl (by exact True.intro) rfl rfl (fun hg => gi) (fun hg => gi) ?_
  refine sP (opp_as (v := .bool _) rfl rfl) rfl rfl ?_
  refine awp_seq ?_
  refine awp_region rfl ?_
  first
    | refine sP (opp_fieldP rfl rfl fld29_0 rfl) rfl rfl ?_
    | refine sP (opp_fieldF rfl rfl rfl fld29_0 rfl rfl) rfl rfl ?_
  first
    | refine sP (opp_loadP rfl rfl rfl rfl bi rfl ty3) rfl rfl ?_
    | refine sP (opp_loadF rfl rfl ty3) rfl rfl ?_
  refine sP (opp_cmp rfl rfl rfl rfl) rfl rfl ?_
  refine sP (opp_mv (v := .bool _) rfl rfl) rfl rfl ?_
  first
    | refine sG _ rfl rfl rfl rfl (fun hg => (And.intro gi (True.intro))) (fun hg => opp_fieldP rfl rfl fld29_0 rfl) ?_
    | refine sG _ rfl rfl rfl rfl (fun hg => (And.intro gi (True.intro))) (fun hg => opp_fieldF rfl rfl rfl fld29_0 rfl rfl) ?_
  first
    | refine sG _ rfl rfl rfl rfl (fun hg => (And.intro gi (True.intro))) (fun hg => opp_loadP rfl rfl rfl rfl bi rfl ty3) ?_
    | refine sG _ rfl rfl rfl rfl (fun hg => (And.intro gi (True.intro))) (fun hg => opp_loadF rfl rfl ty3) ?_
  refine sG _ rfl rfl rfl rfl (fun hg => (And.intro gi (And.intro gi (True.intro)))) (fun hg => opp_cmp rfl rfl rfl rfl) ?_
  refine sPick rfl rfl rfl rfl (by exact True.intro) rfl rfl (fun hg => gi) (fun hg => gi) ?_
  refine sP (opp_as (v := .bool _) rfl rfl) rfl rfl ?_
  refine awp_seq ?_
  refine awp_seq ?_
  refine awp_region rfl ?_
  first
    | refine sP (opp_fieldP rfl rfl fld29_1 rfl) rfl rfl ?_
    | refine sP (opp_fieldF rfl rfl rfl fld29_1 rfl rfl) rfl rfl ?_
  first
    | refine sP (opp_loadP rfl rfl rfl rfl bi rfl ty3) rfl rfl ?_
    | refine sP (opp_loadF rfl rfl ty3) rfl rfl ?_
  refine sR (opr_call rfl rfl ent25 rfl (c25 _) (AViews.refl _ rfl)) rfl rfl rfl ?_ -- d=33 t=4
  refine sP (opp_not rfl rfl) rfl rfl ?_
  refine sP (opp_mv (v := .bool _) rfl rfl) rfl rfl ?_
  first
    | refine sG _ rfl rfl rfl rfl (fun hg => (And.intro gi (True.intro))) (fun hg => opp_fieldP rfl rfl fld29_2 rfl) ?_
    | refine sG _ rfl rfl rfl rfl (fun hg => (And.intro gi (True.intro))) (fun hg => opp_fieldF rfl rfl rfl fld29_2 rfl rfl) ?_
  first
    | refine sG _ rfl rfl rfl rfl (fun hg => (And.intro gi (True.intro))) (fun hg => opp_loadP rfl rfl rfl rfl bi rfl ty23) ?_
    | refine sG _ rfl rfl rfl rfl (fun hg => (And.intro gi (True.intro))) (fun hg => opp_loadF rfl rfl ty23) ?_
  refine sGR _ rfl rfl rfl rfl (fun hg => (And.intro gi (And.intro gi (True.intro)))) (fun hg => (opr_call rfl rfl ent26 rfl (c26 _) (AViews.refl _ rfl))) ?_
  refine sG _ rfl rfl rfl rfl (fun hg => (And.intro gi (True.intro))) (fun hg => opp_not rfl rfl) ?_
  refine sPick rfl rfl rfl rfl (by exact True.intro) rfl rfl (fun hg => gi) (fun hg => gi) ?_
  refine sP (opp_mv (v := .bool _) rfl rfl) rfl rfl ?_
  first
    | refine sG _ rfl rfl rfl rfl (fun hg => (And.intro gi (True.intro))) (fun hg => opp_fieldP rfl rfl fld29_6 rfl) ?_
    | refine sG _ rfl rfl rfl rfl (fun hg => (And.intro gi (True.intro))) (fun hg => opp_fieldF rfl rfl rfl fld29_6 rfl rfl) ?_
  first
    | refine sG _ rfl rfl rfl rfl (fun hg => (And.intro gi (True.intro))) (fun hg => opp_loadP rfl rfl rfl rfl bi rfl ty27) ?_
    | refine sG _ rfl rfl rfl rfl (fun hg => (And.intro gi (True.intro))) (fun hg => opp_loadF rfl rfl ty27) ?_
  refine sG _ rfl rfl rfl rfl (fun hg => (And.intro gi (And.intro gi (True.intro)))) (fun hg => opp_cmp rfl rfl rfl rfl) ?_
  refine sG _ rfl rfl rfl rfl (fun hg => (And.intro gi (True.intro))) (fun hg => opp_mv (v := .bool _) rfl rfl) ?_
  first
    | refine sG _ rfl rfl rfl rfl (fun hg => (And.intro gi (True.intro))) (fun hg => opp_fieldP rfl rfl fld29_0 rfl) ?_
    | refine sG _ rfl rfl rfl rfl (fun hg => (And.intro gi (True.intro))) (fun hg => opp_fieldF rfl rfl rfl fld29_0 rfl rfl) ?_
  first
    | refine sG _ rfl rfl rfl rfl (fun hg => (And.intro gi (True.intro))) (fun hg => opp_loadP rfl rfl rfl rfl bi rfl ty3) ?_
    | refine sG _ rfl rfl rfl rfl (fun hg => (And.intro gi (True.intro))) (fun hg => opp_loadF rfl rfl ty3) ?_
  refine sG _ rfl rfl rfl rfl (fun hg => (And.intro gi (And.intro gi (True.intro)))) (fun hg => opp_cmp rfl rfl rfl rfl) ?_
  refine sPickG _ rfl rfl rfl rfl rfl rfl (fun hg => by first | exact True.intro | exact And.intro hg True.intro | (refine And.intro ?_ True.intro; simp_all; done)) rfl rfl (fun h0 hg => g2) (fun h0 hg => g2) ?_
  refine sPick rfl rfl rfl rfl (by exact True.intro) rfl rfl (fun hg => gi) (fun hg => gi) ?_
  refine awp_cond _ rfl (fun hc5 => ?_) (fun hc5 => ?_)
  · (try simp only [cmpI, errD_nil, Bool.not_eq_true', Bool.not_eq_false', decide_eq_true_eq, decide_eq_false_iff_not] at hc5); have ht50 := hc5
    refine awp_seq ?_
    refine awp_region rfl ?_
    refine sP (opp_as (v := .bool _) rfl rfl) rfl rfl ?_
    refine awp_ret ?_
    repeat (first | refine athen_ret ?_ | refine ain_ret ?_)
    first
      | refine apost_ret (aend1 (r0 := .bool _) (.tmp .nil) (.noN rfl rfl) ⟨Wk.v ?_, rfl, rfl⟩)
      | refine apost_ret (aend1s (r0 := .bool _) (.tmp .nil) shut rfl ⟨Wk.v ?_, rfl, rfl⟩)
    refine .of (congrArg AV.bool ?_)
    symm; unfold rangesB; revert ht50; cases Sp.goodPart n.part <;> cases Sp.goodXid n.xid <;> by_cases h1 : n.sum = 0 <;> by_cases h2 : n.kind = 2 <;> simp [cmpI, h1, h2]
  · (try simp only [cmpI, errD_nil, Bool.not_eq_true', Bool.not_eq_false', decide_eq_true_eq, decide_eq_false_iff_not] at hc5); have ht50 := hc5
    refine awp_skip ?_
    refine awp_seq ?_
    refine awp_seq ?_
    have hA : Sp.goodPart n.part = true ∧ Sp.goodXid n.xid = true ∧ (decide (n.sum = 0) || decide (n.kind = 2)) = true := by
      revert ht50; cases Sp.goodPart n.part <;> cases Sp.goodXid n.xid <;> by_cases h1 : n.sum = 0 <;> by_cases h2 : n.kind = 2 <;> simp [cmpI, h1, h2]
    refine awp_region rfl ?_
    refine sP (opp_mv (v := .bool _) rfl rfl) rfl rfl ?_
    refine sP (opp_mv (v := .bool _) rfl rfl) rfl rfl ?_
    first
      | refine sG _ rfl rfl rfl rfl (fun hg => (And.intro gi (True.intro))) (fun hg => opp_fieldP rfl rfl fld29_3 rfl) ?_
      | refine sG _ rfl rfl rfl rfl (fun hg => (And.intro gi (True.intro))) (fun hg => opp_fieldF rfl rfl rfl fld29_3 rfl rfl) ?_
    first
      | refine sG _ rfl rfl rfl rfl (fun hg => (And.intro gi (True.intro))) (fun hg => opp_loadP rfl rfl rfl rfl bi rfl ty3) ?_
      | refine sG _ rfl rfl rfl rfl (fun hg => (And.intro gi (True.intro))) (fun hg => opp_loadF rfl rfl ty3) ?_
    refine sG _ rfl rfl rfl rfl (fun hg => (And.intro gi (And.intro gi (True.intro)))) (fun hg => opp_cmp rfl rfl rfl rfl) ?_
    refine sPick rfl rfl rfl rfl (by exact True.intro) rfl rfl (fun hg => gi) (fun hg => gi) ?_
    refine sP (opp_mv (v := .bool _) rfl rfl) rfl rfl ?_
    first
      | refine sG _ rfl rfl rfl rfl (fun hg => (And.intro gi (True.intro))) (fun hg => opp_fieldP rfl rfl fld29_3 rfl) ?_
      | refine sG _ rfl rfl rfl rfl (fun hg => (And.intro gi (True.intro))) (fun hg => opp_fieldF rfl rfl rfl fld29_3 rfl rfl) ?_
    first
      | refine sG _ rfl rfl rfl rfl (fun hg => (And.intro gi (True.intro))) (fun hg => opp_loadP rfl rfl rfl rfl bi rfl ty3) ?_
      | refine sG _ rfl rfl rfl rfl (fun hg => (And.intro gi (True.intro))) (fun hg => opp_loadF rfl rfl ty3) ?_
    refine sG _ rfl rfl rfl rfl (fun hg => (And.intro gi (And.intro gi (True.intro)))) (fun hg => opp_cmp rfl rfl rfl rfl) ?_
    refine sPick rfl rfl rfl rfl (by exact True.intro) rfl rfl (fun hg => gi) (fun hg => gi) ?_
    refine sP (opp_mv (v := .bool _) rfl rfl) rfl rfl ?_
    refine sG _ rfl rfl rfl rfl (fun hg => (And.intro gi (True.intro))) (fun hg => opp_mv (v := .bool _) rfl rfl) ?_
    refine sG _ rfl rfl rfl rfl (fun hg => (And.intro gi (True.intro))) (fun hg => opp_not rfl rfl) ?_
    refine sG _ rfl rfl rfl rfl (fun hg => (And.intro gi (True.intro))) (fun hg => opp_mv (v := .bool _) rfl rfl) ?_
    first
      | refine sG _ rfl rfl rfl rfl (fun hg => (And.intro gi (True.intro))) (fun hg => opp_fieldP rfl rfl fld29_3 rfl) ?_
      | refine sG _ rfl rfl rfl rfl (fun hg => (And.intro gi (True.intro))) (fun hg => opp_fieldF rfl rfl rfl fld29_3 rfl rfl) ?_
    first
      | refine sG _ rfl rfl rfl rfl (fun hg => (And.intro gi (True.intro))) (fun hg => opp_loadP rfl rfl rfl rfl bi rfl ty3) ?_
      | refine sG _ rfl rfl rfl rfl (fun hg => (And.intro gi (True.intro))) (fun hg => opp_loadF rfl rfl ty3) ?_
    refine sG _ rfl rfl rfl rfl (fun hg => (And.intro gi (And.intro gi (True.intro)))) (fun hg => opp_cmp rfl rfl rfl rfl) ?_
    refine sPickG _ rfl rfl rfl rfl rfl rfl (fun hg => by first | exact True.intro | exact And.intro hg True.intro | (refine And.intro ?_ True.intro; simp_all; done)) rfl rfl (fun h0 hg => g2) (fun h0 hg => g2) ?_
    refine sPick rfl rfl rfl rfl (by exact True.intro) rfl rfl (fun hg => gi) (fun hg => gi) ?_
    refine awp_cond _ rfl (fun hc8 => ?_) (fun hc8 => ?_)
    · (try simp only [cmpI, errD_nil, Bool.not_eq_true', Bool.not_eq_false', decide_eq_true_eq, decide_eq_false_iff_not] at hc8); have ht70 := hc8
      refine awp_seq ?_
      refine awp_region rfl ?_
      refine sP (opp_as (v := .bool _) rfl rfl) rfl rfl ?_
      refine awp_ret ?_
      repeat (first | refine athen_ret ?_ | refine ain_ret ?_)
      first
        | refine apost_ret (aend1 (r0 := .bool _) (.tmp .nil) (.noN rfl rfl) ⟨Wk.v ?_, rfl, rfl⟩)
        | refine apost_ret (aend1s (r0 := .bool _) (.tmp .nil) shut rfl ⟨Wk.v ?_, rfl, rfl⟩)
      refine .of (congrArg AV.bool ?_)
      have hB : (if Sp.staged n.kind then Sp.goodStage n.stage else decide (n.stage = 0)) = false := by
        revert ht70; unfold Sp.staged Sp.goodStage; by_cases h1 : n.kind = 1 <;> by_cases h2 : n.kind = 7 <;> by_cases h3 : n.kind = 2 <;> by_cases h4 : n.kind = 3 <;> by_cases h5 : n.stage = 1 <;> by_cases h6 : n.stage = 2 <;> by_cases h7 : n.stage = 0 <;> simp [cmpI, h1, h2, h3, h4, h5, h6, h7] <;> omega
      symm; unfold rangesB; rw [hB]; simp
    · (try simp only [cmpI, errD_nil, Bool.not_eq_true', Bool.not_eq_false', decide_eq_true_eq, decide_eq_false_iff_not] at hc8); have ht70 := hc8
      refine awp_skip ?_
      refine awp_seq ?_
      refine awp_seq ?_
      have hB : (if Sp.staged n.kind then Sp.goodStage n.stage else decide (n.stage = 0)) = true := by
        revert ht70; unfold Sp.staged Sp.goodStage; by_cases h1 : n.kind = 1 <;> by_cases h2 : n.kind = 7 <;> by_cases h3 : n.kind = 2 <;> by_cases h4 : n.kind = 3 <;> by_cases h5 : n.stage = 1 <;> by_cases h6 : n.stage = 2 <;> by_cases h7 : n.stage = 0 <;> simp [cmpI, h1, h2, h3, h4, h5, h6, h7] <;> omega
      refine awp_region rfl ?_
      refine sP (opp_mv (v := .bool _) rfl rfl) rfl rfl ?_
      refine sP (opp_mv (v := .bool _) rfl rfl) rfl rfl ?_
      first
        | refine sG _ rfl rfl rfl rfl (fun hg => (And.intro gi (True.intro))) (fun hg => opp_fieldP rfl rfl fld29_5 rfl) ?_
        | refine sG _ rfl rfl rfl rfl (fun hg => (And.intro gi (True.intro))) (fun hg => opp_fieldF rfl rfl rfl fld29_5 rfl rfl) ?_
      first
        | refine sG _ rfl rfl rfl rfl (fun hg => (And.intro gi (True.intro))) (fun hg => opp_loadP rfl rfl rfl rfl bi rfl ty3) ?_
        | refine sG _ rfl rfl rfl rfl (fun hg => (And.intro gi (True.intro))) (fun hg => opp_loadF rfl rfl ty3) ?_
      refine sG _ rfl rfl rfl rfl (fun hg => (And.intro gi (And.intro gi (True.intro)))) (fun hg => opp_cmp rfl rfl rfl rfl) ?_
      refine sG _ rfl rfl rfl rfl (fun hg => (And.intro gi (True.intro))) (fun hg => opp_mv (v := .bool _) rfl rfl) ?_
      first
        | refine sG _ rfl rfl rfl rfl (fun hg => (And.intro gi (True.intro))) (fun hg => opp_fieldP rfl rfl fld29_5 rfl) ?_
        | refine sG _ rfl rfl rfl rfl (fun hg => (And.intro gi (True.intro))) (fun hg => opp_fieldF rfl rfl rfl fld29_5 rfl rfl) ?_
      first
        | refine sG _ rfl rfl rfl rfl (fun hg => (And.intro gi (True.intro))) (fun hg => opp_loadP rfl rfl rfl rfl bi rfl ty3) ?_
        | refine sG _ rfl rfl rfl rfl (fun hg => (And.intro gi (True.intro))) (fun hg => opp_loadF rfl rfl ty3) ?_
      refine sG _ rfl rfl rfl rfl (fun hg => (And.intro gi (And.intro gi (True.intro)))) (fun hg => opp_cmp rfl rfl rfl rfl) ?_
      refine sPickG _ rfl rfl rfl rfl rfl rfl (fun hg => by first | exact True.intro | exact And.intro hg True.intro | (refine And.intro ?_ True.intro; simp_all; done)) rfl rfl (fun h0 hg => g2) (fun h0 hg => g2) ?_
      refine sG _ rfl rfl rfl rfl (fun hg => (And.intro gi (True.intro))) (fun hg => opp_mv (v := .bool _) rfl rfl) ?_
      first
        | refine sG _ rfl rfl rfl rfl (fun hg => (And.intro gi (True.intro))) (fun hg => opp_fieldP rfl rfl fld29_4 rfl) ?_
        | refine sG _ rfl rfl rfl rfl (fun hg => (And.intro gi (True.intro))) (fun hg => opp_fieldF rfl rfl rfl fld29_4 rfl rfl) ?_
      first
        | refine sG _ rfl rfl rfl rfl (fun hg => (And.intro gi (True.intro))) (fun hg => opp_loadP rfl rfl rfl rfl bi rfl ty3) ?_
        | refine sG _ rfl rfl rfl rfl (fun hg => (And.intro gi (True.intro))) (fun hg => opp_loadF rfl rfl ty3) ?_
      refine sG _ rfl rfl rfl rfl (fun hg => (And.intro gi (And.intro gi (True.intro)))) (fun hg => opp_cmp rfl rfl rfl rfl) ?_
      refine sPickG _ rfl rfl rfl rfl rfl rfl (fun hg => by first | exact True.intro | exact And.intro hg True.intro | (refine And.intro ?_ True.intro; simp_all; done)) rfl rfl (fun h0 hg => g2) (fun h0 hg => g2) ?_
      refine sG _ rfl rfl rfl rfl (fun hg => (And.intro gi (True.intro))) (fun hg => opp_mv (v := .bool _) rfl rfl) ?_
      first
        | refine sG _ rfl rfl rfl rfl (fun hg => (And.intro gi (True.intro))) (fun hg => opp_fieldP rfl rfl fld29_4 rfl) ?_
        | refine sG _ rfl rfl rfl rfl (fun hg => (And.intro gi (True.intro))) (fun hg => opp_fieldF rfl rfl rfl fld29_4 rfl rfl) ?_
      first
        | refine sG _ rfl rfl rfl rfl (fun hg => (And.intro gi (True.intro))) (fun hg => opp_loadP rfl rfl rfl rfl bi rfl ty3) ?_
        | refine sG _ rfl rfl rfl rfl (fun hg => (And.intro gi (True.intro))) (fun hg => opp_loadF rfl rfl ty3) ?_
      first
        | refine sG _ rfl rfl rfl rfl (fun hg => (And.intro gi (True.intro))) (fun hg => opp_fieldP rfl rfl fld29_5 rfl) ?_
        | refine sG _ rfl rfl rfl rfl (fun hg => (And.intro gi (True.intro))) (fun hg => opp_fieldF rfl rfl rfl fld29_5 rfl rfl) ?_
      first
        | refine sG _ rfl rfl rfl rfl (fun hg => (And.intro gi (True.intro))) (fun hg => opp_loadP rfl rfl rfl rfl bi rfl ty3) ?_
        | refine sG _ rfl rfl rfl rfl (fun hg => (And.intro gi (True.intro))) (fun hg => opp_loadF rfl rfl ty3) ?_
      refine sG _ rfl rfl rfl rfl (fun hg => (And.intro gi (And.intro gi (True.intro)))) (fun hg => opp_cmp rfl rfl rfl rfl) ?_
      refine sPickG _ rfl rfl rfl rfl rfl rfl (fun hg => by first | exact True.intro | exact And.intro hg True.intro | (refine And.intro ?_ True.intro; simp_all; done)) rfl rfl (fun h0 hg => g2) (fun h0 hg => g2) ?_
      refine sPick rfl rfl rfl rfl (by exact True.intro) rfl rfl (fun hg => gi) (fun hg => gi) ?_
      refine sP (opp_mv (v := .bool _) rfl rfl) rfl rfl ?_
      refine sG _ rfl rfl rfl rfl (fun hg => (And.intro gi (True.intro))) (fun hg => opp_mv (v := .bool _) rfl rfl) ?_
      refine sG _ rfl rfl rfl rfl (fun hg => (And.intro gi (True.intro))) (fun hg => opp_not rfl rfl) ?_
      refine sG _ rfl rfl rfl rfl (fun hg => (And.intro gi (True.intro))) (fun hg => opp_mv (v := .bool _) rfl rfl) ?_
      first
        | refine sG _ rfl rfl rfl rfl (fun hg => (And.intro gi (True.intro))) (fun hg => opp_fieldP rfl rfl fld29_5 rfl) ?_
        | refine sG _ rfl rfl rfl rfl (fun hg => (And.intro gi (True.intro))) (fun hg => opp_fieldF rfl rfl rfl fld29_5 rfl rfl) ?_
      first
        | refine sG _ rfl rfl rfl rfl (fun hg => (And.intro gi (True.intro))) (fun hg => opp_loadP rfl rfl rfl rfl bi rfl ty3) ?_
        | refine sG _ rfl rfl rfl rfl (fun hg => (And.intro gi (True.intro))) (fun hg => opp_loadF rfl rfl ty3) ?_
      refine sG _ rfl rfl rfl rfl (fun hg => (And.intro gi (And.intro gi (True.intro)))) (fun hg => opp_cmp rfl rfl rfl rfl) ?_
      refine sG _ rfl rfl rfl rfl (fun hg => (And.intro gi (True.intro))) (fun hg => opp_mv (v := .bool _) rfl rfl) ?_
      first
        | refine sG _ rfl rfl rfl rfl (fun hg => (And.intro gi (True.intro))) (fun hg => opp_fieldP rfl rfl fld29_4 rfl) ?_
        | refine sG _ rfl rfl rfl rfl (fun hg => (And.intro gi (True.intro))) (fun hg => opp_fieldF rfl rfl rfl fld29_4 rfl rfl) ?_
      first
        | refine sG _ rfl rfl rfl rfl (fun hg => (And.intro gi (True.intro))) (fun hg => opp_loadP rfl rfl rfl rfl bi rfl ty3) ?_
        | refine sG _ rfl rfl rfl rfl (fun hg => (And.intro gi (True.intro))) (fun hg => opp_loadF rfl rfl ty3) ?_
      refine sG _ rfl rfl rfl rfl (fun hg => (And.intro gi (And.intro gi (True.intro)))) (fun hg => opp_cmp rfl rfl rfl rfl) ?_
      refine sPickG _ rfl rfl rfl rfl rfl rfl (fun hg => by first | exact True.intro | exact And.intro hg True.intro | (refine And.intro ?_ True.intro; simp_all; done)) rfl rfl (fun h0 hg => g2) (fun h0 hg => g2) ?_
      refine sPickG _ rfl rfl rfl rfl rfl rfl (fun hg => by first | exact True.intro | exact And.intro hg True.intro | (refine And.intro ?_ True.intro; simp_all; done)) rfl rfl (fun h0 hg => g2) (fun h0 hg => g2) ?_
      refine sPick rfl rfl rfl rfl (by exact True.intro) rfl rfl (fun hg => gi) (fun hg => gi) ?_
      refine awp_cond _ rfl (fun hc11 => ?_) (fun hc11 => ?_)
      · (try simp only [cmpI, errD_nil, Bool.not_eq_true', Bool.not_eq_false', decide_eq_true_eq, decide_eq_false_iff_not] at hc11); have ht107 := hc11
        refine awp_seq ?_
        refine awp_region rfl ?_
        refine sP (opp_as (v := .bool _) rfl rfl) rfl rfl ?_
        refine awp_ret ?_
        repeat (first | refine athen_ret ?_ | refine ain_ret ?_)
        first
          | refine apost_ret (aend1 (r0 := .bool _) (.tmp .nil) (.noN rfl rfl) ⟨Wk.v ?_, rfl, rfl⟩)
          | refine apost_ret (aend1s (r0 := .bool _) (.tmp .nil) shut rfl ⟨Wk.v ?_, rfl, rfl⟩)
        refine .of (congrArg AV.bool ?_)
        have hC : Sp.pieces n = false := by
          revert ht107; unfold Sp.pieces Sp.within
          by_cases h1 : n.kind = 1
          · by_cases h5 : n.total < 1 <;> by_cases h6 : 32 < n.total <;> by_cases h7 : n.index < 0 <;> by_cases h8 : n.total ≤ n.index <;> simp [cmpI, h1, h5, h6, h7, h8] <;> omega
          · by_cases h2 : n.kind = 7
            · by_cases h5 : n.total < 1 <;> by_cases h6 : 32 < n.total <;> by_cases h7 : n.index < 0 <;> by_cases h8 : n.total ≤ n.index <;> simp [cmpI, h1, h2, h5, h6, h7, h8] <;> omega
            · by_cases h5 : n.total = 0 <;> by_cases h6 : n.index = 0 <;> simp [cmpI, h1, h2, h5, h6]
        symm; unfold rangesB; rw [hC]; simp
      · (try simp only [cmpI, errD_nil, Bool.not_eq_true', Bool.not_eq_false', decide_eq_true_eq, decide_eq_false_iff_not] at hc11); have ht107 := hc11
        refine awp_skip ?_
        refine awp_seq ?_
        refine awp_seq ?_
        have hC : if n.kind = 1 ∨ n.kind = 7 then 1 ≤ n.total ∧ n.total ≤ 32 ∧ 0 ≤ n.index ∧ n.index < n.total else n.total = 0 ∧ n.index = 0 := by
          revert ht107
          by_cases h1 : n.kind = 1
          · by_cases h5 : n.total < 1 <;> by_cases h6 : 32 < n.total <;> by_cases h7 : n.index < 0 <;> by_cases h8 : n.total ≤ n.index <;> simp [cmpI, h1, h5, h6, h7, h8] <;> omega
          · by_cases h2 : n.kind = 7
            · by_cases h5 : n.total < 1 <;> by_cases h6 : 32 < n.total <;> by_cases h7 : n.index < 0 <;> by_cases h8 : n.total ≤ n.index <;> simp [cmpI, h1, h2, h5, h6, h7, h8] <;> omega
            · by_cases h5 : n.total = 0 <;> by_cases h6 : n.index = 0 <;> simp [cmpI, h1, h2, h5, h6]
        refine awp_region rfl ?_
        first
          | refine sP (opp_fieldP rfl rfl fld29_0 rfl) rfl rfl ?_
          | refine sP (opp_fieldF rfl rfl rfl fld29_0 rfl rfl) rfl rfl ?_
        first
          | refine sP (opp_loadP rfl rfl rfl rfl bi rfl ty3) rfl rfl ?_
          | refine sP (opp_loadF rfl rfl ty3) rfl rfl ?_
        refine sP (opp_cmp rfl rfl rfl rfl) rfl rfl ?_
        refine awp_cond _ rfl (fun hc14 => ?_) (fun hc14 => ?_)
        · (try simp only [cmpI, errD_nil, Bool.not_eq_true', Bool.not_eq_false', decide_eq_true_eq, decide_eq_false_iff_not] at hc14); have ht110 := hc14
          refine awp_seq ?_
          refine awp_region rfl ?_
          first
            | refine sP (opp_fieldP rfl rfl fld29_4 rfl) rfl rfl ?_
            | refine sP (opp_fieldF rfl rfl rfl fld29_4 rfl rfl) rfl rfl ?_
          first
            | refine sP (opp_loadP rfl rfl rfl rfl bi rfl ty3) rfl rfl ?_
            | refine sP (opp_loadF rfl rfl ty3) rfl rfl ?_
          first
            | refine sP (opp_fieldP rfl rfl fld29_5 rfl) rfl rfl ?_
            | refine sP (opp_fieldF rfl rfl rfl fld29_5 rfl rfl) rfl rfl ?_
          first
            | refine sP (opp_loadP rfl rfl rfl rfl bi rfl ty3) rfl rfl ?_
            | refine sP (opp_loadF rfl rfl ty3) rfl rfl ?_
          first
            | refine sP (opp_fieldP rfl rfl fld29_7 rfl) rfl rfl ?_
            | refine sP (opp_fieldF rfl rfl rfl fld29_7 rfl rfl) rfl rfl ?_
          first
            | refine sP (opp_loadP rfl rfl rfl rfl bi rfl ty9) rfl rfl ?_
            | refine sP (opp_loadF rfl rfl ty9) rfl rfl ?_
          refine sP (opp_lenStr rfl rfl un9) rfl rfl ?_
          refine sR (opr_call rfl rfl ent27 rfl (c27 _ _ _) (AViews.refl _ rfl)) rfl rfl rfl ?_ -- d=118 t=4
          refine sP (opp_as (v := .bool _) rfl rfl) rfl rfl ?_
          refine awp_ret ?_
          repeat (first | refine athen_ret ?_ | refine ain_ret ?_)
          first
            | refine apost_ret (aend1 (r0 := .bool _) (.tmp .nil) (.noN rfl rfl) ⟨Wk.v ?_, rfl, rfl⟩)
            | refine apost_ret (aend1s (r0 := .bool _) (.tmp .nil) shut rfl ⟨Wk.v ?_, rfl, rfl⟩)
          refine .of (congrArg AV.bool ?_)
          have hk : n.kind = 1 := by simpa using ht110
          rw [if_pos (.inl hk)] at hC
          symm; unfold rangesB; rw [hA.1, hA.2.1, hA.2.2, hB, Sp.pieces, if_pos hk]
          have hw : Sp.goodLenW n.data.length n.index n.total = Sp.goodLen n.data.length n.index n.total := by unfold Sp.goodLenW Sp.goodLen; rw [w64 (by omega)]
          rw [hw]; simp [Sp.within, hC.1, hC.2.1, hC.2.2.1]; intro; omega
        · (try simp only [cmpI, errD_nil, Bool.not_eq_true', Bool.not_eq_false', decide_eq_true_eq, decide_eq_false_iff_not] at hc14); have ht110 := hc14
          refine awp_skip ?_
          refine awp_seq ?_
          refine awp_region rfl ?_
          first
            | refine sP (opp_fieldP rfl rfl fld29_7 rfl) rfl rfl ?_
            | refine sP (opp_fieldF rfl rfl rfl fld29_7 rfl rfl) rfl rfl ?_
          first
            | refine sP (opp_loadP rfl rfl rfl rfl bi rfl ty9) rfl rfl ?_
            | refine sP (opp_loadF rfl rfl ty9) rfl rfl ?_
          refine sP (opp_strEq (b := []) rfl rfl rfl (.inl ⟨rfl, rfl⟩)) rfl rfl ?_
          refine sP (opp_as (v := .bool _) rfl rfl) rfl rfl ?_
          refine awp_ret ?_
          repeat (first | refine athen_ret ?_ | refine ain_ret ?_)
          first
            | refine apost_ret (aend1 (r0 := .bool _) (.tmp .nil) (.noN rfl rfl) ⟨Wk.v ?_, rfl, rfl⟩)
            | refine apost_ret (aend1s (r0 := .bool _) (.tmp .nil) shut rfl ⟨Wk.v ?_, rfl, rfl⟩)
          refine .of (congrArg AV.bool ?_)
          have hk : ¬ n.kind = 1 := by simpa using ht110
          symm; unfold rangesB; rw [hA.1, hA.2.1, hA.2.2, hB, Sp.pieces, if_neg hk]
          by_cases h2 : n.kind = 7
          · rw [if_pos (.inr h2)] at hC; rw [if_pos h2]; simp [Sp.within, hC.1, hC.2.1, hC.2.2.1, cmpI]; intro; omega
          · rw [if_neg (by omega)] at hC; rw [if_neg h2]; simp [hC.1, hC.2, cmpI]
theorem c7 (n : Note) : APure (V ea cds gl) 7 [noteAV n] false (.int .i64 (Sp.check n : Nat)) := by
  refine acalls_of_body (N := 14) Tryz.func7 rfl rfl (Nat.le_of_ble_eq_true rfl) fun C hV hN hM hO => ?_
  obtain ⟨_, _, w0, G0, σ0, _, own0⟩ := C; dsimp only at hV hN hM hO; subst hV; subst hN; subst hM
  refine awp_seq ?_
  refine awp_region rfl ?_
  refine sR (opr_box (y := .agg _) (n := 1) rfl rfl rfl) rfl rfl rfl ?_
  refine sP (opp_as (v := .int _ _) rfl rfl) rfl rfl ?_
  refine awp_seq ?_
  refine awp_seq ?_
  refine awp_region rfl ?_
  first
    | refine sP (opp_fieldP rfl rfl fld29_0 rfl) rfl rfl ?_
    | refine sP (opp_fieldF rfl rfl rfl fld29_0 rfl rfl) rfl rfl ?_
  first
    | refine sP (opp_loadP rfl rfl rfl rfl bi rfl ty3) rfl rfl ?_
    | refine sP (opp_loadF rfl rfl ty3) rfl rfl ?_
  refine sP (opp_cmp rfl rfl rfl rfl) rfl rfl ?_
  refine sP (opp_mv (v := .bool _) rfl rfl) rfl rfl ?_
  first
    | refine sG _ rfl rfl rfl rfl (fun hg => (And.intro gi (True.intro))) (fun hg => opp_fieldP rfl rfl fld29_0 rfl) ?_
    | refine sG _ rfl rfl rfl rfl (fun hg => (And.intro gi (True.intro))) (fun hg => opp_fieldF rfl rfl rfl fld29_0 rfl rfl) ?_
  first
    | refine sG _ rfl rfl rfl rfl (fun hg => (And.intro gi (True.intro))) (fun hg => opp_loadP rfl rfl rfl rfl bi rfl ty3) ?_
    | refine sG _ rfl rfl rfl rfl (fun hg => (And.intro gi (True.intro))) (fun hg => opp_loadF rfl rfl ty3) ?_
  refine sG _ rfl rfl rfl rfl (fun hg => (And.intro gi (And.intro gi (True.intro)))) (fun hg => opp_cmp rfl rfl rfl rfl) ?_
  refine sPick rfl rfl rfl rfl (by exact True.intro) rfl rfl (fun hg => gi) (fun hg => gi) ?_
  refine awp_cond _ rfl (fun hc3 => ?_) (fun hc3 => ?_)
  · (try simp only [cmpI, errD_nil, Bool.not_eq_true', Bool.not_eq_false', decide_eq_true_eq, decide_eq_false_iff_not] at hc3); have ht10 := hc3
    refine awp_seq ?_
    refine awp_region rfl ?_
    refine sP (opp_as (v := .int _ _) rfl rfl) rfl rfl ?_
    refine awp_ret ?_
    repeat (first | refine athen_ret ?_ | refine ain_ret ?_)
    first
      | refine apost_ret (aend1 (r0 := .int _ _) (.tmp .nil) (.noN rfl rfl) ⟨Wk.v ?_, rfl, rfl⟩)
      | refine apost_ret (aend1s (r0 := .int _ _) (.tmp .nil) shut rfl ⟨Wk.v ?_, rfl, rfl⟩)
    rw [check_ranges, if_pos]
    · exact .refl
    · simp only [Sp.within, decide_eq_false_iff_not]; by_cases h1 : n.kind < 1 <;> simp [cmpI, h1] at ht10 <;> omega
  · (try simp only [cmpI, errD_nil, Bool.not_eq_true', Bool.not_eq_false', decide_eq_true_eq, decide_eq_false_iff_not] at hc3); have ht10 := hc3
    refine awp_skip ?_
    refine awp_seq ?_
    refine awp_seq ?_
    have hw : ¬ Sp.within n.kind 1 7 = false := by simp only [Sp.within, decide_eq_false_iff_not]; by_cases h1 : n.kind < 1 <;> simp [cmpI, h1] at ht10 <;> omega
    refine awp_region rfl ?_
    first
      | refine sP (opp_loadP rfl rfl rfl rfl bi rfl ty29) rfl rfl ?_
      | refine sP (opp_loadF rfl rfl ty29) rfl rfl ?_
    refine sR (opr_call rfl rfl ent28 rfl (c28 _) (AViews.refl _ rfl)) rfl rfl rfl ?_ -- d=12 t=4
    refine sP (opp_not rfl rfl) rfl rfl ?_
    refine awp_cond _ rfl (fun hc6 => ?_) (fun hc6 => ?_)
    · (try simp only [cmpI, errD_nil, Bool.not_eq_true', Bool.not_eq_false', decide_eq_true_eq, decide_eq_false_iff_not] at hc6); have ht13 := hc6
      refine awp_seq ?_
      refine awp_region rfl ?_
      refine sP (opp_as (v := .int _ _) rfl rfl) rfl rfl ?_
      refine awp_ret ?_
      repeat (first | refine athen_ret ?_ | refine ain_ret ?_)
      first
        | refine apost_ret (aend1 (r0 := .int _ _) (.tmp .nil) (.noN rfl rfl) ⟨Wk.v ?_, rfl, rfl⟩)
        | refine apost_ret (aend1s (r0 := .int _ _) (.tmp .nil) shut rfl ⟨Wk.v ?_, rfl, rfl⟩)
      rw [check_ranges, if_neg hw, if_pos (by simpa using ht13)]; exact .refl
    · (try simp only [cmpI, errD_nil, Bool.not_eq_true', Bool.not_eq_false', decide_eq_true_eq, decide_eq_false_iff_not] at hc6); have ht13 := hc6
      refine awp_skip ?_
      refine awp_seq ?_
      refine awp_region rfl ?_
      refine sP (opp_as (v := .int _ _) rfl rfl) rfl rfl ?_
      refine awp_ret ?_
      repeat (first | refine athen_ret ?_ | refine ain_ret ?_)
      first
        | refine apost_ret (aend1 (r0 := .int _ _) (.tmp .nil) (.noN rfl rfl) ⟨Wk.v ?_, rfl, rfl⟩)
        | refine apost_ret (aend1s (r0 := .int _ _) (.tmp .nil) shut rfl ⟨Wk.v ?_, rfl, rfl⟩)
      rw [check_ranges, if_neg hw, if_neg (by simpa using ht13)]; exact .refl
end
end Go.Proofs.YtgaihhimkodmmaaGreatDoor
/- The laws of layer 20: the errors' codes; any answer; every Cut and Answer (walks over this dump). -/
namespace Go.Proofs.YtgaihhimkodmmaaGreatDoor
attribute [local irreducible] Tryz.prog
open Go.Fy
set_option linter.unusedSimpArgs false
set_option linter.unusedVariables false
section
variable {ea : Nat → Addr} {cds : List Nat} {gl : Nat → Option AV}
theorem c14 (c : Nat) (hc : c ≤ 20) (hS : Sents cds gl) : APure (V ea cds gl) 14 [.err (errD c)] false (.int .i64 c) := by
  refine acalls_of_body (N := 8) Tryz.func14 rfl rfl (Nat.le_of_ble_eq_true rfl) fun C hV hN hM hO => ?_
  obtain ⟨_, _, w0, G0, σ0, _, own0⟩ := C; dsimp only at hV hN hM hO; subst hV; subst hN; subst hM
  refine awp_seq ?_
  refine awp_region rfl ?_
  refine sP (opp_as (v := .int _ _) rfl rfl) rfl rfl ?_
  refine awp_seq ?_
  refine awp_seq ?_
  refine awp_region rfl ?_
  refine sP (opp_mv (v := .err _) rfl rfl) rfl rfl ?_
  refine sR (opr_call rfl rfl ent32 rfl (c32 c hc hS) (AViews.refl _ rfl)) rfl rfl rfl ?_ -- d=4 t=3
  refine sP (opp_cmp rfl rfl rfl rfl) rfl rfl ?_
  refine awp_cond _ rfl (fun hc3 => ?_) (fun hc3 => ?_)
  · (try simp only [cmpI, errD_nil, Bool.not_eq_true', Bool.not_eq_false', decide_eq_true_eq, decide_eq_false_iff_not] at hc3); have ht5 := hc3
    exact absurd ht5 (by simp)
  · (try simp only [cmpI, errD_nil, Bool.not_eq_true', Bool.not_eq_false', decide_eq_true_eq, decide_eq_false_iff_not] at hc3); have ht5 := hc3
    refine awp_skip ?_
    refine awp_seq ?_
    refine awp_region rfl ?_
    refine sP (opp_mv (v := .err _) rfl rfl) rfl rfl ?_
    refine sR (opr_call rfl rfl ent33 rfl (ck33 c hc hS) (AViews.refl _ rfl)) rfl rfl rfl ?_ -- d=7 t=3
    refine sP (opp_as (v := .int _ _) rfl rfl) rfl rfl ?_
    refine awp_ret ?_
    repeat (first | refine athen_ret ?_ | refine ain_ret ?_)
    first
      | refine apost_ret (aend1 (r0 := .int _ _) (.tmp .nil) (.noN rfl rfl) ⟨Wk.v ?_, rfl, rfl⟩)
      | refine apost_ret (aend1s (r0 := .int _ _) (.tmp .nil) shut rfl ⟨Wk.v ?_, rfl, rfl⟩)
    exact .refl
end
end Go.Proofs.YtgaihhimkodmmaaGreatDoor
/- Plain Lean: stages, note by note; the errors' numbers (my own text; no program in sight). -/
set_option linter.unusedSimpArgs false
namespace Go.Fy
namespace Sp
theorem le_check (n : Note) : check n ≤ 20 := by
  unfold check
  by_cases h : within n.kind 1 7 = false
  · rw [if_pos h]; decide
  · rw [if_neg h]; repeat' split
    all_goals decide
theorem le_chunk (n : Note) : chunk n ≤ 20 := by
  have := le_check n
  unfold chunk
  split
  · exact this
  · split <;> decide
theorem le_begin (n : Note) : (begin_ n).2 ≤ 20 := by
  have := le_chunk n
  unfold begin_
  by_cases h : chunk n ≠ 0
  · rw [if_pos h]; exact this
  · rw [if_neg h]; exact Nat.zero_le _
theorem le_add (s : Stage) (n : Note) : (add s n).2.2 ≤ 20 := by
  have := le_chunk n
  unfold add
  by_cases h1 : goodS s = false
  · rw [if_pos h1]; decide
  · rw [if_neg h1]
    by_cases h2 : chunk n ≠ 0
    · rw [if_pos h2]; exact this
    · rw [if_neg h2]
      by_cases h3 : n.part ≠ s.part ∨ n.xid ≠ s.xid ∨ n.stage ≠ s.stage ∨ n.total ≠ s.total
      · rw [if_pos h3]; decide
      · rw [if_neg h3]
        by_cases h4 : s.pieces.getD n.index.toNat [] ≠ [] ∧ s.pieces.getD n.index.toNat [] ≠ n.data
        · rw [if_pos h4]; decide
        · rw [if_neg h4]; exact Nat.zero_le _
theorem le_missing (s : Stage) : (missing s).2 ≤ 20 := by
  unfold missing
  by_cases h : goodS s = false
  · rw [if_pos h]; decide
  · rw [if_neg h]; exact Nat.zero_le _
theorem le_whole (s : Stage) : (whole s).2.2 ≤ 20 := by
  unfold whole
  by_cases h : goodS s = false
  · rw [if_pos h]; decide
  · rw [if_neg h]; split <;> exact Nat.zero_le _
/-- One note more: put onto the stage, or, the first of them, onto none. -/
def step (fr : Bool) (i : Nat) (s : Stage) (n : Note) : Stage × Bool × Nat := if fr = true ∧ i = 0 then ((begin_ n).1, false, (begin_ n).2) else add s n
theorem le_step (fr : Bool) (i : Nat) (s : Stage) (n : Note) : (step fr i s n).2.2 ≤ 20 := by
  unfold step; split
  · exact le_begin n
  · exact le_add s n
theorem begin_len (n : Note) : (begin_ n).1.pieces.length ≤ 32 := by
  unfold begin_
  by_cases h : chunk n ≠ 0
  · rw [if_pos h]; simp [zeroS]
  · rw [if_neg h]
    have := chunk_bounds (n := n) (by simpa using h)
    simp; omega
theorem add_len (s : Stage) (n : Note) : (add s n).1.pieces.length ≤ s.pieces.length := by
  unfold add
  repeat' split
  all_goals simp [zeroS]
theorem step_len (fr : Bool) (i : Nat) (s : Stage) (n : Note) (B : Nat) (hB : 32 ≤ B) (hs : s.pieces.length ≤ B) : (step fr i s n).1.pieces.length ≤ B := by
  have h1 := begin_len n
  have h2 := add_len s n
  unfold step; split
  · show (begin_ n).1.pieces.length ≤ _; omega
  · omega
/-- The stage that goes on. -/
def nextS (fr : Bool) (i : Nat) (s : Stage) (n : Note) : Stage := if (step fr i s n).2.2 = 0 then (step fr i s n).1 else s
def nextB (fr : Bool) (i : Nat) (b : Bool) (s : Stage) (n : Note) : Bool := if (step fr i s n).2.2 = 0 then false else b
theorem next_len (fr : Bool) (i : Nat) (b : Bool) (s : Stage) (n : Note) (B : Nat) (hB : 32 ≤ B) (hs : s.pieces.length ≤ B) (hb : b = true → s.pieces.length = 0) :
    (nextS fr i s n).pieces.length ≤ B ∧ (nextB fr i b s n = true → (nextS fr i s n).pieces.length = 0) := by
  unfold nextS nextB
  by_cases h : (step fr i s n).2.2 = 0
  · rw [if_pos h, if_pos h]; exact ⟨step_len fr i s n B hB hs, fun h => by cases h⟩
  · rw [if_neg h, if_neg h]; exact ⟨hs, hb⟩
theorem missing_len (s : Stage) : (missing s).1.length ≤ s.pieces.length := by
  unfold missing
  by_cases h : goodS s = false
  · rw [if_pos h]; exact Nat.zero_le _
  · rw [if_neg h, List.length_map]; exact Nat.le_trans (List.length_filter_le _ _) (by simp)
end Sp
end Go.Fy
