/- My own texts, packed: KYx, KZx, K6x, K7x, K8x, KBx, L1x, KKx, KCx, KDx, KEx, KLx, KFx, KMx, KHx, KNx, L2x, L3x, S8. -/
import Derived.Test.YtgaihhimkodmmaaDoorM6
import Derived.Test.YtgaihhimkodmmaaDoorM3
import Derived.Test.YtgaihhimkodmmaaDoorM1
import Derived.Test.YtgaihhimkodmmaaDoorM4
import Derived.Test.YtgaihhimkodmmaaDoorM5
/- Layer 20: a note's bytes (walks over this dump). -/
namespace Go.Proofs.YtgaihhimkodmmaaDoor
attribute [local irreducible] Tryd.prog
open Go.Fy
set_option linter.unusedSimpArgs false
set_option linter.unusedVariables false
section
variable {ea : Nat → Addr} {cds : List Nat} {gl : Nat → Option AV}
theorem cbad15 (n : Note) (hc : Sp.check n ≠ 0) (hG4 : gl 4 = some (.err (.code 7))) (hG8 : gl 8 = some (.err (.code 4))) : APure (V ea cds gl) 15 [noteAV n] false (.tup [.str [], .err (errD (Sp.check n))]) := by
  refine acalls_of_body (N := 88) Tryd.func15 rfl rfl (Nat.le_of_ble_eq_true rfl) fun C hV hN hM hO => ?_
  obtain ⟨_, _, w0, G0, σ0, _, own0⟩ := C; dsimp only at hV hN hM hO; subst hV; subst hN; subst hM
  refine awp_seq ?_
  refine awp_region rfl ?_
  refine sR (opr_box (y := .agg _) (n := 1) rfl rfl rfl) rfl rfl rfl ?_
  refine sP (opp_as (v := .str _) rfl rfl) rfl rfl ?_
  refine sP (opp_as (v := .err _) rfl rfl) rfl rfl ?_
  refine awp_seq ?_
  refine awp_seq ?_
  refine awp_region rfl ?_
  first
    | refine sP (opp_loadP rfl rfl rfl rfl bi rfl ty26) rfl rfl ?_
    | refine sP (opp_loadF rfl rfl ty26) rfl rfl ?_
  refine sR (opr_call rfl rfl ent47 rfl (c47 _ hG4 hG8) (AViews.refl _ rfl)) rfl rfl rfl ?_ -- d=13 t=29
  refine sP (opp_as (v := .err _) rfl rfl) rfl rfl ?_
  refine awp_seq ?_
  refine awp_region rfl ?_
  refine sP (opp_mv (v := .err _) rfl rfl) rfl rfl ?_
  refine sP (opp_errNil rfl rfl rfl un29 (.inr ⟨rfl, rfl⟩)) rfl rfl ?_
  refine awp_cond _ rfl (fun hc4 => ?_) (fun hc4 => ?_)
  · (try simp only [cmpI, errD_nil, Bool.not_eq_true', Bool.not_eq_false', decide_eq_true_eq, decide_eq_false_iff_not] at hc4); have ht15 := hc4
    refine awp_seq ?_
    refine awp_region rfl ?_
    refine sP (opp_mv (v := .err _) rfl rfl) rfl rfl ?_
    refine sP (opp_as (v := .str _) rfl rfl) rfl rfl ?_
    refine sP (opp_as (v := .err _) rfl rfl) rfl rfl ?_
    refine awp_ret ?_
    repeat (first | refine athen_ret ?_ | refine ain_ret ?_)
    first
      | refine apost_ret (aend (l := [.str _, .err _]) (.tmp (.tmp .nil)) (fun h => by cases h) (.cons (.noN rfl rfl) (.cons (.noN rfl rfl) .nil)) ⟨Wk.v ?_, rfl, rfl⟩)
      | refine apost_ret (aends (l := [.str _, .err _]) (.tmp (.tmp .nil)) (fun h => by cases h) (.cons shut (fun h => by cases h) (.cons shut (fun h => by cases h) .nil)) rfl ⟨Wk.v ?_, rfl, rfl⟩)
    exact .refl
  · (try simp only [cmpI, errD_nil, Bool.not_eq_true', Bool.not_eq_false', decide_eq_true_eq, decide_eq_false_iff_not] at hc4); have ht15 := hc4
    exact absurd ht15 hc
theorem nums3 (a b c j : Nat) (hj : j < 3) (x : AV) : (if j = 2 then AV.int .i64 (c : Int) else if j = 1 then AV.int .i64 (b : Int) else if j = 0 then AV.int .i64 (a : Int) else x) = AV.int .i64 ((([a, b, c] : List Nat).getD j 0 : Nat) : Int) := by
  have : j = 0 ∨ j = 1 ∨ j = 2 := by omega
  rcases this with rfl | rfl | rfl <;> rfl
theorem cfine15 (k p bo pe nu st ix to su : Nat) (d : List UInt8) (hc : Sp.check ⟨k, p, ⟨bo, pe, nu⟩, st, ix, to, su, d⟩ = 0) (hs : su ≤ 4294967295) (hG4 : gl 4 = some (.err (.code 7))) (hG8 : gl 8 = some (.err (.code 4))) :
    APure (V ea cds gl) 15 [noteAV ⟨k, p, ⟨bo, pe, nu⟩, st, ix, to, su, d⟩] false (.tup [.str (Sp.crcSeal (Sp.noteBytes ⟨k, p, ⟨bo, pe, nu⟩, st, ix, to, su, d⟩)), .err .nil]) := by
  have hb := Sp.check_bounds hc
  dsimp only at hb
  refine acalls_of_body (N := 88) Tryd.func15 rfl rfl (Nat.le_of_ble_eq_true rfl) fun C hV hN hM hO => ?_
  obtain ⟨_, _, w0, G0, σ0, _, own0⟩ := C; dsimp only at hV hN hM hO; subst hV; subst hN; subst hM
  refine awp_seq ?_
  refine awp_region rfl ?_
  refine sR (opr_box (y := .agg _) (n := 1) rfl rfl rfl) rfl rfl rfl ?_
  refine sP (opp_as (v := .str _) rfl rfl) rfl rfl ?_
  refine sP (opp_as (v := .err _) rfl rfl) rfl rfl ?_
  refine awp_seq ?_
  refine awp_seq ?_
  refine awp_region rfl ?_
  first
    | refine sP (opp_loadP rfl rfl rfl rfl bi rfl ty26) rfl rfl ?_
    | refine sP (opp_loadF rfl rfl ty26) rfl rfl ?_
  refine sR (opr_call rfl rfl ent47 rfl (c47 _ hG4 hG8) (AViews.refl _ rfl)) rfl rfl rfl ?_ -- d=13 t=29
  refine sP (opp_as (v := .err _) rfl rfl) rfl rfl ?_
  refine awp_seq ?_
  refine awp_region rfl ?_
  refine sP (opp_mv (v := .err _) rfl rfl) rfl rfl ?_
  refine sP (opp_errNil rfl rfl rfl un29 (.inr ⟨rfl, rfl⟩)) rfl rfl ?_
  refine awp_cond _ rfl (fun hc4 => ?_) (fun hc4 => ?_)
  · (try simp only [cmpI, errD_nil, Bool.not_eq_true', Bool.not_eq_false', decide_eq_true_eq, decide_eq_false_iff_not] at hc4); have ht15 := hc4
    exact absurd hc ht15
  · (try simp only [cmpI, errD_nil, Bool.not_eq_true', Bool.not_eq_false', decide_eq_true_eq, decide_eq_false_iff_not] at hc4); have ht15 := hc4
    refine awp_skip ?_
    refine awp_seq ?_
    refine awp_region rfl ?_
    first
        | refine sR (opr_callO (rl := [(2, 17)]) (r1 := .val _) (H1 := [(17, some (.agg [.sl _ _ _ _, .err _]))]) (n1 := [17]) rfl rfl ent65 rfl co65 (AViews.refl _ rfl) rfl rfl rfl rfl) rfl rfl rfl ?_
        | refine sR (opr_callO (rl := [(2, 17)]) (r1 := .fptr _) (H1 := [(17, some (.agg [.sl _ _ _ _, .err _]))]) (n1 := [17]) rfl rfl ent65 rfl co65 (AViews.refl _ rfl) rfl rfl rfl rfl) rfl rfl rfl ?_
        | refine sR (opr_callO (rl := [(2, 17)]) (r1 := .ptr _ _ _) (H1 := [(17, some (.agg [.sl _ _ _ _, .err _]))]) (n1 := [17]) rfl rfl ent65 rfl co65 (AViews.refl _ rfl) rfl rfl rfl rfl) rfl rfl rfl ?_
    first
      | refine sP (opp_as (v := .ptr _ _ _) rfl rfl) rfl rfl ?_
      | refine sP (opp_as (v := .fptr _) rfl rfl) rfl rfl ?_
    refine awp_seq ?_
    refine awp_region rfl ?_
    first
      | refine sP (opp_mv (v := .ptr _ _ _) rfl rfl) rfl rfl ?_
      | refine sP (opp_mv (v := .fptr _) rfl rfl) rfl rfl ?_
    first
      | refine sP (opp_fieldP rfl rfl fld26_7 rfl) rfl rfl ?_
      | refine sP (opp_fieldF rfl rfl rfl fld26_7 rfl rfl) rfl rfl ?_
    first
      | refine sP (opp_loadP rfl rfl rfl rfl bi rfl ty9) rfl rfl ?_
      | refine sP (opp_loadF rfl rfl ty9) rfl rfl ?_
    refine sP (opp_lenStr rfl rfl un9) rfl rfl ?_
    first
      | refine sP (opp_arith rfl rfl rfl (.inl ⟨rfl, w64 (by omega)⟩)) rfl rfl ?_
      | refine sP (opp_arith rfl rfl rfl (.inl ⟨rfl, rfl⟩)) rfl rfl ?_
    rw [show IntKind.i64.wrap (27 + (d.length : Int)) = ((27 + d.length : Nat) : Int) by rw [w64 (by omega)]; omega]
    refine sR (opr_callG (rl := [(1, 17), (1004, 1023)]) (r1 := .tup []) (H1 := [(17, some (.agg [.osl 1023 _ _ _ _, .err _])), (1023, some (.arr _ _ _))]) (n1 := [1023]) rfl rfl ent66 (cg66n (27 + d.length) (by omega)) (And.intro (And.intro rfl wka) (And.intro (And.intro rfl wka) True.intro)) (And.intro (And.intro rfl (Exists.intro _ (And.intro rfl wkc))) True.intro) rfl rfl rfl rfl) rfl rfl rfl ?_
    refine awp_seq ?_
    refine awp_region rfl ?_
    first
      | refine sP (opp_mv (v := .ptr _ _ _) rfl rfl) rfl rfl ?_
      | refine sP (opp_mv (v := .fptr _) rfl rfl) rfl rfl ?_
    first
      | refine sP (opp_fieldP rfl rfl fld26_0 rfl) rfl rfl ?_
      | refine sP (opp_fieldF rfl rfl rfl fld26_0 rfl rfl) rfl rfl ?_
    first
      | refine sP (opp_loadP rfl rfl rfl rfl bi rfl ty3) rfl rfl ?_
      | refine sP (opp_loadF rfl rfl ty3) rfl rfl ?_
    refine sR (opr_callG (rl := [(1, 17), (2, 1023), (1004, 1027)]) (r1 := .tup []) (H1 := [(17, some (.agg [.osl 1027 _ _ _ _, .err _])), (1023, none), (1027, some (.arr _ _ _))]) (n1 := [1027]) rfl rfl ent67 (cg67r (Sp.be (27 + d.length) 2) k (by omega) (by rw [Sp.be_length]; omega)) (And.intro (And.intro rfl wka) (And.intro (And.intro rfl wka) True.intro)) (And.intro (And.intro rfl (Exists.intro _ (And.intro rfl wkc))) (And.intro (And.intro rfl (Exists.intro _ (And.intro rfl wkc))) True.intro)) rfl rfl rfl rfl) rfl rfl rfl ?_
    refine awp_seq ?_
    refine awp_region rfl ?_
    first
      | refine sP (opp_mv (v := .ptr _ _ _) rfl rfl) rfl rfl ?_
      | refine sP (opp_mv (v := .fptr _) rfl rfl) rfl rfl ?_
    first
      | refine sP (opp_fieldP rfl rfl fld26_1 rfl) rfl rfl ?_
      | refine sP (opp_fieldF rfl rfl rfl fld26_1 rfl rfl) rfl rfl ?_
    first
      | refine sP (opp_loadP rfl rfl rfl rfl bi rfl ty3) rfl rfl ?_
      | refine sP (opp_loadF rfl rfl ty3) rfl rfl ?_
    refine sR (opr_callG (rl := [(1, 17), (2, 1027), (1004, 1031)]) (r1 := .tup []) (H1 := [(17, some (.agg [.osl 1031 _ _ _ _, .err _])), (1027, none), (1031, some (.arr _ _ _))]) (n1 := [1031]) rfl rfl ent67 (cg67r (Sp.be (27 + d.length) 2 ++ Sp.be k 1) p (by omega) (by simp only [List.length_append, Sp.be_length]; omega)) (And.intro (And.intro rfl wka) (And.intro (And.intro rfl wka) True.intro)) (And.intro (And.intro rfl (Exists.intro _ (And.intro rfl wkc))) (And.intro (And.intro rfl (Exists.intro _ (And.intro rfl wkc))) True.intro)) rfl rfl rfl rfl) rfl rfl rfl ?_
    refine awp_seq ?_
    refine awp_seq ?_
    refine awp_region rfl ?_
    first
      | refine sP (opp_fieldP rfl rfl fld26_2 rfl) rfl rfl ?_
      | refine sP (opp_fieldF rfl rfl rfl fld26_2 rfl rfl) rfl rfl ?_
    first
      | refine sP (opp_fieldP rfl rfl fld23_0 rfl) rfl rfl ?_
      | refine sP (opp_fieldF rfl rfl rfl fld23_0 rfl rfl) rfl rfl ?_
    first
      | refine sP (opp_loadP rfl rfl rfl rfl bi rfl ty3) rfl rfl ?_
      | refine sP (opp_loadF rfl rfl ty3) rfl rfl ?_
    first
      | refine sP (opp_fieldP rfl rfl fld26_2 rfl) rfl rfl ?_
      | refine sP (opp_fieldF rfl rfl rfl fld26_2 rfl rfl) rfl rfl ?_
    first
      | refine sP (opp_fieldP rfl rfl fld23_1 rfl) rfl rfl ?_
      | refine sP (opp_fieldF rfl rfl rfl fld23_1 rfl rfl) rfl rfl ?_
    first
      | refine sP (opp_loadP rfl rfl rfl rfl bi rfl ty3) rfl rfl ?_
      | refine sP (opp_loadF rfl rfl ty3) rfl rfl ?_
    first
      | refine sP (opp_fieldP rfl rfl fld26_2 rfl) rfl rfl ?_
      | refine sP (opp_fieldF rfl rfl rfl fld26_2 rfl rfl) rfl rfl ?_
    first
      | refine sP (opp_fieldP rfl rfl fld23_2 rfl) rfl rfl ?_
      | refine sP (opp_fieldF rfl rfl rfl fld23_2 rfl rfl) rfl rfl ?_
    first
      | refine sP (opp_loadP rfl rfl rfl rfl bi rfl ty3) rfl rfl ?_
      | refine sP (opp_loadF rfl rfl ty3) rfl rfl ?_
    refine sR (opr_buildSlice (n := 41) (g := fun j => if j = 2 then .int _ _ else if j = 1 then .int _ _ else if j = 0 then .int _ _ else .int .i64 0) rfl eb42 z3 (by decide) rfl rfl) rfl rfl rfl ?_
    first
      | refine sP (opp_lenSl rfl rfl un42) rfl rfl ?_
      | refine sP (opp_lenOsl rfl rfl un42) rfl rfl ?_
    refine sP (opp_mv (v := .int _ _) rfl rfl) rfl rfl ?_
    refine awp_block ?_
    refine awp_loopK (ι := Nat) (fun i => i ≤ 3) (fun i => [(7, .top), (43, .int .i64 (i : Int)), (44, .top), (45, .top), (46, .top), (47, .top), (48, .top), (49, .top), (50, .top)]) (fun i => [(17, some (.agg [.osl 1200 1 0 (Sp.be (27 + d.length) 2 ++ Sp.be k 1 ++ Sp.be p 1 ++ Sp.bes 4 ([bo, pe, nu].take i)).length (Sp.be (27 + d.length) 2 ++ Sp.be k 1 ++ Sp.be p 1 ++ Sp.bes 4 ([bo, pe, nu].take i)).length, .err .nil])), (1031, none), (41, some (.arr 1 3 (fun j => .int .i64 ((([bo, pe, nu] : List Nat).getD j 0 : Nat) : Int)))), (1200, some (.arr 1 (Sp.be (27 + d.length) 2 ++ Sp.be k 1 ++ Sp.be p 1 ++ Sp.bes 4 ([bo, pe, nu].take i)).length (bAt (Sp.be (27 + d.length) 2 ++ Sp.be k 1 ++ Sp.be p 1 ++ Sp.bes 4 ([bo, pe, nu].take i)))))]) [1200] (fun i => 3 - i) (0) (Nat.zero_le _) (by
      refine imp_over [(1200, 1031)] rfl rfl (by kernel_rfl) ?_ ?_
      · refine And.intro wkv ?_
        refine And.intro wkv ?_
        refine And.intro wkv ?_
        refine And.intro wkv ?_
        refine And.intro wkv ?_
        refine And.intro wkv ?_
        refine And.intro wkv ?_
        refine And.intro wkv ?_
        refine And.intro wkv ?_
        exact True.intro
      · refine And.intro (And.intro rfl (And.intro rfl (Exists.intro _ (And.intro rfl (by exact WkC.of (by show AV.agg [AV.osl 1031 1 0 _ _, AV.err .nil] = AV.agg [AV.osl 1031 1 0 _ _, AV.err .nil]; simp [Sp.bes])))))) ?_
        refine And.intro (And.intro rfl (And.intro rfl (Exists.intro _ (And.intro rfl (by exact WkC.arr (fun j hj => nums3 _ _ _ j hj _)))))) ?_
        refine And.intro (And.intro rfl (And.intro rfl (Exists.intro _ (And.intro rfl (by exact WkC.of (by show AV.arr 1 _ _ = AV.arr 1 _ _; simp [Sp.bes])))))) ?_
        exact True.intro
      ) ?_
    intro i hi1
    refine awp_seq ?_
    refine awp_region rfl ?_
    refine sP (opp_cmp rfl rfl rfl rfl) rfl rfl ?_
    refine awp_seq ?_
    refine awp_cond _ rfl (fun hc11 => ?_) (fun hc11 => ?_)
    · (try simp only [cmpI, errD_nil, Bool.not_eq_true', Bool.not_eq_false', decide_eq_true_eq, decide_eq_false_iff_not] at hc11); have ht44 := hc11
      refine awp_skip ?_
      refine awp_seq ?_
      refine awp_block ?_
      refine awp_seq ?_
      refine awp_region rfl ?_
      first
        | refine sP (opp_indexSl rfl rfl rfl el42 (by omega) (by omega)) rfl rfl ?_
        | refine sP (opp_indexOsl0 rfl rfl rfl el42 (by omega) (by omega)) rfl rfl ?_
        | refine sP (opp_indexOsl rfl rfl rfl el42 (by omega) (by omega)) rfl rfl ?_
      first
        | refine sP (opp_loadP rfl rfl rfl rfl bi rfl ty3) rfl rfl ?_
        | refine sP (opp_loadF rfl rfl ty3) rfl rfl ?_
      refine sP (opp_as (v := .int _ _) rfl rfl) rfl rfl ?_
      refine awp_region rfl ?_
      have hx : (([bo, pe, nu] : List Nat).getD i 0) < 4294967296 := by
        have : i = 0 ∨ i = 1 ∨ i = 2 := by omega
        rcases this with rfl | rfl | rfl <;> simp <;> omega
      first
        | refine sP (opp_mv (v := .ptr _ _ _) rfl rfl) rfl rfl ?_
        | refine sP (opp_mv (v := .fptr _) rfl rfl) rfl rfl ?_
      refine sP (opp_mv (v := .int _ _) rfl rfl) rfl rfl ?_
      refine sR (opr_callG (rl := [(1, 17), (2, 1200), (1004, 1049)]) (r1 := .tup []) (H1 := [(17, some (.agg [.osl 1049 _ _ _ _, .err _])), (1200, none), (1049, some (.arr _ _ _))]) (n1 := [1049]) rfl rfl ent68 (cg68r (Sp.be (27 + d.length) 2 ++ Sp.be k 1 ++ Sp.be p 1 ++ Sp.bes 4 ([bo, pe, nu].take i)) (([bo, pe, nu] : List Nat).getD i 0) hx (by simp only [List.length_append, Sp.be_length, Sp.bes_length, List.length_take]; omega)) (And.intro (And.intro rfl wka) (And.intro (And.intro rfl wka) True.intro)) (And.intro (And.intro rfl (Exists.intro _ (And.intro rfl wkc))) (And.intro (And.intro rfl (Exists.intro _ (And.intro rfl wkc))) True.intro)) rfl rfl rfl rfl) rfl rfl rfl ?_
      refine awp_region rfl ?_
      first
        | refine sP (opp_arith rfl rfl rfl (.inl ⟨rfl, w64 (by omega)⟩)) rfl rfl ?_
        | refine sP (opp_arith rfl rfl rfl (.inl ⟨rfl, rfl⟩)) rfl rfl ?_
      refine sP (opp_mv (v := .int _ _) rfl rfl) rfl rfl ?_
      refine Exists.intro (i + 1) (And.intro (And.intro (by omega) (by omega)) (by
        refine imp_over [(1200, 1049)] rfl rfl (by kernel_rfl) ?_ ?_
        · refine And.intro wkv ?_
          refine And.intro wkv ?_
          refine And.intro wkv ?_
          refine And.intro wkv ?_
          refine And.intro wkv ?_
          refine And.intro wkv ?_
          refine And.intro wkv ?_
          refine And.intro wkv ?_
          refine And.intro wkv ?_
          exact True.intro
        · refine And.intro (And.intro rfl (And.intro rfl (Exists.intro _ (And.intro rfl (by exact WkC.of (by show AV.agg [AV.osl 1049 1 0 _ _, AV.err .nil] = AV.agg [AV.osl 1049 1 0 _ _, AV.err .nil]; rw [Sp.bes_take 4 [bo, pe, nu] i (by show i < 3; omega)]; simp only [List.append_assoc])))))) ?_
          refine And.intro (And.intro rfl (And.intro rfl (Exists.intro _ (And.intro rfl wkc)))) ?_
          refine And.intro (And.intro rfl (And.intro rfl (Exists.intro _ (And.intro rfl (by exact WkC.of (by show AV.arr 1 _ _ = AV.arr 1 _ _; rw [Sp.bes_take 4 [bo, pe, nu] i (by show i < 3; omega)]; simp only [List.append_assoc])))))) ?_
          exact True.intro
        ))
    · (try simp only [cmpI, errD_nil, Bool.not_eq_true', Bool.not_eq_false', decide_eq_true_eq, decide_eq_false_iff_not] at hc11); have ht44 := hc11
      refine awp_exit ?_
      refine awp_seq ?_
      refine awp_seq ?_
      obtain rfl : i = 3 := by omega
      refine awp_region rfl ?_
      first
        | refine sP (opp_fieldP rfl rfl fld26_3 rfl) rfl rfl ?_
        | refine sP (opp_fieldF rfl rfl rfl fld26_3 rfl rfl) rfl rfl ?_
      first
        | refine sP (opp_loadP rfl rfl rfl rfl bi rfl ty3) rfl rfl ?_
        | refine sP (opp_loadF rfl rfl ty3) rfl rfl ?_
      first
        | refine sP (opp_fieldP rfl rfl fld26_4 rfl) rfl rfl ?_
        | refine sP (opp_fieldF rfl rfl rfl fld26_4 rfl rfl) rfl rfl ?_
      first
        | refine sP (opp_loadP rfl rfl rfl rfl bi rfl ty3) rfl rfl ?_
        | refine sP (opp_loadF rfl rfl ty3) rfl rfl ?_
      first
        | refine sP (opp_fieldP rfl rfl fld26_5 rfl) rfl rfl ?_
        | refine sP (opp_fieldF rfl rfl rfl fld26_5 rfl rfl) rfl rfl ?_
      first
        | refine sP (opp_loadP rfl rfl rfl rfl bi rfl ty3) rfl rfl ?_
        | refine sP (opp_loadF rfl rfl ty3) rfl rfl ?_
      refine sR (opr_buildSlice (n := 57) (g := fun j => if j = 2 then .int _ _ else if j = 1 then .int _ _ else if j = 0 then .int _ _ else .int .i64 0) rfl eb42 z3 (by decide) rfl rfl) rfl rfl rfl ?_
      first
        | refine sP (opp_lenSl rfl rfl un42) rfl rfl ?_
        | refine sP (opp_lenOsl rfl rfl un42) rfl rfl ?_
      refine sP (opp_mv (v := .int _ _) rfl rfl) rfl rfl ?_
      refine awp_block ?_
      refine awp_loopK (ι := Nat) (fun i => i ≤ 3) (fun i => [(9, .top), (59, .int .i64 (i : Int)), (60, .top), (61, .top), (62, .top), (63, .top), (64, .top), (65, .top), (66, .top)]) (fun i => [(17, some (.agg [.osl 1300 1 0 (Sp.be (27 + d.length) 2 ++ Sp.be k 1 ++ Sp.be p 1 ++ Sp.bes 4 [bo, pe, nu] ++ Sp.bes 1 ([st, ix, to].take i)).length (Sp.be (27 + d.length) 2 ++ Sp.be k 1 ++ Sp.be p 1 ++ Sp.bes 4 [bo, pe, nu] ++ Sp.bes 1 ([st, ix, to].take i)).length, .err .nil])), (1200, none), (57, some (.arr 1 3 (fun j => .int .i64 ((([st, ix, to] : List Nat).getD j 0 : Nat) : Int)))), (1300, some (.arr 1 (Sp.be (27 + d.length) 2 ++ Sp.be k 1 ++ Sp.be p 1 ++ Sp.bes 4 [bo, pe, nu] ++ Sp.bes 1 ([st, ix, to].take i)).length (bAt (Sp.be (27 + d.length) 2 ++ Sp.be k 1 ++ Sp.be p 1 ++ Sp.bes 4 [bo, pe, nu] ++ Sp.bes 1 ([st, ix, to].take i)))))]) [1300] (fun i => 3 - i) (0) (Nat.zero_le _) (by
        refine imp_over [(1300, 1200)] rfl rfl (by kernel_rfl) ?_ ?_
        · refine And.intro wkv ?_
          refine And.intro wkv ?_
          refine And.intro wkv ?_
          refine And.intro wkv ?_
          refine And.intro wkv ?_
          refine And.intro wkv ?_
          refine And.intro wkv ?_
          refine And.intro wkv ?_
          refine And.intro wkv ?_
          exact True.intro
        · refine And.intro (And.intro rfl (And.intro rfl (Exists.intro _ (And.intro rfl (by exact WkC.of (by show AV.agg [AV.osl 1200 1 0 _ _, AV.err .nil] = AV.agg [AV.osl 1200 1 0 _ _, AV.err .nil]; simp [Sp.bes])))))) ?_
          refine And.intro (And.intro rfl (And.intro rfl (Exists.intro _ (And.intro rfl (by exact WkC.arr (fun j hj => nums3 _ _ _ j hj _)))))) ?_
          refine And.intro (And.intro rfl (And.intro rfl (Exists.intro _ (And.intro rfl (by exact WkC.of (by show AV.arr 1 _ _ = AV.arr 1 _ _; simp [Sp.bes])))))) ?_
          exact True.intro
        ) ?_
      intro i hi2
      refine awp_seq ?_
      refine awp_region rfl ?_
      refine sP (opp_cmp rfl rfl rfl rfl) rfl rfl ?_
      refine awp_seq ?_
      refine awp_cond _ rfl (fun hc17 => ?_) (fun hc17 => ?_)
      · (try simp only [cmpI, errD_nil, Bool.not_eq_true', Bool.not_eq_false', decide_eq_true_eq, decide_eq_false_iff_not] at hc17); have ht60 := hc17
        refine awp_skip ?_
        refine awp_seq ?_
        refine awp_block ?_
        refine awp_seq ?_
        refine awp_region rfl ?_
        first
          | refine sP (opp_indexSl rfl rfl rfl el42 (by omega) (by omega)) rfl rfl ?_
          | refine sP (opp_indexOsl0 rfl rfl rfl el42 (by omega) (by omega)) rfl rfl ?_
          | refine sP (opp_indexOsl rfl rfl rfl el42 (by omega) (by omega)) rfl rfl ?_
        first
          | refine sP (opp_loadP rfl rfl rfl rfl bi rfl ty3) rfl rfl ?_
          | refine sP (opp_loadF rfl rfl ty3) rfl rfl ?_
        refine sP (opp_as (v := .int _ _) rfl rfl) rfl rfl ?_
        refine awp_region rfl ?_
        have hx : (([st, ix, to] : List Nat).getD i 0) < 256 := by
          have : i = 0 ∨ i = 1 ∨ i = 2 := by omega
          rcases this with rfl | rfl | rfl <;> simp <;> omega
        first
          | refine sP (opp_mv (v := .ptr _ _ _) rfl rfl) rfl rfl ?_
          | refine sP (opp_mv (v := .fptr _) rfl rfl) rfl rfl ?_
        refine sP (opp_mv (v := .int _ _) rfl rfl) rfl rfl ?_
        refine sR (opr_callG (rl := [(1, 17), (2, 1300), (1004, 1065)]) (r1 := .tup []) (H1 := [(17, some (.agg [.osl 1065 _ _ _ _, .err _])), (1300, none), (1065, some (.arr _ _ _))]) (n1 := [1065]) rfl rfl ent67 (cg67r (Sp.be (27 + d.length) 2 ++ Sp.be k 1 ++ Sp.be p 1 ++ Sp.bes 4 [bo, pe, nu] ++ Sp.bes 1 ([st, ix, to].take i)) (([st, ix, to] : List Nat).getD i 0) hx (by simp only [List.length_append, Sp.be_length, Sp.bes_length, List.length_take, List.length_cons, List.length_nil]; omega)) (And.intro (And.intro rfl wka) (And.intro (And.intro rfl wka) True.intro)) (And.intro (And.intro rfl (Exists.intro _ (And.intro rfl wkc))) (And.intro (And.intro rfl (Exists.intro _ (And.intro rfl wkc))) True.intro)) rfl rfl rfl rfl) rfl rfl rfl ?_
        refine awp_region rfl ?_
        first
          | refine sP (opp_arith rfl rfl rfl (.inl ⟨rfl, w64 (by omega)⟩)) rfl rfl ?_
          | refine sP (opp_arith rfl rfl rfl (.inl ⟨rfl, rfl⟩)) rfl rfl ?_
        refine sP (opp_mv (v := .int _ _) rfl rfl) rfl rfl ?_
        refine Exists.intro (i + 1) (And.intro (And.intro (by omega) (by omega)) (by
          refine imp_over [(1300, 1065)] rfl rfl (by kernel_rfl) ?_ ?_
          · refine And.intro wkv ?_
            refine And.intro wkv ?_
            refine And.intro wkv ?_
            refine And.intro wkv ?_
            refine And.intro wkv ?_
            refine And.intro wkv ?_
            refine And.intro wkv ?_
            refine And.intro wkv ?_
            refine And.intro wkv ?_
            exact True.intro
          · refine And.intro (And.intro rfl (And.intro rfl (Exists.intro _ (And.intro rfl (by exact WkC.of (by show AV.agg [AV.osl 1065 1 0 _ _, AV.err .nil] = AV.agg [AV.osl 1065 1 0 _ _, AV.err .nil]; rw [Sp.bes_take 1 [st, ix, to] i (by show i < 3; omega)]; simp only [List.append_assoc])))))) ?_
            refine And.intro (And.intro rfl (And.intro rfl (Exists.intro _ (And.intro rfl wkc)))) ?_
            refine And.intro (And.intro rfl (And.intro rfl (Exists.intro _ (And.intro rfl (by exact WkC.of (by show AV.arr 1 _ _ = AV.arr 1 _ _; rw [Sp.bes_take 1 [st, ix, to] i (by show i < 3; omega)]; simp only [List.append_assoc])))))) ?_
            exact True.intro
          ))
      · (try simp only [cmpI, errD_nil, Bool.not_eq_true', Bool.not_eq_false', decide_eq_true_eq, decide_eq_false_iff_not] at hc17); have ht60 := hc17
        refine awp_exit ?_
        refine awp_seq ?_
        obtain rfl : i = 3 := by omega
        refine awp_region rfl ?_
        first
          | refine sP (opp_mv (v := .ptr _ _ _) rfl rfl) rfl rfl ?_
          | refine sP (opp_mv (v := .fptr _) rfl rfl) rfl rfl ?_
        first
          | refine sP (opp_fieldP rfl rfl fld26_6 rfl) rfl rfl ?_
          | refine sP (opp_fieldF rfl rfl rfl fld26_6 rfl rfl) rfl rfl ?_
        first
          | refine sP (opp_loadP rfl rfl rfl rfl bi rfl ty24) rfl rfl ?_
          | refine sP (opp_loadF rfl rfl ty24) rfl rfl ?_
        first
          | refine sP (opp_convInt rfl rfl un24s un3 (w64 (by omega))) rfl rfl ?_
          | refine sP (opp_convInt rfl rfl un24s un3 rfl) rfl rfl ?_
        rw [show IntKind.i64.wrap (su : Int) = (su : Int) from w64 (by omega)]
        refine sR (opr_callG (rl := [(1, 17), (2, 1300), (1004, 1071)]) (r1 := .tup []) (H1 := [(17, some (.agg [.osl 1071 _ _ _ _, .err _])), (1300, none), (1071, some (.arr _ _ _))]) (n1 := [1071]) rfl rfl ent68 (cg68r (Sp.be (27 + d.length) 2 ++ Sp.be k 1 ++ Sp.be p 1 ++ Sp.bes 4 [bo, pe, nu] ++ Sp.bes 1 [st, ix, to]) su (by omega) (by simp only [List.length_append, Sp.be_length, Sp.bes_length, List.length_cons, List.length_nil]; omega)) (And.intro (And.intro rfl wka) (And.intro (And.intro rfl wka) True.intro)) (And.intro (And.intro rfl (Exists.intro _ (And.intro rfl wkc))) (And.intro (And.intro rfl (Exists.intro _ (And.intro rfl wkc))) True.intro)) rfl rfl rfl rfl) rfl rfl rfl ?_
        refine awp_seq ?_
        refine awp_region rfl ?_
        first
          | refine sP (opp_mv (v := .ptr _ _ _) rfl rfl) rfl rfl ?_
          | refine sP (opp_mv (v := .fptr _) rfl rfl) rfl rfl ?_
        first
          | refine sP (opp_fieldP rfl rfl fld26_7 rfl) rfl rfl ?_
          | refine sP (opp_fieldF rfl rfl rfl fld26_7 rfl rfl) rfl rfl ?_
        first
          | refine sP (opp_loadP rfl rfl rfl rfl bi rfl ty9) rfl rfl ?_
          | refine sP (opp_loadF rfl rfl ty9) rfl rfl ?_
        refine sR (opr_strBytes (n := 75) rfl rfl un9 un36 unu8) rfl rfl rfl ?_
        refine sR (opr_callG (rl := [(1, 17), (2, 1071), (3, 75), (1004, 1076)]) (r1 := .tup []) (H1 := [(17, some (.agg [.osl 1076 _ _ _ _, .err _])), (1071, none), (75, none), (1076, some (.arr _ _ _))]) (n1 := [1076]) rfl rfl ent69 (cg69o (Sp.be (27 + d.length) 2 ++ Sp.be k 1 ++ Sp.be p 1 ++ Sp.bes 4 [bo, pe, nu] ++ Sp.bes 1 [st, ix, to] ++ Sp.be su 4) d (by simp only [List.length_append, Sp.be_length, Sp.bes_length, List.length_cons, List.length_nil]; omega) (by omega)) (And.intro (And.intro rfl wka) (And.intro (And.intro rfl wka) True.intro)) (And.intro (And.intro rfl (Exists.intro _ (And.intro rfl wkc))) (And.intro (And.intro rfl (Exists.intro _ (And.intro rfl wkc))) (And.intro (And.intro rfl (Exists.intro _ (And.intro rfl wkc))) True.intro))) rfl rfl rfl rfl) rfl rfl rfl ?_
        refine awp_seq ?_
        refine awp_region rfl ?_
        first
          | refine sP (opp_mv (v := .ptr _ _ _) rfl rfl) rfl rfl ?_
          | refine sP (opp_mv (v := .fptr _) rfl rfl) rfl rfl ?_
        refine sR (opr_callG (rl := [(1, 17), (2, 1076)]) (r1 := .tup [.sl _ _ _ _, .err _]) (H1 := [(17, some (.agg [.osl 1076 _ _ _ _, .err _])), (1076, some (.arr _ _ _))]) (n1 := []) rfl rfl ent70 (cg70r (Sp.be (27 + d.length) 2 ++ Sp.be k 1 ++ Sp.be p 1 ++ Sp.bes 4 [bo, pe, nu] ++ Sp.bes 1 [st, ix, to] ++ Sp.be su 4 ++ d) (by simp only [List.length_append, Sp.be_length, Sp.bes_length, List.length_cons, List.length_nil]; omega)) (And.intro (And.intro rfl wka) True.intro) (And.intro (And.intro rfl (Exists.intro _ (And.intro rfl wkc))) (And.intro (And.intro rfl (Exists.intro _ (And.intro rfl wkc))) True.intro)) rfl rfl rfl rfl) rfl rfl rfl ?_
        refine sP (opp_mv (v := .tup _) rfl rfl) rfl rfl ?_
        refine sP (opp_extract rfl rfl rfl) rfl rfl ?_
        refine sP (opp_extract rfl rfl rfl) rfl rfl ?_
        first
          | refine sP (opp_as (v := .sl _ _ _ _) rfl rfl) rfl rfl ?_
          | refine sP (opp_as (v := .osl _ _ _ _ _) rfl rfl) rfl rfl ?_
        refine sP (opp_as (v := .err _) rfl rfl) rfl rfl ?_
        refine awp_seq ?_
        refine awp_seq ?_
        refine awp_region rfl ?_
        refine sP (opp_mv (v := .err _) rfl rfl) rfl rfl ?_
        refine sP (opp_errNil rfl rfl rfl un29 (.inr ⟨rfl, rfl⟩)) rfl rfl ?_
        refine awp_cond _ rfl (fun hc25 => ?_) (fun hc25 => ?_)
        · (try simp only [cmpI, errD_nil, Bool.not_eq_true', Bool.not_eq_false', decide_eq_true_eq, decide_eq_false_iff_not] at hc25); have ht83 := hc25
          exact absurd ht83 (by decide)
        · (try simp only [cmpI, errD_nil, Bool.not_eq_true', Bool.not_eq_false', decide_eq_true_eq, decide_eq_false_iff_not] at hc25); have ht83 := hc25
          refine awp_skip ?_
          refine awp_seq ?_
          refine awp_region rfl ?_
          first
            | refine sP (opp_mv (v := .sl _ _ _ _) rfl rfl) rfl rfl ?_
            | refine sP (opp_mv (v := .osl _ _ _ _ _) rfl rfl) rfl rfl ?_
          refine sR (opr_call rfl rfl ent71 rfl (c71 (Sp.be (27 + d.length) 2 ++ Sp.be k 1 ++ Sp.be p 1 ++ Sp.bes 4 [bo, pe, nu] ++ Sp.bes 1 [st, ix, to] ++ Sp.be su 4 ++ d) (by simp only [List.length_append, Sp.be_length, Sp.bes_length, List.length_cons, List.length_nil]; omega)) (AViews.refl _ rfl)) rfl rfl rfl ?_ -- d=86 t=36
          refine sP (opp_bytesStr rfl rfl _ rfl (fun j hj => rfl) un36 unu8 un9) rfl rfl ?_
          refine sP (opp_as (v := .str _) rfl rfl) rfl rfl ?_
          refine sP (opp_as (v := .err _) rfl rfl) rfl rfl ?_
          refine awp_ret ?_
          repeat (first | refine athen_ret ?_ | refine ain_ret ?_)
          first
            | refine apost_ret (aend (l := [.str _, .err _]) (.tmp (.tmp .nil)) (fun h => by cases h) (.cons (.noN rfl rfl) (.cons (.noN rfl rfl) .nil)) ⟨Wk.v ?_, rfl, rfl⟩)
            | refine apost_ret (aends (l := [.str _, .err _]) (.tmp (.tmp .nil)) (fun h => by cases h) (.cons shut (fun h => by cases h) (.cons shut (fun h => by cases h) .nil)) rfl ⟨Wk.v ?_, rfl, rfl⟩)
          refine .of ?_
          have e : Sp.be (27 + d.length) 2 ++ Sp.be k 1 ++ Sp.be p 1 ++ Sp.bes 4 [bo, pe, nu] ++ Sp.bes 1 [st, ix, to] ++ Sp.be su 4 ++ d = Sp.noteBytes ⟨k, p, ⟨bo, pe, nu⟩, st, ix, to, su, d⟩ := by
            simp [Sp.noteBytes, Sp.bes]
          rw [e]
theorem c15 (n : Note) (hs : 0 ≤ n.sum ∧ n.sum ≤ 4294967295) (hG4 : gl 4 = some (.err (.code 7))) (hG8 : gl 8 = some (.err (.code 4))) : APure (V ea cds gl) 15 [noteAV n] false (.tup [.str (Sp.put n).1, .err (errD (Sp.put n).2)]) := by
  by_cases hc : Sp.check n = 0
  · have hb := Sp.check_bounds hc
    obtain ⟨kind, part, ⟨boot, peer, num⟩, stage, index, total, sum, data⟩ := n
    dsimp only at hb hs
    obtain ⟨k, rfl⟩ := Int.eq_ofNat_of_zero_le (show 0 ≤ kind by omega)
    obtain ⟨p, rfl⟩ := Int.eq_ofNat_of_zero_le (show 0 ≤ part by omega)
    obtain ⟨bo, rfl⟩ := Int.eq_ofNat_of_zero_le (show 0 ≤ boot by omega)
    obtain ⟨pe, rfl⟩ := Int.eq_ofNat_of_zero_le (show 0 ≤ peer by omega)
    obtain ⟨nu, rfl⟩ := Int.eq_ofNat_of_zero_le (show 0 ≤ num by omega)
    obtain ⟨st, rfl⟩ := Int.eq_ofNat_of_zero_le (show 0 ≤ stage by omega)
    obtain ⟨ix, rfl⟩ := Int.eq_ofNat_of_zero_le (show 0 ≤ index by omega)
    obtain ⟨to, rfl⟩ := Int.eq_ofNat_of_zero_le (show 0 ≤ total by omega)
    obtain ⟨su, rfl⟩ := Int.eq_ofNat_of_zero_le hs.1
    rw [Sp.put, if_neg (by simpa using hc)]
    exact cfine15 k p bo pe nu st ix to su data hc (by omega) hG4 hG8
  · rw [Sp.put, if_pos hc]
    exact cbad15 n hc hG4 hG8
end
end Go.Proofs.YtgaihhimkodmmaaDoor
/- Layer 20: the note of bytes (walks over this dump). -/
namespace Go.Proofs.YtgaihhimkodmmaaDoor
attribute [local irreducible] Tryd.prog
open Go.Fy
set_option linter.unusedSimpArgs false
set_option linter.unusedVariables false
section
variable {ea : Nat → Addr} {cds : List Nat} {gl : Nat → Option AV}
theorem c14 (s : List UInt8) (h0 : s.length ≤ 140737488351232) (hG0 : gl 0 = some (.err (.code 1))) (hG1 : gl 1 = some (.err (.code 5))) (hG9 : gl 9 = some (.err (.code 6)))
    (hG4 : gl 4 = some (.err (.code 7))) (hG8 : gl 8 = some (.err (.code 4))) :
    APure (V ea cds gl) 14 [.str s] false (.tup [noteAV (Sp.get s).1, .err (errD (Sp.get s).2)]) := by
  refine acalls_of_body (N := 122) Tryd.func14 rfl rfl (Nat.le_of_ble_eq_true rfl) fun C hV hN hM hO => ?_
  obtain ⟨_, _, w0, G0, σ0, _, own0⟩ := C; dsimp only at hV hN hM hO; subst hV; subst hN; subst hM
  refine awp_seq ?_
  refine awp_region rfl ?_
  refine sR (opr_alloc (n := 2) rfl z26) rfl rfl rfl ?_
  refine sP (opp_as (v := .err _) rfl rfl) rfl rfl ?_
  refine awp_seq ?_
  refine awp_region rfl ?_
  refine sP (opp_mv (v := .str _) rfl rfl) rfl rfl ?_
  refine sR (opr_strBytes (n := 16) rfl rfl un9 un36 unu8) rfl rfl rfl ?_
  refine al_sh [(16, .sl 1 false s.length (bAt s))] [(16, none)] hO rfl (And.intro shut True.intro) True.intro ?_
  refine sR (opr_call rfl rfl ent58 rfl (c58 s (by omega) hG0 hG9) (AViews.refl _ rfl)) rfl rfl rfl ?_ -- d=17 t=37
  refine sP (opp_mv (v := .tup _) rfl rfl) rfl rfl ?_
  refine sP (opp_extract rfl rfl rfl) rfl rfl ?_
  refine sP (opp_extract rfl rfl rfl) rfl rfl ?_
  first
    | refine sP (opp_as (v := .sl _ _ _ _) rfl rfl) rfl rfl ?_
    | refine sP (opp_as (v := .osl _ _ _ _ _) rfl rfl) rfl rfl ?_
  refine sP (opp_as (v := .err _) rfl rfl) rfl rfl ?_
  refine awp_seq ?_
  refine awp_seq ?_
  refine awp_region rfl ?_
  refine sP (opp_mv (v := .err _) rfl rfl) rfl rfl ?_
  refine sP (opp_errNil rfl rfl rfl un29 (.inr ⟨rfl, rfl⟩)) rfl rfl ?_
  refine awp_cond _ rfl (fun hc4 => ?_) (fun hc4 => ?_)
  · (try simp only [cmpI, errD_nil, Bool.not_eq_true', Bool.not_eq_false', decide_eq_true_eq, decide_eq_false_iff_not] at hc4); have ht21 := hc4
    refine awp_seq ?_
    refine awp_region rfl ?_
    refine sP (opp_build rfl z26 bld26 rfl [.int .i64 0, .int .i64 0, .agg [.int .i64 0, .int .i64 0, .int .i64 0], .int .i64 0, .int .i64 0, .int .i64 0, .int .u32 0, .str []] rfl) rfl rfl ?_
    refine sP (opp_mv (v := .err _) rfl rfl) rfl rfl ?_
    refine sR0 (opr_store (v := .agg _) (trn := (.agg _)) rfl rfl rfl rfl bi rfl rfl rfl rfl fr2 ty26 (fun _ _ h => h)) rfl rfl rfl ?_
    refine sP (opp_as (v := .err _) rfl rfl) rfl rfl ?_
    refine awp_ret ?_
    repeat (first | refine athen_ret ?_ | refine ain_ret ?_)
    first
      | refine apost_ret (aend (l := [.agg _, .err _]) (.cell rfl rfl rfl (by exact True.intro) rfl ty26 (.tmp .nil)) (fun h => by cases h) (.cons (.noN rfl rfl) (.cons (.noN rfl rfl) .nil)) ⟨Wk.v ?_, rfl, rfl⟩)
      | refine apost_ret (aends (l := [.agg _, .err _]) (.cell rfl rfl rfl (by exact True.intro) rfl ty26 (.tmp .nil)) (fun h => by cases h) (.cons shut (fun h => by cases h) (.cons shut (fun h => by cases h) .nil)) rfl ⟨Wk.v ?_, rfl, rfl⟩)
    rw [show Sp.get s = (Sp.zero, (Sp.opened s).2) from if_pos ht21]; exact .refl
  · (try simp only [cmpI, errD_nil, Bool.not_eq_true', Bool.not_eq_false', decide_eq_true_eq, decide_eq_false_iff_not] at hc4); have ht21 := hc4
    refine awp_skip ?_
    refine awp_seq ?_
    refine awp_seq ?_
    rw [show (decide ((Sp.opened s).2 ≠ 0)) = false by simp [ht21]]
    have hok := Sp.opened_ok ht21
    have hlen : (Sp.opened s).1.length = s.length - 4 := by rw [hok.2.1, List.length_take]; omega
    have hf16 := fld_lt (Sp.opened s).1 0 2
    have hf19 := fld_lt (Sp.opened s).1 19 4
    refine awp_region rfl ?_
    refine sP (opp_mv (v := .str _) rfl rfl) rfl rfl ?_
    refine sP (opp_lenStr rfl rfl un9) rfl rfl ?_
    refine sP (opp_cmp rfl rfl rfl rfl) rfl rfl ?_
    refine awp_cond _ rfl (fun hc7 => ?_) (fun hc7 => ?_)
    · (try simp only [cmpI, errD_nil, Bool.not_eq_true', Bool.not_eq_false', decide_eq_true_eq, decide_eq_false_iff_not] at hc7); have ht26 := hc7
      refine awp_seq ?_
      refine awp_draw hmix rfl (by kernel_rfl) ?_
      refine dP (fun _ => false) (opp_build rfl z26 bld26 rfl [.int .i64 0, .int .i64 0, .agg [.int .i64 0, .int .i64 0, .int .i64 0], .int .i64 0, .int .i64 0, .int .i64 0, .int .u32 0, .str []] rfl) rfl rfl ?_
      refine dP (fun _ => false) (opp_loadF rfl (ev_glob hG0) ty29) rfl rfl ?_
      refine dR0 (fun n => Nat.beq n 2) (opr_store (v := .agg _) (trn := (.agg _)) rfl rfl rfl rfl bi rfl rfl rfl rfl fr2 ty26 (fun _ _ h => h)) rfl rfl rfl ?_
      refine dP (fun _ => false) (opp_as (v := .err _) rfl rfl) rfl rfl ?_
      refine And.intro (by kernel_rfl) ?_
      refine awp_ret ?_
      repeat (first | refine athen_ret ?_ | refine ain_ret ?_)
      first
        | refine apost_ret (aend (l := [.agg _, .err _]) (.cell rfl rfl rfl (by exact True.intro) rfl ty26 (.tmp .nil)) (fun h => by cases h) (.cons (.noN rfl rfl) (.cons (.noN rfl rfl) .nil)) ⟨Wk.v ?_, rfl, rfl⟩)
        | refine apost_ret (aends (l := [.agg _, .err _]) (.cell rfl rfl rfl (by exact True.intro) rfl ty26 (.tmp .nil)) (fun h => by cases h) (.cons shut (fun h => by cases h) (.cons shut (fun h => by cases h) .nil)) rfl ⟨Wk.v ?_, rfl, rfl⟩)
      rw [show Sp.get s = (Sp.zero, 1) by rw [Sp.get, if_neg (by simpa using ht21), if_pos (by omega)]]; exact .refl
    · (try simp only [cmpI, errD_nil, Bool.not_eq_true', Bool.not_eq_false', decide_eq_true_eq, decide_eq_false_iff_not] at hc7); have ht26 := hc7
      refine awp_skip ?_
      refine awp_seq ?_
      refine awp_region rfl ?_
      first
        | refine sP (opp_mv (v := .sl _ _ _ _) rfl rfl) rfl rfl ?_
        | refine sP (opp_mv (v := .osl _ _ _ _ _) rfl rfl) rfl rfl ?_
      first
          | refine sR (opr_callO (rl := [(8, 30)]) (r1 := .val _) (H1 := [(30, some (.agg [.sl _ _ _ _, .int _ _, .int _ _]))]) (n1 := [30]) rfl rfl ent59 rfl (co59 (Sp.opened s).1 (by omega)) (AViews.refl _ rfl) rfl rfl rfl rfl) rfl rfl rfl ?_
          | refine sR (opr_callO (rl := [(8, 30)]) (r1 := .fptr _) (H1 := [(30, some (.agg [.sl _ _ _ _, .int _ _, .int _ _]))]) (n1 := [30]) rfl rfl ent59 rfl (co59 (Sp.opened s).1 (by omega)) (AViews.refl _ rfl) rfl rfl rfl rfl) rfl rfl rfl ?_
          | refine sR (opr_callO (rl := [(8, 30)]) (r1 := .ptr _ _ _) (H1 := [(30, some (.agg [.sl _ _ _ _, .int _ _, .int _ _]))]) (n1 := [30]) rfl rfl ent59 rfl (co59 (Sp.opened s).1 (by omega)) (AViews.refl _ rfl) rfl rfl rfl rfl) rfl rfl rfl ?_
      first
        | refine sP (opp_as (v := .ptr _ _ _) rfl rfl) rfl rfl ?_
        | refine sP (opp_as (v := .fptr _) rfl rfl) rfl rfl ?_
      refine awp_seq ?_
      refine awp_seq ?_
      refine awp_region rfl ?_
      first
        | refine sP (opp_mv (v := .ptr _ _ _) rfl rfl) rfl rfl ?_
        | refine sP (opp_mv (v := .fptr _) rfl rfl) rfl rfl ?_
      refine sR (opr_callG (rl := [(1, 30)]) (r1 := .tup [.int _ _, .err _]) (H1 := [(30, some (.agg [.sl _ _ _ _, .int _ _, .int _ _]))]) (n1 := []) rfl rfl ent60 (cg60c (Sp.opened s).1 false 0 (Sp.opened s).1.length (by omega) (by omega) (by omega)) (And.intro (And.intro rfl wka) True.intro) (And.intro (And.intro rfl (Exists.intro _ (And.intro rfl wkc))) True.intro) rfl rfl rfl rfl) rfl rfl rfl ?_
      refine sP (opp_mv (v := .tup _) rfl rfl) rfl rfl ?_
      refine sP (opp_extract rfl rfl rfl) rfl rfl ?_
      refine sP (opp_extract rfl rfl rfl) rfl rfl ?_
      refine sP (opp_as (v := .int _ _) rfl rfl) rfl rfl ?_
      refine sP (opp_as (v := .err _) rfl rfl) rfl rfl ?_
      refine awp_seq ?_
      refine awp_region rfl ?_
      refine sP (opp_mv (v := .int _ _) rfl rfl) rfl rfl ?_
      refine sP (opp_mv (v := .str _) rfl rfl) rfl rfl ?_
      refine sP (opp_lenStr rfl rfl un9) rfl rfl ?_
      refine sP (opp_cmp rfl rfl rfl rfl) rfl rfl ?_
      refine awp_cond _ rfl (fun hc12 => ?_) (fun hc12 => ?_)
      · (try simp only [cmpI, errD_nil, Bool.not_eq_true', Bool.not_eq_false', decide_eq_true_eq, decide_eq_false_iff_not] at hc12); have ht39 := hc12
        refine awp_seq ?_
        refine awp_draw hmix rfl (by kernel_rfl) ?_
        refine dP (fun _ => false) (opp_build rfl z26 bld26 rfl [.int .i64 0, .int .i64 0, .agg [.int .i64 0, .int .i64 0, .int .i64 0], .int .i64 0, .int .i64 0, .int .i64 0, .int .u32 0, .str []] rfl) rfl rfl ?_
        refine dP (fun _ => false) (opp_loadF rfl (ev_glob hG1) ty29) rfl rfl ?_
        refine dR0 (fun n => Nat.beq n 2) (opr_store (v := .agg _) (trn := (.agg _)) rfl rfl rfl rfl bi rfl rfl rfl rfl fr2 ty26 (fun _ _ h => h)) rfl rfl rfl ?_
        refine dP (fun _ => false) (opp_as (v := .err _) rfl rfl) rfl rfl ?_
        refine And.intro (by kernel_rfl) ?_
        refine awp_ret ?_
        repeat (first | refine athen_ret ?_ | refine ain_ret ?_)
        first
          | refine apost_ret (aend (l := [.agg _, .err _]) (.cell rfl rfl rfl (by exact True.intro) rfl ty26 (.tmp .nil)) (fun h => by cases h) (.cons (.noN rfl rfl) (.cons (.noN rfl rfl) .nil)) ⟨Wk.v ?_, rfl, rfl⟩)
          | refine apost_ret (aends (l := [.agg _, .err _]) (.cell rfl rfl rfl (by exact True.intro) rfl ty26 (.tmp .nil)) (fun h => by cases h) (.cons shut (fun h => by cases h) (.cons shut (fun h => by cases h) .nil)) rfl ⟨Wk.v ?_, rfl, rfl⟩)
        rw [show Sp.get s = (Sp.zero, 5) by rw [Sp.get, if_neg (by simpa using ht21), if_neg (by omega), if_pos (by omega)]]; exact .refl
      · (try simp only [cmpI, errD_nil, Bool.not_eq_true', Bool.not_eq_false', decide_eq_true_eq, decide_eq_false_iff_not] at hc12); have ht39 := hc12
        refine awp_skip ?_
        refine awp_seq ?_
        refine awp_region rfl ?_
        refine sR (opr_alloc (n := 9) rfl z26) rfl rfl rfl ?_
        refine awp_seq ?_
        refine awp_region rfl ?_
        first
          | refine sP (opp_mv (v := .ptr _ _ _) rfl rfl) rfl rfl ?_
          | refine sP (opp_mv (v := .fptr _) rfl rfl) rfl rfl ?_
        refine sR (opr_callG (rl := [(1, 30)]) (r1 := .tup [.int _ _, .err _]) (H1 := [(30, some (.agg [.sl _ _ _ _, .int _ _, .int _ _]))]) (n1 := []) rfl rfl ent61 (cg61c (Sp.opened s).1 false 2 (Sp.opened s).1.length (by omega) (by omega) (by omega)) (And.intro (And.intro rfl wka) True.intro) (And.intro (And.intro rfl (Exists.intro _ (And.intro rfl wkc))) True.intro) rfl rfl rfl rfl) rfl rfl rfl ?_
        refine sP (opp_mv (v := .tup _) rfl rfl) rfl rfl ?_
        refine sP (opp_extract rfl rfl rfl) rfl rfl ?_
        refine sP (opp_extract rfl rfl rfl) rfl rfl ?_
        first
          | refine sP (opp_fieldP rfl rfl fld26_0 rfl) rfl rfl ?_
          | refine sP (opp_fieldF rfl rfl rfl fld26_0 rfl rfl) rfl rfl ?_
        refine sR0 (opr_store (v := .int _ _) (trn := (.agg [.int _ _, _, _, _, _, _, _, _])) rfl rfl rfl rfl bi rfl rfl rfl rfl fr2 ty3 (fun _ _ h => h)) rfl rfl rfl ?_
        refine awp_seq ?_
        refine awp_region rfl ?_
        first
          | refine sP (opp_mv (v := .ptr _ _ _) rfl rfl) rfl rfl ?_
          | refine sP (opp_mv (v := .fptr _) rfl rfl) rfl rfl ?_
        refine sR (opr_callG (rl := [(1, 30)]) (r1 := .tup [.int _ _, .err _]) (H1 := [(30, some (.agg [.sl _ _ _ _, .int _ _, .int _ _]))]) (n1 := []) rfl rfl ent61 (cg61c (Sp.opened s).1 false 3 (Sp.opened s).1.length (by omega) (by omega) (by omega)) (And.intro (And.intro rfl wka) True.intro) (And.intro (And.intro rfl (Exists.intro _ (And.intro rfl wkc))) True.intro) rfl rfl rfl rfl) rfl rfl rfl ?_
        refine sP (opp_mv (v := .tup _) rfl rfl) rfl rfl ?_
        refine sP (opp_extract rfl rfl rfl) rfl rfl ?_
        refine sP (opp_extract rfl rfl rfl) rfl rfl ?_
        first
          | refine sP (opp_fieldP rfl rfl fld26_1 rfl) rfl rfl ?_
          | refine sP (opp_fieldF rfl rfl rfl fld26_1 rfl rfl) rfl rfl ?_
        refine sR0 (opr_store (v := .int _ _) (trn := (.agg [_, .int _ _, _, _, _, _, _, _])) rfl rfl rfl rfl bi rfl rfl rfl rfl fr2 ty3 (fun _ _ h => h)) rfl rfl rfl ?_
        refine awp_seq ?_
        refine awp_region rfl ?_
        first
          | refine sP (opp_mv (v := .ptr _ _ _) rfl rfl) rfl rfl ?_
          | refine sP (opp_mv (v := .fptr _) rfl rfl) rfl rfl ?_
        refine sR (opr_callG (rl := [(1, 30)]) (r1 := .tup [.int _ _, .err _]) (H1 := [(30, some (.agg [.sl _ _ _ _, .int _ _, .int _ _]))]) (n1 := []) rfl rfl ent62 (cg62c (Sp.opened s).1 false 4 (Sp.opened s).1.length (by omega) (by omega) (by omega)) (And.intro (And.intro rfl wka) True.intro) (And.intro (And.intro rfl (Exists.intro _ (And.intro rfl wkc))) True.intro) rfl rfl rfl rfl) rfl rfl rfl ?_
        refine sP (opp_mv (v := .tup _) rfl rfl) rfl rfl ?_
        refine sP (opp_extract rfl rfl rfl) rfl rfl ?_
        refine sP (opp_extract rfl rfl rfl) rfl rfl ?_
        first
          | refine sP (opp_fieldP rfl rfl fld26_2 rfl) rfl rfl ?_
          | refine sP (opp_fieldF rfl rfl rfl fld26_2 rfl rfl) rfl rfl ?_
        first
          | refine sP (opp_fieldP rfl rfl fld23_0 rfl) rfl rfl ?_
          | refine sP (opp_fieldF rfl rfl rfl fld23_0 rfl rfl) rfl rfl ?_
        refine sR0 (opr_store (v := .int _ _) (trn := (.agg [_, _, .agg [.int _ _, _, _], _, _, _, _, _])) rfl rfl rfl rfl bi rfl rfl rfl rfl fr2 ty3 (fun _ _ h => h)) rfl rfl rfl ?_
        refine awp_seq ?_
        refine awp_region rfl ?_
        first
          | refine sP (opp_mv (v := .ptr _ _ _) rfl rfl) rfl rfl ?_
          | refine sP (opp_mv (v := .fptr _) rfl rfl) rfl rfl ?_
        refine sR (opr_callG (rl := [(1, 30)]) (r1 := .tup [.int _ _, .err _]) (H1 := [(30, some (.agg [.sl _ _ _ _, .int _ _, .int _ _]))]) (n1 := []) rfl rfl ent62 (cg62c (Sp.opened s).1 false 8 (Sp.opened s).1.length (by omega) (by omega) (by omega)) (And.intro (And.intro rfl wka) True.intro) (And.intro (And.intro rfl (Exists.intro _ (And.intro rfl wkc))) True.intro) rfl rfl rfl rfl) rfl rfl rfl ?_
        refine sP (opp_mv (v := .tup _) rfl rfl) rfl rfl ?_
        refine sP (opp_extract rfl rfl rfl) rfl rfl ?_
        refine sP (opp_extract rfl rfl rfl) rfl rfl ?_
        first
          | refine sP (opp_fieldP rfl rfl fld26_2 rfl) rfl rfl ?_
          | refine sP (opp_fieldF rfl rfl rfl fld26_2 rfl rfl) rfl rfl ?_
        first
          | refine sP (opp_fieldP rfl rfl fld23_1 rfl) rfl rfl ?_
          | refine sP (opp_fieldF rfl rfl rfl fld23_1 rfl rfl) rfl rfl ?_
        refine sR0 (opr_store (v := .int _ _) (trn := (.agg [_, _, .agg [_, .int _ _, _], _, _, _, _, _])) rfl rfl rfl rfl bi rfl rfl rfl rfl fr2 ty3 (fun _ _ h => h)) rfl rfl rfl ?_
        refine awp_seq ?_
        refine awp_region rfl ?_
        first
          | refine sP (opp_mv (v := .ptr _ _ _) rfl rfl) rfl rfl ?_
          | refine sP (opp_mv (v := .fptr _) rfl rfl) rfl rfl ?_
        refine sR (opr_callG (rl := [(1, 30)]) (r1 := .tup [.int _ _, .err _]) (H1 := [(30, some (.agg [.sl _ _ _ _, .int _ _, .int _ _]))]) (n1 := []) rfl rfl ent62 (cg62c (Sp.opened s).1 false 12 (Sp.opened s).1.length (by omega) (by omega) (by omega)) (And.intro (And.intro rfl wka) True.intro) (And.intro (And.intro rfl (Exists.intro _ (And.intro rfl wkc))) True.intro) rfl rfl rfl rfl) rfl rfl rfl ?_
        refine sP (opp_mv (v := .tup _) rfl rfl) rfl rfl ?_
        refine sP (opp_extract rfl rfl rfl) rfl rfl ?_
        refine sP (opp_extract rfl rfl rfl) rfl rfl ?_
        first
          | refine sP (opp_fieldP rfl rfl fld26_2 rfl) rfl rfl ?_
          | refine sP (opp_fieldF rfl rfl rfl fld26_2 rfl rfl) rfl rfl ?_
        first
          | refine sP (opp_fieldP rfl rfl fld23_2 rfl) rfl rfl ?_
          | refine sP (opp_fieldF rfl rfl rfl fld23_2 rfl rfl) rfl rfl ?_
        refine sR0 (opr_store (v := .int _ _) (trn := (.agg [_, _, .agg [_, _, .int _ _], _, _, _, _, _])) rfl rfl rfl rfl bi rfl rfl rfl rfl fr2 ty3 (fun _ _ h => h)) rfl rfl rfl ?_
        refine awp_seq ?_
        refine awp_region rfl ?_
        first
          | refine sP (opp_mv (v := .ptr _ _ _) rfl rfl) rfl rfl ?_
          | refine sP (opp_mv (v := .fptr _) rfl rfl) rfl rfl ?_
        refine sR (opr_callG (rl := [(1, 30)]) (r1 := .tup [.int _ _, .err _]) (H1 := [(30, some (.agg [.sl _ _ _ _, .int _ _, .int _ _]))]) (n1 := []) rfl rfl ent61 (cg61c (Sp.opened s).1 false 16 (Sp.opened s).1.length (by omega) (by omega) (by omega)) (And.intro (And.intro rfl wka) True.intro) (And.intro (And.intro rfl (Exists.intro _ (And.intro rfl wkc))) True.intro) rfl rfl rfl rfl) rfl rfl rfl ?_
        refine sP (opp_mv (v := .tup _) rfl rfl) rfl rfl ?_
        refine sP (opp_extract rfl rfl rfl) rfl rfl ?_
        refine sP (opp_extract rfl rfl rfl) rfl rfl ?_
        first
          | refine sP (opp_fieldP rfl rfl fld26_3 rfl) rfl rfl ?_
          | refine sP (opp_fieldF rfl rfl rfl fld26_3 rfl rfl) rfl rfl ?_
        refine sR0 (opr_store (v := .int _ _) (trn := (.agg [_, _, _, .int _ _, _, _, _, _])) rfl rfl rfl rfl bi rfl rfl rfl rfl fr2 ty3 (fun _ _ h => h)) rfl rfl rfl ?_
        refine awp_seq ?_
        refine awp_region rfl ?_
        first
          | refine sP (opp_mv (v := .ptr _ _ _) rfl rfl) rfl rfl ?_
          | refine sP (opp_mv (v := .fptr _) rfl rfl) rfl rfl ?_
        refine sR (opr_callG (rl := [(1, 30)]) (r1 := .tup [.int _ _, .err _]) (H1 := [(30, some (.agg [.sl _ _ _ _, .int _ _, .int _ _]))]) (n1 := []) rfl rfl ent61 (cg61c (Sp.opened s).1 false 17 (Sp.opened s).1.length (by omega) (by omega) (by omega)) (And.intro (And.intro rfl wka) True.intro) (And.intro (And.intro rfl (Exists.intro _ (And.intro rfl wkc))) True.intro) rfl rfl rfl rfl) rfl rfl rfl ?_
        refine sP (opp_mv (v := .tup _) rfl rfl) rfl rfl ?_
        refine sP (opp_extract rfl rfl rfl) rfl rfl ?_
        refine sP (opp_extract rfl rfl rfl) rfl rfl ?_
        first
          | refine sP (opp_fieldP rfl rfl fld26_4 rfl) rfl rfl ?_
          | refine sP (opp_fieldF rfl rfl rfl fld26_4 rfl rfl) rfl rfl ?_
        refine sR0 (opr_store (v := .int _ _) (trn := (.agg [_, _, _, _, .int _ _, _, _, _])) rfl rfl rfl rfl bi rfl rfl rfl rfl fr2 ty3 (fun _ _ h => h)) rfl rfl rfl ?_
        refine awp_seq ?_
        refine awp_region rfl ?_
        first
          | refine sP (opp_mv (v := .ptr _ _ _) rfl rfl) rfl rfl ?_
          | refine sP (opp_mv (v := .fptr _) rfl rfl) rfl rfl ?_
        refine sR (opr_callG (rl := [(1, 30)]) (r1 := .tup [.int _ _, .err _]) (H1 := [(30, some (.agg [.sl _ _ _ _, .int _ _, .int _ _]))]) (n1 := []) rfl rfl ent61 (cg61c (Sp.opened s).1 false 18 (Sp.opened s).1.length (by omega) (by omega) (by omega)) (And.intro (And.intro rfl wka) True.intro) (And.intro (And.intro rfl (Exists.intro _ (And.intro rfl wkc))) True.intro) rfl rfl rfl rfl) rfl rfl rfl ?_
        refine sP (opp_mv (v := .tup _) rfl rfl) rfl rfl ?_
        refine sP (opp_extract rfl rfl rfl) rfl rfl ?_
        refine sP (opp_extract rfl rfl rfl) rfl rfl ?_
        first
          | refine sP (opp_fieldP rfl rfl fld26_5 rfl) rfl rfl ?_
          | refine sP (opp_fieldF rfl rfl rfl fld26_5 rfl rfl) rfl rfl ?_
        refine sR0 (opr_store (v := .int _ _) (trn := (.agg [_, _, _, _, _, .int _ _, _, _])) rfl rfl rfl rfl bi rfl rfl rfl rfl fr2 ty3 (fun _ _ h => h)) rfl rfl rfl ?_
        refine awp_seq ?_
        refine awp_region rfl ?_
        first
          | refine sP (opp_mv (v := .ptr _ _ _) rfl rfl) rfl rfl ?_
          | refine sP (opp_mv (v := .fptr _) rfl rfl) rfl rfl ?_
        refine sR (opr_callG (rl := [(1, 30)]) (r1 := .tup [.int _ _, .err _]) (H1 := [(30, some (.agg [.sl _ _ _ _, .int _ _, .int _ _]))]) (n1 := []) rfl rfl ent62 (cg62c (Sp.opened s).1 false 19 (Sp.opened s).1.length (by omega) (by omega) (by omega)) (And.intro (And.intro rfl wka) True.intro) (And.intro (And.intro rfl (Exists.intro _ (And.intro rfl wkc))) True.intro) rfl rfl rfl rfl) rfl rfl rfl ?_
        refine sP (opp_mv (v := .tup _) rfl rfl) rfl rfl ?_
        refine sP (opp_extract rfl rfl rfl) rfl rfl ?_
        refine sP (opp_extract rfl rfl rfl) rfl rfl ?_
        refine sP (opp_as (v := .int _ _) rfl rfl) rfl rfl ?_
        refine sP (opp_as (v := .err _) rfl rfl) rfl rfl ?_
        refine awp_seq ?_
        refine awp_region rfl ?_
        first
          | refine sP (opp_mv (v := .ptr _ _ _) rfl rfl) rfl rfl ?_
          | refine sP (opp_mv (v := .fptr _) rfl rfl) rfl rfl ?_
        first
          | refine sP (opp_mv (v := .ptr _ _ _) rfl rfl) rfl rfl ?_
          | refine sP (opp_mv (v := .fptr _) rfl rfl) rfl rfl ?_
        refine sR (opr_callG (rl := [(1, 30)]) (r1 := .int _ _) (H1 := [(30, some (.agg [.sl _ _ _ _, .int _ _, .int _ _]))]) (n1 := []) rfl rfl ent64 (cg64c (Sp.opened s).1 false 23 (Sp.opened s).1.length (by omega) (by omega)) (And.intro (And.intro rfl wka) True.intro) (And.intro (And.intro rfl (Exists.intro _ (And.intro rfl wkc))) True.intro) rfl rfl rfl rfl) rfl rfl rfl ?_
        refine sR (opr_callG (rl := [(1, 30)]) (r1 := .tup [.sl _ _ _ _, .err _]) (H1 := [(30, some (.agg [.sl _ _ _ _, .int _ _, .int _ _]))]) (n1 := []) rfl rfl ent63 (cg63c (Sp.opened s).1 23 (Sp.opened s).1.length ((Sp.opened s).1.length - 23) (by omega) (by omega) (by omega)) (And.intro (And.intro rfl wka) (And.intro (And.intro rfl wka) True.intro)) (And.intro (And.intro rfl (Exists.intro _ (And.intro rfl wkc))) True.intro) rfl rfl rfl rfl) rfl rfl rfl ?_
        refine sP (opp_mv (v := .tup _) rfl rfl) rfl rfl ?_
        refine sP (opp_extract rfl rfl rfl) rfl rfl ?_
        refine sP (opp_extract rfl rfl rfl) rfl rfl ?_
        first
          | refine sP (opp_as (v := .sl _ _ _ _) rfl rfl) rfl rfl ?_
          | refine sP (opp_as (v := .osl _ _ _ _ _) rfl rfl) rfl rfl ?_
        refine sP (opp_as (v := .err _) rfl rfl) rfl rfl ?_
        refine awp_seq ?_
        refine awp_seq ?_
        rw [show ((Sp.opened s).1.drop 23).take ((Sp.opened s).1.length - 23) = (Sp.opened s).1.drop 23 from List.take_of_length_le (by rw [List.length_drop]; omega)]
        refine awp_region rfl ?_
        refine sP (opp_mv (v := .err _) rfl rfl) rfl rfl ?_
        refine sP (opp_errNil rfl rfl rfl un29 (.inr ⟨rfl, rfl⟩)) rfl rfl ?_
        refine awp_cond _ rfl (fun hc26 => ?_) (fun hc26 => ?_)
        · (try simp only [cmpI, errD_nil, Bool.not_eq_true', Bool.not_eq_false', decide_eq_true_eq, decide_eq_false_iff_not] at hc26); have ht106 := hc26
          exact absurd ht106 (by decide)
        · (try simp only [cmpI, errD_nil, Bool.not_eq_true', Bool.not_eq_false', decide_eq_true_eq, decide_eq_false_iff_not] at hc26); have ht106 := hc26
          refine awp_skip ?_
          refine awp_seq ?_
          refine awp_draw hmix rfl (by kernel_rfl) ?_
          refine dP (fun _ => false) (opp_mv (v := .int _ _) rfl rfl) rfl rfl ?_
          first
            | refine dP (fun n => !([9, 112] : List Nat).contains n) (opp_convInt rfl rfl un3s un24 (wu32 (by omega))) rfl rfl ?_
            | refine dP (fun n => !([9, 112] : List Nat).contains n) (opp_convInt rfl rfl un3s un24 rfl) rfl rfl ?_
          first
            | refine dP (fun _ => false) (opp_mv (v := .sl _ _ _ _) rfl rfl) rfl rfl ?_
            | refine dP (fun _ => false) (opp_mv (v := .osl _ _ _ _ _) rfl rfl) rfl rfl ?_
          refine dP (fun n => !([9, 110] : List Nat).contains n) (opp_bytesStr rfl rfl _ rfl (fun j hj => rfl) un36 unu8 un9) rfl rfl ?_
          first
            | refine dP (fun _ => false) (opp_fieldP rfl rfl fld26_6 rfl) rfl rfl ?_
            | refine dP (fun _ => false) (opp_fieldF rfl rfl rfl fld26_6 rfl rfl) rfl rfl ?_
          refine dR0 (fun n => Nat.beq n 9) (opr_store (v := .int _ _) (trn := (.agg [_, _, _, _, _, _, .int _ _, _])) rfl rfl rfl rfl bi rfl rfl rfl rfl fr2 ty24 (fun _ _ h => h)) rfl rfl rfl ?_
          first
            | refine dP (fun _ => false) (opp_fieldP rfl rfl fld26_7 rfl) rfl rfl ?_
            | refine dP (fun _ => false) (opp_fieldF rfl rfl rfl fld26_7 rfl rfl) rfl rfl ?_
          refine dR0 (fun n => Nat.beq n 9) (opr_store (v := .str _) (trn := (.agg [_, _, _, _, _, _, _, .str _])) rfl rfl rfl rfl bi rfl rfl rfl rfl fr2 ty9 (fun _ _ h => h)) rfl rfl rfl ?_
          refine And.intro (by kernel_rfl) ?_
          refine awp_seq ?_
          refine awp_seq ?_
          refine awp_region rfl ?_
          first
            | refine sP (opp_loadP rfl rfl rfl rfl bi rfl ty26) rfl rfl ?_
            | refine sP (opp_loadF rfl rfl ty26) rfl rfl ?_
          refine sR (opr_call rfl rfl ent47 rfl (c47 (Sp.noteOf (Sp.opened s).1) hG4 hG8) (AViews.refl _ rfl)) rfl rfl rfl ?_ -- d=116 t=29
          refine sP (opp_as (v := .err _) rfl rfl) rfl rfl ?_
          refine awp_seq ?_
          refine awp_region rfl ?_
          refine sP (opp_mv (v := .err _) rfl rfl) rfl rfl ?_
          refine sP (opp_errNil rfl rfl rfl un29 (.inr ⟨rfl, rfl⟩)) rfl rfl ?_
          refine awp_cond _ rfl (fun hc30 => ?_) (fun hc30 => ?_)
          · (try simp only [cmpI, errD_nil, Bool.not_eq_true', Bool.not_eq_false', decide_eq_true_eq, decide_eq_false_iff_not] at hc30); have ht118 := hc30
            refine awp_seq ?_
            refine awp_region rfl ?_
            refine sP (opp_build rfl z26 bld26 rfl [.int .i64 0, .int .i64 0, .agg [.int .i64 0, .int .i64 0, .int .i64 0], .int .i64 0, .int .i64 0, .int .i64 0, .int .u32 0, .str []] rfl) rfl rfl ?_
            refine sP (opp_mv (v := .err _) rfl rfl) rfl rfl ?_
            refine sR0 (opr_store (v := .agg _) (trn := (.agg _)) rfl rfl rfl rfl bi rfl rfl rfl rfl fr2 ty26 (fun _ _ h => h)) rfl rfl rfl ?_
            refine sP (opp_as (v := .err _) rfl rfl) rfl rfl ?_
            refine awp_ret ?_
            repeat (first | refine athen_ret ?_ | refine ain_ret ?_)
            first
              | refine apost_ret (aend (l := [.agg _, .err _]) (.cell rfl rfl rfl (by exact True.intro) rfl ty26 (.tmp .nil)) (fun h => by cases h) (.cons (.noN rfl rfl) (.cons (.noN rfl rfl) .nil)) ⟨Wk.v ?_, rfl, rfl⟩)
              | refine apost_ret (aends (l := [.agg _, .err _]) (.cell rfl rfl rfl (by exact True.intro) rfl ty26 (.tmp .nil)) (fun h => by cases h) (.cons shut (fun h => by cases h) (.cons shut (fun h => by cases h) .nil)) rfl ⟨Wk.v ?_, rfl, rfl⟩)
            rw [show Sp.get s = (Sp.zero, Sp.check (Sp.noteOf (Sp.opened s).1)) by rw [Sp.get, if_neg (by simpa using ht21), if_neg (by omega), if_neg (by omega), if_pos ht118]]; exact .refl
          · (try simp only [cmpI, errD_nil, Bool.not_eq_true', Bool.not_eq_false', decide_eq_true_eq, decide_eq_false_iff_not] at hc30); have ht118 := hc30
            refine awp_skip ?_
            refine awp_seq ?_
            refine awp_region rfl ?_
            first
              | refine sP (opp_loadP rfl rfl rfl rfl bi rfl ty26) rfl rfl ?_
              | refine sP (opp_loadF rfl rfl ty26) rfl rfl ?_
            refine sR0 (opr_store (v := .agg _) (trn := (.agg _)) rfl rfl rfl rfl bi rfl rfl rfl rfl fr2 ty26 (fun _ _ h => h)) rfl rfl rfl ?_
            refine sP (opp_as (v := .err _) rfl rfl) rfl rfl ?_
            refine awp_ret ?_
            repeat (first | refine athen_ret ?_ | refine ain_ret ?_)
            first
              | refine apost_ret (aend (l := [.agg _, .err _]) (.cell rfl rfl rfl (by exact True.intro) rfl ty26 (.tmp .nil)) (fun h => by cases h) (.cons (.noN rfl rfl) (.cons (.noN rfl rfl) .nil)) ⟨Wk.v ?_, rfl, rfl⟩)
              | refine apost_ret (aends (l := [.agg _, .err _]) (.cell rfl rfl rfl (by exact True.intro) rfl ty26 (.tmp .nil)) (fun h => by cases h) (.cons shut (fun h => by cases h) (.cons shut (fun h => by cases h) .nil)) rfl ⟨Wk.v ?_, rfl, rfl⟩)
            rw [show Sp.get s = (Sp.noteOf (Sp.opened s).1, 0) by rw [Sp.get, if_neg (by simpa using ht21), if_neg (by omega), if_neg (by omega), if_neg (by simpa using ht118)]]; exact .refl
end
end Go.Proofs.YtgaihhimkodmmaaDoor
/- Layer 20: stages go on (walks over this dump). -/
namespace Go.Proofs.YtgaihhimkodmmaaDoor
attribute [local irreducible] Tryd.prog
open Go.Fy
set_option linter.unusedSimpArgs false
section
variable {ea : Nat → Addr} {cds : List Nat} {gl : Nat → Option AV}
theorem c42 (b : Bool) (s : Stage) (n : Note) (h0 : b = true → s.pieces.length = 0) (hG3 : gl 3 = some (.err (.code 9))) (hG4 : gl 4 = some (.err (.code 7))) (hG5 : gl 5 = some (.err (.code 10))) (hG7 : gl 7 = some (.err (.code 14))) (hG8 : gl 8 = some (.err (.code 4))) :
    APure (V ea cds gl) 42 [stageAV b s, noteAV n] false (.tup [stageAV (decide ((Sp.add s n).2.2 ≠ 0)) (Sp.add s n).1, .bool (Sp.add s n).2.1, .err (errD (Sp.add s n).2.2)]) := by
  refine acalls_of_body (N := 78) Tryd.func42 rfl rfl (Nat.le_of_ble_eq_true rfl) fun C hV hN hM hO => ?_
  obtain ⟨_, _, w0, G0, σ0, _, own0⟩ := C; dsimp only at hV hN hM hO; subst hV; subst hN; subst hM
  refine awp_seq ?_
  refine awp_region rfl ?_
  refine sR (opr_box (y := .agg _) (n := 2) rfl rfl rfl) rfl rfl rfl ?_
  refine sR (opr_box (y := .agg _) (n := 3) rfl rfl rfl) rfl rfl rfl ?_
  refine sR (opr_alloc (n := 4) rfl z53) rfl rfl rfl ?_
  refine sP (opp_as (v := .bool _) rfl rfl) rfl rfl ?_
  refine sP (opp_as (v := .err _) rfl rfl) rfl rfl ?_
  refine awp_seq ?_
  refine awp_seq ?_
  refine awp_region rfl ?_
  first
    | refine sP (opp_loadP rfl rfl rfl rfl bi rfl ty53) rfl rfl ?_
    | refine sP (opp_loadF rfl rfl ty53) rfl rfl ?_
  refine sR (opr_call rfl rfl ent93 rfl (c93 _ _) (AViews.refl _ rfl)) rfl rfl rfl ?_ -- d=10 t=4
  refine sP (opp_not rfl rfl) rfl rfl ?_
  refine awp_cond _ rfl (fun hc3 => ?_) (fun hc3 => ?_)
  · (try simp only [cmpI, errD_nil, Bool.not_eq_true', Bool.not_eq_false', decide_eq_true_eq, decide_eq_false_iff_not] at hc3); have ht11 := hc3
    refine awp_seq ?_
    refine awp_draw hmix rfl (by kernel_rfl) ?_
    refine dP (fun _ => false) (opp_build rfl z53 bld53 rfl [.int .i64 0, .int .i64 0, .int .i64 0, .agg [.int .i64 0, .int .i64 0, .int .i64 0], .sl 1 true 0 (fun _ => .top)] rfl) rfl rfl ?_
    refine dP (fun _ => false) (opp_loadF rfl (ev_glob hG3) ty29) rfl rfl ?_
    refine dR0 (fun n => Nat.beq n 4) (opr_store (v := .agg _) (trn := (.agg _)) rfl rfl rfl rfl bi rfl rfl rfl rfl fr2 ty53 (fun _ _ h => h)) rfl rfl rfl ?_
    refine dP (fun _ => false) (opp_as (v := .bool _) rfl rfl) rfl rfl ?_
    refine dP (fun _ => false) (opp_as (v := .err _) rfl rfl) rfl rfl ?_
    refine And.intro (by kernel_rfl) ?_
    refine awp_ret ?_
    repeat (first | refine athen_ret ?_ | refine ain_ret ?_)
    first
      | refine apost_ret (aend (l := [.agg _, .bool _, .err _]) (.cell rfl rfl rfl (by exact True.intro) rfl ty53 (.tmp (.tmp .nil))) (fun h => by cases h) (.cons (.noN rfl rfl) (.cons (.noN rfl rfl) (.cons (.noN rfl rfl) .nil))) ⟨Wk.v ?_, rfl, rfl⟩)
      | refine apost_ret (aends (l := [.agg _, .bool _, .err _]) (.cell rfl rfl rfl (by exact True.intro) rfl ty53 (.tmp (.tmp .nil))) (fun h => by cases h) (.cons shut (fun h => by cases h) (.cons shut (fun h => by cases h) (.cons shut (fun h => by cases h) .nil))) rfl ⟨Wk.v ?_, rfl, rfl⟩)
    rw [show Sp.add s n = (Sp.zeroS, false, 9) by simp [Sp.add, hc3]]; show Wk _ (.tup [stageAV true Sp.zeroS, .bool false, .err (.code 9)]); simp only [stageAV, Sp.zeroS, xidAV, List.length_nil]; (repeat' (first | exact Wk.refl | exact Wk.sl0 | apply Wk.tup | apply Wk.agg | apply WkL.cons | exact WkL.nil | refine Wk.sl (fun _ _ => ?_)))
  · (try simp only [cmpI, errD_nil, Bool.not_eq_true', Bool.not_eq_false', decide_eq_true_eq, decide_eq_false_iff_not] at hc3); have ht11 := hc3
    refine awp_skip ?_
    refine awp_seq ?_
    refine awp_seq ?_
    have hgs : Sp.goodS s = true := by simpa using hc3
    have hgb := Sp.goodS_bounds hgs
    have hb0 : b = false := by cases b with
      | false => rfl
      | true => have := h0 rfl; omega
    subst hb0
    refine awp_region rfl ?_
    first
      | refine sP (opp_loadP rfl rfl rfl rfl bi rfl ty26) rfl rfl ?_
      | refine sP (opp_loadF rfl rfl ty26) rfl rfl ?_
    refine sR (opr_call rfl rfl ent92 rfl (c92 _ hG4 hG8) (AViews.refl _ rfl)) rfl rfl rfl ?_ -- d=15 t=29
    refine sP (opp_as (v := .err _) rfl rfl) rfl rfl ?_
    refine awp_seq ?_
    refine awp_region rfl ?_
    refine sP (opp_mv (v := .err _) rfl rfl) rfl rfl ?_
    refine sP (opp_errNil rfl rfl rfl un29 (.inr ⟨rfl, rfl⟩)) rfl rfl ?_
    refine awp_cond _ rfl (fun hc7 => ?_) (fun hc7 => ?_)
    · (try simp only [cmpI, errD_nil, Bool.not_eq_true', Bool.not_eq_false', decide_eq_true_eq, decide_eq_false_iff_not] at hc7); have ht17 := hc7
      refine awp_seq ?_
      refine awp_region rfl ?_
      refine sP (opp_build rfl z53 bld53 rfl [.int .i64 0, .int .i64 0, .int .i64 0, .agg [.int .i64 0, .int .i64 0, .int .i64 0], .sl 1 true 0 (fun _ => .top)] rfl) rfl rfl ?_
      refine sP (opp_mv (v := .err _) rfl rfl) rfl rfl ?_
      refine sR0 (opr_store (v := .agg _) (trn := (.agg _)) rfl rfl rfl rfl bi rfl rfl rfl rfl fr2 ty53 (fun _ _ h => h)) rfl rfl rfl ?_
      refine sP (opp_as (v := .bool _) rfl rfl) rfl rfl ?_
      refine sP (opp_as (v := .err _) rfl rfl) rfl rfl ?_
      refine awp_ret ?_
      repeat (first | refine athen_ret ?_ | refine ain_ret ?_)
      first
        | refine apost_ret (aend (l := [.agg _, .bool _, .err _]) (.cell rfl rfl rfl (by exact True.intro) rfl ty53 (.tmp (.tmp .nil))) (fun h => by cases h) (.cons (.noN rfl rfl) (.cons (.noN rfl rfl) (.cons (.noN rfl rfl) .nil))) ⟨Wk.v ?_, rfl, rfl⟩)
        | refine apost_ret (aends (l := [.agg _, .bool _, .err _]) (.cell rfl rfl rfl (by exact True.intro) rfl ty53 (.tmp (.tmp .nil))) (fun h => by cases h) (.cons shut (fun h => by cases h) (.cons shut (fun h => by cases h) (.cons shut (fun h => by cases h) .nil))) rfl ⟨Wk.v ?_, rfl, rfl⟩)
      rw [show Sp.add s n = (Sp.zeroS, false, Sp.chunk n) by simp [Sp.add, hc3, hc7]]; simp only [ne_eq, hc7, not_false_eq_true, decide_true, stageAV, Sp.zeroS, xidAV, List.length_nil]; (repeat' (first | exact Wk.refl | exact Wk.sl0 | apply Wk.tup | apply Wk.agg | apply WkL.cons | exact WkL.nil | refine Wk.sl (fun _ _ => ?_)))
    · (try simp only [cmpI, errD_nil, Bool.not_eq_true', Bool.not_eq_false', decide_eq_true_eq, decide_eq_false_iff_not] at hc7); have ht17 := hc7
      refine awp_skip ?_
      refine awp_seq ?_
      refine awp_seq ?_
      have hb := Sp.chunk_bounds hc7
      refine awp_region rfl ?_
      first
        | refine sP (opp_fieldP rfl rfl fld26_1 rfl) rfl rfl ?_
        | refine sP (opp_fieldF rfl rfl rfl fld26_1 rfl rfl) rfl rfl ?_
      first
        | refine sP (opp_loadP rfl rfl rfl rfl bi rfl ty3) rfl rfl ?_
        | refine sP (opp_loadF rfl rfl ty3) rfl rfl ?_
      first
        | refine sP (opp_fieldP rfl rfl fld53_0 rfl) rfl rfl ?_
        | refine sP (opp_fieldF rfl rfl rfl fld53_0 rfl rfl) rfl rfl ?_
      first
        | refine sP (opp_loadP rfl rfl rfl rfl bi rfl ty3) rfl rfl ?_
        | refine sP (opp_loadF rfl rfl ty3) rfl rfl ?_
      refine sP (opp_cmp rfl rfl rfl rfl) rfl rfl ?_
      refine sP (opp_mv (v := .bool _) rfl rfl) rfl rfl ?_
      first
        | refine sG _ rfl rfl rfl rfl (fun hg => (And.intro gi (True.intro))) (fun hg => opp_fieldP rfl rfl fld26_2 rfl) ?_
        | refine sG _ rfl rfl rfl rfl (fun hg => (And.intro gi (True.intro))) (fun hg => opp_fieldF rfl rfl rfl fld26_2 rfl rfl) ?_
      first
        | refine sG _ rfl rfl rfl rfl (fun hg => (And.intro gi (True.intro))) (fun hg => opp_loadP rfl rfl rfl rfl bi rfl ty23) ?_
        | refine sG _ rfl rfl rfl rfl (fun hg => (And.intro gi (True.intro))) (fun hg => opp_loadF rfl rfl ty23) ?_
      first
        | refine sG _ rfl rfl rfl rfl (fun hg => (And.intro gi (True.intro))) (fun hg => opp_fieldP rfl rfl fld53_3 rfl) ?_
        | refine sG _ rfl rfl rfl rfl (fun hg => (And.intro gi (True.intro))) (fun hg => opp_fieldF rfl rfl rfl fld53_3 rfl rfl) ?_
      first
        | refine sG _ rfl rfl rfl rfl (fun hg => (And.intro gi (True.intro))) (fun hg => opp_loadP rfl rfl rfl rfl bi rfl ty23) ?_
        | refine sG _ rfl rfl rfl rfl (fun hg => (And.intro gi (True.intro))) (fun hg => opp_loadF rfl rfl ty23) ?_
      refine sG _ rfl rfl rfl rfl (fun hg => (And.intro gi (And.intro gi (True.intro)))) (fun hg => opp_eqAgg rfl rfl rfl (eq23 ..) eg23 rfl (.inr ⟨rfl, rfl⟩)) ?_
      refine sPick rfl rfl rfl rfl (by exact True.intro) rfl rfl (fun hg => gi) (fun hg => gi) ?_
      refine sP (opp_mv (v := .bool _) rfl rfl) rfl rfl ?_
      first
        | refine sG _ rfl rfl rfl rfl (fun hg => (And.intro gi (True.intro))) (fun hg => opp_fieldP rfl rfl fld26_3 rfl) ?_
        | refine sG _ rfl rfl rfl rfl (fun hg => (And.intro gi (True.intro))) (fun hg => opp_fieldF rfl rfl rfl fld26_3 rfl rfl) ?_
      first
        | refine sG _ rfl rfl rfl rfl (fun hg => (And.intro gi (True.intro))) (fun hg => opp_loadP rfl rfl rfl rfl bi rfl ty3) ?_
        | refine sG _ rfl rfl rfl rfl (fun hg => (And.intro gi (True.intro))) (fun hg => opp_loadF rfl rfl ty3) ?_
      first
        | refine sG _ rfl rfl rfl rfl (fun hg => (And.intro gi (True.intro))) (fun hg => opp_fieldP rfl rfl fld53_1 rfl) ?_
        | refine sG _ rfl rfl rfl rfl (fun hg => (And.intro gi (True.intro))) (fun hg => opp_fieldF rfl rfl rfl fld53_1 rfl rfl) ?_
      first
        | refine sG _ rfl rfl rfl rfl (fun hg => (And.intro gi (True.intro))) (fun hg => opp_loadP rfl rfl rfl rfl bi rfl ty3) ?_
        | refine sG _ rfl rfl rfl rfl (fun hg => (And.intro gi (True.intro))) (fun hg => opp_loadF rfl rfl ty3) ?_
      refine sG _ rfl rfl rfl rfl (fun hg => (And.intro gi (And.intro gi (True.intro)))) (fun hg => opp_cmp rfl rfl rfl rfl) ?_
      refine sPick rfl rfl rfl rfl (by exact True.intro) rfl rfl (fun hg => gi) (fun hg => gi) ?_
      refine sP (opp_mv (v := .bool _) rfl rfl) rfl rfl ?_
      first
        | refine sG _ rfl rfl rfl rfl (fun hg => (And.intro gi (True.intro))) (fun hg => opp_fieldP rfl rfl fld26_5 rfl) ?_
        | refine sG _ rfl rfl rfl rfl (fun hg => (And.intro gi (True.intro))) (fun hg => opp_fieldF rfl rfl rfl fld26_5 rfl rfl) ?_
      first
        | refine sG _ rfl rfl rfl rfl (fun hg => (And.intro gi (True.intro))) (fun hg => opp_loadP rfl rfl rfl rfl bi rfl ty3) ?_
        | refine sG _ rfl rfl rfl rfl (fun hg => (And.intro gi (True.intro))) (fun hg => opp_loadF rfl rfl ty3) ?_
      first
        | refine sG _ rfl rfl rfl rfl (fun hg => (And.intro gi (True.intro))) (fun hg => opp_fieldP rfl rfl fld53_2 rfl) ?_
        | refine sG _ rfl rfl rfl rfl (fun hg => (And.intro gi (True.intro))) (fun hg => opp_fieldF rfl rfl rfl fld53_2 rfl rfl) ?_
      first
        | refine sG _ rfl rfl rfl rfl (fun hg => (And.intro gi (True.intro))) (fun hg => opp_loadP rfl rfl rfl rfl bi rfl ty3) ?_
        | refine sG _ rfl rfl rfl rfl (fun hg => (And.intro gi (True.intro))) (fun hg => opp_loadF rfl rfl ty3) ?_
      refine sG _ rfl rfl rfl rfl (fun hg => (And.intro gi (And.intro gi (True.intro)))) (fun hg => opp_cmp rfl rfl rfl rfl) ?_
      refine sPick rfl rfl rfl rfl (by exact True.intro) rfl rfl (fun hg => gi) (fun hg => gi) ?_
      refine awp_cond _ rfl (fun hc10 => ?_) (fun hc10 => ?_)
      · (try simp only [cmpI, errD_nil, Bool.not_eq_true', Bool.not_eq_false', decide_eq_true_eq, decide_eq_false_iff_not] at hc10); have ht45 := hc10
        refine awp_seq ?_
        refine awp_draw hmix rfl (by kernel_rfl) ?_
        refine dP (fun _ => false) (opp_build rfl z53 bld53 rfl [.int .i64 0, .int .i64 0, .int .i64 0, .agg [.int .i64 0, .int .i64 0, .int .i64 0], .sl 1 true 0 (fun _ => .top)] rfl) rfl rfl ?_
        refine dP (fun _ => false) (opp_loadF rfl (ev_glob hG5) ty29) rfl rfl ?_
        refine dR0 (fun n => Nat.beq n 4) (opr_store (v := .agg _) (trn := (.agg _)) rfl rfl rfl rfl bi rfl rfl rfl rfl fr2 ty53 (fun _ _ h => h)) rfl rfl rfl ?_
        refine dP (fun _ => false) (opp_as (v := .bool _) rfl rfl) rfl rfl ?_
        refine dP (fun _ => false) (opp_as (v := .err _) rfl rfl) rfl rfl ?_
        refine And.intro (by kernel_rfl) ?_
        refine awp_ret ?_
        repeat (first | refine athen_ret ?_ | refine ain_ret ?_)
        first
          | refine apost_ret (aend (l := [.agg _, .bool _, .err _]) (.cell rfl rfl rfl (by exact True.intro) rfl ty53 (.tmp (.tmp .nil))) (fun h => by cases h) (.cons (.noN rfl rfl) (.cons (.noN rfl rfl) (.cons (.noN rfl rfl) .nil))) ⟨Wk.v ?_, rfl, rfl⟩)
          | refine apost_ret (aends (l := [.agg _, .bool _, .err _]) (.cell rfl rfl rfl (by exact True.intro) rfl ty53 (.tmp (.tmp .nil))) (fun h => by cases h) (.cons shut (fun h => by cases h) (.cons shut (fun h => by cases h) (.cons shut (fun h => by cases h) .nil))) rfl ⟨Wk.v ?_, rfl, rfl⟩)
        have hq : n.part ≠ s.part ∨ n.xid ≠ s.xid ∨ n.stage ≠ s.stage ∨ n.total ≠ s.total := by
          refine Classical.byContradiction fun hne => ?_
          simp only [not_or, Decidable.not_not, ne_eq] at hne
          obtain ⟨h1, h2, h3, h4⟩ := hne
          simp [h1, h2, h3, h4] at hc10
        rw [show Sp.add s n = (Sp.zeroS, false, 10) by simp only [Sp.add, hgs, hc7]; simp [if_pos hq]]; show Wk _ (.tup [stageAV true Sp.zeroS, .bool false, .err (.code 10)]); simp only [stageAV, Sp.zeroS, xidAV, List.length_nil]; (repeat' (first | exact Wk.refl | exact Wk.sl0 | apply Wk.tup | apply Wk.agg | apply WkL.cons | exact WkL.nil | refine Wk.sl (fun _ _ => ?_)))
      · (try simp only [cmpI, errD_nil, Bool.not_eq_true', Bool.not_eq_false', decide_eq_true_eq, decide_eq_false_iff_not] at hc10); have ht45 := hc10
        refine awp_skip ?_
        refine awp_seq ?_
        have hq : n.part = s.part ∧ n.xid = s.xid ∧ n.stage = s.stage ∧ n.total = s.total := by
          rw [Xid.eq_iff]; simpa [and_assoc] using hc10
        refine awp_region rfl ?_
        first
          | refine sP (opp_fieldP rfl rfl fld53_4 rfl) rfl rfl ?_
          | refine sP (opp_fieldF rfl rfl rfl fld53_4 rfl rfl) rfl rfl ?_
        first
          | refine sP (opp_loadP rfl rfl rfl rfl bi rfl ty51) rfl rfl ?_
          | refine sP (opp_loadF rfl rfl ty51) rfl rfl ?_
        first
          | refine sP (opp_fieldP rfl rfl fld26_4 rfl) rfl rfl ?_
          | refine sP (opp_fieldF rfl rfl rfl fld26_4 rfl rfl) rfl rfl ?_
        first
          | refine sP (opp_loadP rfl rfl rfl rfl bi rfl ty3) rfl rfl ?_
          | refine sP (opp_loadF rfl rfl ty3) rfl rfl ?_
        first
          | refine sP (opp_indexSl rfl rfl rfl el51 (by omega) (by omega)) rfl rfl ?_
          | refine sP (opp_indexOsl0 rfl rfl rfl el51 (by omega) (by omega)) rfl rfl ?_
          | refine sP (opp_indexOsl rfl rfl rfl el51 (by omega) (by omega)) rfl rfl ?_
        first
          | refine sP (opp_loadP rfl rfl rfl rfl bi rfl ty9) rfl rfl ?_
          | refine sP (opp_loadF rfl rfl ty9) rfl rfl ?_
        refine sP (opp_as (v := .str _) rfl rfl) rfl rfl ?_
        refine awp_seq ?_
        refine awp_seq ?_
        refine awp_region rfl ?_
        refine sP (opp_mv (v := .str _) rfl rfl) rfl rfl ?_
        refine sP (opp_strEq (b := []) rfl rfl rfl (.inr ⟨rfl, rfl⟩)) rfl rfl ?_
        refine sP (opp_mv (v := .bool _) rfl rfl) rfl rfl ?_
        refine sG _ rfl rfl rfl rfl (fun hg => (And.intro gi (True.intro))) (fun hg => opp_mv (v := .str _) rfl rfl) ?_
        first
          | refine sG _ rfl rfl rfl rfl (fun hg => (And.intro gi (True.intro))) (fun hg => opp_fieldP rfl rfl fld26_7 rfl) ?_
          | refine sG _ rfl rfl rfl rfl (fun hg => (And.intro gi (True.intro))) (fun hg => opp_fieldF rfl rfl rfl fld26_7 rfl rfl) ?_
        first
          | refine sG _ rfl rfl rfl rfl (fun hg => (And.intro gi (True.intro))) (fun hg => opp_loadP rfl rfl rfl rfl bi rfl ty9) ?_
          | refine sG _ rfl rfl rfl rfl (fun hg => (And.intro gi (True.intro))) (fun hg => opp_loadF rfl rfl ty9) ?_
        refine sG _ rfl rfl rfl rfl (fun hg => (And.intro gi (And.intro gi (True.intro)))) (fun hg => opp_strEq rfl rfl rfl (.inr ⟨rfl, rfl⟩)) ?_
        refine sPick rfl rfl rfl rfl (by exact True.intro) rfl rfl (fun hg => gi) (fun hg => gi) ?_
        refine awp_cond _ rfl (fun hc14 => ?_) (fun hc14 => ?_)
        · (try simp only [cmpI, errD_nil, Bool.not_eq_true', Bool.not_eq_false', decide_eq_true_eq, decide_eq_false_iff_not] at hc14); have ht61 := hc14
          refine awp_seq ?_
          refine awp_draw hmix rfl (by kernel_rfl) ?_
          refine dP (fun _ => false) (opp_build rfl z53 bld53 rfl [.int .i64 0, .int .i64 0, .int .i64 0, .agg [.int .i64 0, .int .i64 0, .int .i64 0], .sl 1 true 0 (fun _ => .top)] rfl) rfl rfl ?_
          refine dP (fun _ => false) (opp_loadF rfl (ev_glob hG7) ty29) rfl rfl ?_
          refine dR0 (fun n => Nat.beq n 4) (opr_store (v := .agg _) (trn := (.agg _)) rfl rfl rfl rfl bi rfl rfl rfl rfl fr2 ty53 (fun _ _ h => h)) rfl rfl rfl ?_
          refine dP (fun _ => false) (opp_as (v := .bool _) rfl rfl) rfl rfl ?_
          refine dP (fun _ => false) (opp_as (v := .err _) rfl rfl) rfl rfl ?_
          refine And.intro (by kernel_rfl) ?_
          refine awp_ret ?_
          repeat (first | refine athen_ret ?_ | refine ain_ret ?_)
          first
            | refine apost_ret (aend (l := [.agg _, .bool _, .err _]) (.cell rfl rfl rfl (by exact True.intro) rfl ty53 (.tmp (.tmp .nil))) (fun h => by cases h) (.cons (.noN rfl rfl) (.cons (.noN rfl rfl) (.cons (.noN rfl rfl) .nil))) ⟨Wk.v ?_, rfl, rfl⟩)
            | refine apost_ret (aends (l := [.agg _, .bool _, .err _]) (.cell rfl rfl rfl (by exact True.intro) rfl ty53 (.tmp (.tmp .nil))) (fun h => by cases h) (.cons shut (fun h => by cases h) (.cons shut (fun h => by cases h) (.cons shut (fun h => by cases h) .nil))) rfl ⟨Wk.v ?_, rfl, rfl⟩)
          have hd : s.pieces.getD n.index.toNat [] ≠ [] ∧ s.pieces.getD n.index.toNat [] ≠ n.data := by
            generalize s.pieces.getD n.index.toNat [] = y at hc14
            by_cases h1 : y = [] <;> by_cases h2 : y = n.data <;> simp_all
          rw [show Sp.add s n = (Sp.zeroS, false, 14) by simp only [Sp.add, hgs, hc7, hq, if_pos hd]; simp]; show Wk _ (.tup [stageAV true Sp.zeroS, .bool false, .err (.code 14)]); simp only [stageAV, Sp.zeroS, xidAV, List.length_nil]; (repeat' (first | exact Wk.refl | exact Wk.sl0 | apply Wk.tup | apply Wk.agg | apply WkL.cons | exact WkL.nil | refine Wk.sl (fun _ _ => ?_)))
        · (try simp only [cmpI, errD_nil, Bool.not_eq_true', Bool.not_eq_false', decide_eq_true_eq, decide_eq_false_iff_not] at hc14); have ht61 := hc14
          refine awp_skip ?_
          refine awp_seq ?_
          refine awp_region rfl ?_
          first
            | refine sP (opp_fieldP rfl rfl fld53_4 rfl) rfl rfl ?_
            | refine sP (opp_fieldF rfl rfl rfl fld53_4 rfl rfl) rfl rfl ?_
          first
            | refine sP (opp_loadP rfl rfl rfl rfl bi rfl ty51) rfl rfl ?_
            | refine sP (opp_loadF rfl rfl ty51) rfl rfl ?_
          first
              | refine sR (opr_callO (rl := [(7, 66)]) (r1 := .osl _ _ _ _ _) (H1 := [(66, some (.arr _ _ _))]) (n1 := [66]) rfl rfl ent94 rfl (co94 s.pieces.length (strAt s.pieces) (by omega)) (AViews.refl _ rfl) rfl rfl rfl rfl) rfl rfl rfl ?_
              | refine sR (opr_callO (rl := [(7, 66)]) (r1 := .sl _ _ _ _) (H1 := [(66, some (.arr _ _ _))]) (n1 := [66]) rfl rfl ent94 rfl (co94 s.pieces.length (strAt s.pieces) (by omega)) (AViews.refl _ rfl) rfl rfl rfl rfl) rfl rfl rfl ?_
          first
            | refine sP (opp_fieldP rfl rfl fld53_4 rfl) rfl rfl ?_
            | refine sP (opp_fieldF rfl rfl rfl fld53_4 rfl rfl) rfl rfl ?_
          first
            | refine sR0 (opr_store (v := .sl _ _ _ _) (trn := (.agg [_, _, _, _, .sl _ _ _ _])) rfl rfl rfl rfl bi rfl rfl rfl rfl fr2 ty51 (fun _ _ h => h)) rfl rfl rfl ?_
            | refine sR0 (opr_store (v := .osl _ _ _ _ _) (trn := (.agg [_, _, _, _, .osl _ _ _ _ _])) rfl rfl rfl rfl bi rfl rfl rfl rfl fr2 ty51 (fun _ _ h => h)) rfl rfl rfl ?_
          refine awp_seq ?_
          refine awp_region rfl ?_
          first
            | refine sP (opp_fieldP rfl rfl fld53_4 rfl) rfl rfl ?_
            | refine sP (opp_fieldF rfl rfl rfl fld53_4 rfl rfl) rfl rfl ?_
          first
            | refine sP (opp_loadP rfl rfl rfl rfl bi rfl ty51) rfl rfl ?_
            | refine sP (opp_loadF rfl rfl ty51) rfl rfl ?_
          first
            | refine sP (opp_fieldP rfl rfl fld26_4 rfl) rfl rfl ?_
            | refine sP (opp_fieldF rfl rfl rfl fld26_4 rfl rfl) rfl rfl ?_
          first
            | refine sP (opp_loadP rfl rfl rfl rfl bi rfl ty3) rfl rfl ?_
            | refine sP (opp_loadF rfl rfl ty3) rfl rfl ?_
          first
            | refine sP (opp_fieldP rfl rfl fld26_7 rfl) rfl rfl ?_
            | refine sP (opp_fieldF rfl rfl rfl fld26_7 rfl rfl) rfl rfl ?_
          first
            | refine sP (opp_loadP rfl rfl rfl rfl bi rfl ty9) rfl rfl ?_
            | refine sP (opp_loadF rfl rfl ty9) rfl rfl ?_
          first
            | refine sP (opp_indexSl rfl rfl rfl el51 (by omega) (by omega)) rfl rfl ?_
            | refine sP (opp_indexOsl0 rfl rfl rfl el51 (by omega) (by omega)) rfl rfl ?_
            | refine sP (opp_indexOsl rfl rfl rfl el51 (by omega) (by omega)) rfl rfl ?_
          refine sR0 (opr_storeA (v := .str _) rfl rfl rfl (by omega) (by first | rfl | omega) rfl rfl rfl rfl ty9) rfl rfl rfl ?_
          refine awp_seq ?_
          refine awp_region rfl ?_
          first
            | refine sP (opp_loadP rfl rfl rfl rfl bi rfl ty53) rfl rfl ?_
            | refine sP (opp_loadF rfl rfl ty53) rfl rfl ?_
          refine sP (opp_mv (v := .str _) rfl rfl) rfl rfl ?_
          refine sP (opp_strEq (b := []) rfl rfl rfl (.inl ⟨rfl, rfl⟩)) rfl rfl ?_
          refine sR0 (opr_store (v := .agg _) (trn := (.agg _)) rfl rfl rfl rfl bi rfl rfl rfl rfl fr2 ty53 (fun _ _ h => h)) rfl rfl rfl ?_
          refine sP (opp_as (v := .bool _) rfl rfl) rfl rfl ?_
          refine sP (opp_as (v := .err _) rfl rfl) rfl rfl ?_
          refine awp_ret ?_
          repeat (first | refine athen_ret ?_ | refine ain_ret ?_)
          first
            | refine apost_ret (aend (l := [.agg _, .bool _, .err _]) (.cell rfl rfl rfl (by exact True.intro) rfl ty53 (.tmp (.tmp .nil))) (fun h => by cases h) (.cons (.noN rfl rfl) (.cons (.noN rfl rfl) (.cons (.noN rfl rfl) .nil))) ⟨Wk.v ?_, rfl, rfl⟩)
            | refine apost_ret (aends (l := [.agg _, .bool _, .err _]) (.cell rfl rfl rfl (by exact True.intro) rfl ty53 (.tmp (.tmp .nil))) (fun h => by cases h) (.cons shut (fun h => by cases h) (.cons shut (fun h => by cases h) (.cons shut (fun h => by cases h) .nil))) rfl ⟨Wk.v ?_, rfl, rfl⟩)
          have hd : ¬ (s.pieces.getD n.index.toNat [] ≠ [] ∧ s.pieces.getD n.index.toNat [] ≠ n.data) := by
            generalize s.pieces.getD n.index.toNat [] = y at hc14
            by_cases h1 : y = [] <;> by_cases h2 : y = n.data <;> simp_all
          rw [show Sp.add s n = ({ s with pieces := s.pieces.set n.index.toNat n.data }, decide (s.pieces.getD n.index.toNat [] = []), 0) by simp only [Sp.add, hgs, hc7, hq, if_neg hd]; simp]
          show Wk _ (.tup [stageAV false _, .bool _, .err .nil]); simp only [stageAV, xidAV, List.length_set]; (repeat' (first | exact Wk.refl | exact Wk.sl0 | apply Wk.tup | apply Wk.agg | apply WkL.cons | exact WkL.nil | refine Wk.sl (fun _ _ => ?_)))
          rename_i j hj; simp only [strAt, List.getD_eq_getElem?_getD, List.getElem?_set]
          by_cases hj2 : j = n.index.toNat
          · subst hj2; simp [hj]
          · rw [if_neg hj2, if_neg (Ne.symm hj2)]
theorem c43 (b : Bool) (s : Stage) (hG3 : gl 3 = some (.err (.code 9))) : APure (V ea cds gl) 43 [stageAV b s] false (.tup [.sl 1 (decide ((Sp.missing s).1 = [])) (Sp.missing s).1.length (fun j => .int .i64 ((Sp.missing s).1.getD j 0)), .err (errD (Sp.missing s).2)]) := by
  refine acalls_of_body (N := 27) Tryd.func43 rfl rfl (Nat.le_of_ble_eq_true rfl) fun C hV hN hM hO => ?_
  obtain ⟨_, _, w0, G0, σ0, _, own0⟩ := C; dsimp only at hV hN hM hO; subst hV; subst hN; subst hM
  refine awp_seq ?_
  refine awp_region rfl ?_
  refine sR (opr_box (y := .agg _) (n := 1) rfl rfl rfl) rfl rfl rfl ?_
  first
    | refine sP (opp_as (v := .sl _ _ _ _) rfl rfl) rfl rfl ?_
    | refine sP (opp_as (v := .osl _ _ _ _ _) rfl rfl) rfl rfl ?_
  refine sP (opp_as (v := .err _) rfl rfl) rfl rfl ?_
  refine awp_seq ?_
  refine awp_seq ?_
  refine awp_region rfl ?_
  first
    | refine sP (opp_loadP rfl rfl rfl rfl bi rfl ty53) rfl rfl ?_
    | refine sP (opp_loadF rfl rfl ty53) rfl rfl ?_
  refine sR (opr_call rfl rfl ent93 rfl (c93 _ _) (AViews.refl _ rfl)) rfl rfl rfl ?_ -- d=8 t=4
  refine sP (opp_not rfl rfl) rfl rfl ?_
  refine awp_cond _ rfl (fun hc3 => ?_) (fun hc3 => ?_)
  · (try simp only [cmpI, errD_nil, Bool.not_eq_true', Bool.not_eq_false', decide_eq_true_eq, decide_eq_false_iff_not] at hc3); have ht9 := hc3
    refine awp_seq ?_
    refine awp_draw hmix rfl (by kernel_rfl) ?_
    refine dP (fun _ => false) (opp_loadF rfl (ev_glob hG3) ty29) rfl rfl ?_
    first
      | refine dP (fun _ => false) (opp_as (v := .sl _ _ _ _) rfl rfl) rfl rfl ?_
      | refine dP (fun _ => false) (opp_as (v := .osl _ _ _ _ _) rfl rfl) rfl rfl ?_
    refine dP (fun _ => false) (opp_as (v := .err _) rfl rfl) rfl rfl ?_
    refine And.intro (by kernel_rfl) ?_
    refine awp_ret ?_
    repeat (first | refine athen_ret ?_ | refine ain_ret ?_)
    first
      | refine apost_ret (aend (l := [.sl _ _ _ _, .err _]) (.tmp (.tmp .nil)) (fun h => by cases h) (.cons (.noN rfl rfl) (.cons (.noN rfl rfl) .nil)) ⟨Wk.v ?_, rfl, rfl⟩)
      | refine apost_ret (aends (l := [.sl _ _ _ _, .err _]) (.tmp (.tmp .nil)) (fun h => by cases h) (.cons shut (fun h => by cases h) (.cons shut (fun h => by cases h) .nil)) rfl ⟨Wk.v ?_, rfl, rfl⟩)
      | refine apost_ret (aend (l := [.osl _ _ _ _ _, .err _]) (.tmp (.tmp .nil)) (fun h => by cases h) (.cons (.noN rfl rfl) (.cons (.noN rfl rfl) .nil)) ⟨Wk.v ?_, rfl, rfl⟩)
      | refine apost_ret (aends (l := [.osl _ _ _ _ _, .err _]) (.tmp (.tmp .nil)) (fun h => by cases h) (.cons shut (fun h => by cases h) (.cons shut (fun h => by cases h) .nil)) rfl ⟨Wk.v ?_, rfl, rfl⟩)
    rw [show Sp.missing s = ([], 9) by simp [Sp.missing, hc3]]; show Wk _ (.tup [.sl 1 true 0 _, .err (.code 9)]); (repeat' (first | exact Wk.refl | exact Wk.sl0 | apply Wk.tup | apply Wk.agg | apply WkL.cons | exact WkL.nil | refine Wk.sl (fun _ _ => ?_)))
  · (try simp only [cmpI, errD_nil, Bool.not_eq_true', Bool.not_eq_false', decide_eq_true_eq, decide_eq_false_iff_not] at hc3); have ht9 := hc3
    refine awp_skip ?_
    refine awp_seq ?_
    have hgs : Sp.goodS s = true := by simpa using hc3
    have hgb := Sp.goodS_bounds hgs
    refine awp_region rfl ?_
    first
      | refine sP (opp_as (v := .sl _ _ _ _) rfl rfl) rfl rfl ?_
      | refine sP (opp_as (v := .osl _ _ _ _ _) rfl rfl) rfl rfl ?_
    refine awp_seq ?_
    refine awp_seq ?_
    refine awp_region rfl ?_
    first
      | refine sP (opp_fieldP rfl rfl fld53_4 rfl) rfl rfl ?_
      | refine sP (opp_fieldF rfl rfl rfl fld53_4 rfl rfl) rfl rfl ?_
    first
      | refine sP (opp_loadP rfl rfl rfl rfl bi rfl ty51) rfl rfl ?_
      | refine sP (opp_loadF rfl rfl ty51) rfl rfl ?_
    first
      | refine sP (opp_lenSl rfl rfl un51) rfl rfl ?_
      | refine sP (opp_lenOsl rfl rfl un51) rfl rfl ?_
    refine sP (opp_mv (v := .int _ _) rfl rfl) rfl rfl ?_
    refine awp_block ?_
    refine awp_loopK (ι := Nat × Bool) (fun p => p.1 ≤ s.pieces.length ∧ (p.2 = true ↔ (Sp.gone s p.1) = [])) (fun p => [(4, cond p.2 (.sl 1 true 0 (fun _ => .top)) (.osl 1004 1 0 (Sp.gone s p.1).length (Sp.gone s p.1).length)), (5, .top), (6, .top), (14, .int .i64 p.1), (15, .top), (16, .top), (17, .top), (18, .top), (19, .top), (20, .top), (21, .top), (22, .top), (23, .top), (24, .top), (25, .top)]) (fun p => [(1004, cond p.2 none (some (.arr 1 (Sp.gone s p.1).length (fun j => .int .i64 ((Sp.gone s p.1).getD j 0)))))]) [1004] (fun p => s.pieces.length - p.1) ((0, true)) (⟨Nat.zero_le _, by simp [Sp.gone]⟩) (by
      refine imp_over [] rfl rfl (by kernel_rfl) ?_ ?_
      · refine And.intro wkv ?_
        refine And.intro wkv ?_
        refine And.intro wkv ?_
        refine And.intro wkv ?_
        refine And.intro wkv ?_
        refine And.intro wkv ?_
        refine And.intro wkv ?_
        refine And.intro wkv ?_
        refine And.intro wkv ?_
        refine And.intro wkv ?_
        refine And.intro wkv ?_
        refine And.intro wkv ?_
        refine And.intro wkv ?_
        refine And.intro wkv ?_
        refine And.intro wkv ?_
        exact True.intro
      · exact True.intro
      ) ?_
    intro p hi1; obtain ⟨i, e⟩ := p; rcases e with _ | _
    · dsimp only [cond] at hi1 ⊢
      refine awp_seq ?_
      refine awp_region rfl ?_
      refine sP (opp_cmp rfl rfl rfl rfl) rfl rfl ?_
      refine awp_seq ?_
      refine awp_cond _ rfl (fun hc8 => ?_) (fun hc8 => ?_)
      · (try simp only [cmpI, errD_nil, Bool.not_eq_true', Bool.not_eq_false', decide_eq_true_eq, decide_eq_false_iff_not] at hc8); have ht15 := hc8
        refine awp_skip ?_
        refine awp_seq ?_
        refine awp_block ?_
        refine awp_seq ?_
        refine awp_region rfl ?_
        refine sP (opp_mv (v := .int _ _) rfl rfl) rfl rfl ?_
        first
          | refine sP (opp_indexSl rfl rfl rfl el51 (by omega) (by omega)) rfl rfl ?_
          | refine sP (opp_indexOsl0 rfl rfl rfl el51 (by omega) (by omega)) rfl rfl ?_
          | refine sP (opp_indexOsl rfl rfl rfl el51 (by omega) (by omega)) rfl rfl ?_
        first
          | refine sP (opp_loadP rfl rfl rfl rfl bi rfl ty9) rfl rfl ?_
          | refine sP (opp_loadF rfl rfl ty9) rfl rfl ?_
        refine sP (opp_as (v := .int _ _) rfl rfl) rfl rfl ?_
        refine sP (opp_as (v := .str _) rfl rfl) rfl rfl ?_
        refine awp_seq ?_
        refine awp_region rfl ?_
        refine sP (opp_mv (v := .str _) rfl rfl) rfl rfl ?_
        refine sP (opp_strEq (b := []) rfl rfl rfl (.inl ⟨rfl, rfl⟩)) rfl rfl ?_
        refine awp_cond _ rfl (fun hc11 => ?_) (fun hc11 => ?_)
        · (try simp only [cmpI, errD_nil, Bool.not_eq_true', Bool.not_eq_false', decide_eq_true_eq, decide_eq_false_iff_not] at hc11); have ht20 := hc11
          have hgl := Sp.gone_len s i
          refine awp_region rfl ?_
          first
            | refine sP (opp_mv (v := .sl _ _ _ _) rfl rfl) rfl rfl ?_
            | refine sP (opp_mv (v := .osl _ _ _ _ _) rfl rfl) rfl rfl ?_
          refine sP (opp_mv (v := .int _ _) rfl rfl) rfl rfl ?_
          refine sR (opr_buildSlice (n := 23) (g := fun j => if j = 0 then .int _ _ else .int .i64 0) rfl eb42 z3 (by decide) rfl rfl) rfl rfl rfl ?_
          first
            | refine sR (opr_append (d := 24) rfl rfl rfl (by omega) (.osl0 rfl (by omega)) eb42 z3 (by omega) (by omega)) rfl rfl rfl ?_
            | refine sR (opr_append (d := 24) rfl rfl rfl (by omega) .sl eb42 z3 (by omega) (by omega)) rfl rfl rfl ?_
            | refine sR (opr_append (d := 24) rfl rfl rfl (by omega) (.osl rfl (by omega) (fun _ _ => rfl)) eb42 z3 (by omega) (by omega)) rfl rfl rfl ?_
            | refine sR (opr_appendNil (d := 24) rfl rfl (.osl0 rfl (by omega)) eb42 z3 (by omega) (by omega) (by omega)) rfl rfl rfl ?_
            | refine sR (opr_appendNil (d := 24) rfl rfl .sl eb42 z3 (by omega) (by omega) (by omega)) rfl rfl rfl ?_
            | refine sR (opr_appendNil (d := 24) rfl rfl (.osl rfl (by omega) (fun _ _ => rfl)) eb42 z3 (by omega) (by omega) (by omega)) rfl rfl rfl ?_
          first
            | refine sP (opp_as (v := .sl _ _ _ _) rfl rfl) rfl rfl ?_
            | refine sP (opp_as (v := .osl _ _ _ _ _) rfl rfl) rfl rfl ?_
          refine awp_region rfl ?_
          first
            | refine sP (opp_arith rfl rfl rfl (.inl ⟨rfl, w64 (by omega)⟩)) rfl rfl ?_
            | refine sP (opp_arith rfl rfl rfl (.inl ⟨rfl, rfl⟩)) rfl rfl ?_
          refine sP (opp_mv (v := .int _ _) rfl rfl) rfl rfl ?_
          have hs1 : Sp.gone s (i + 1) = Sp.gone s i ++ [(i : Int)] := by rw [Sp.gone_succ, if_pos (by simpa using hc11)]
          refine Exists.intro ((i + 1, false)) (And.intro (And.intro (And.intro (by show i + 1 ≤ s.pieces.length; omega) (by rw [hs1]; simp)) (by omega)) (by
            refine imp_over [(1004, 24)] rfl rfl (by kernel_rfl) ?_ ?_
            · refine And.intro (by exact Or.inr (And.intro rfl (WkV.of (by show AV.osl 24 1 0 _ _ = AV.osl 24 1 0 _ _; rw [hs1]; simp)))) ?_
              refine And.intro wkv ?_
              refine And.intro wkv ?_
              refine And.intro wkv ?_
              refine And.intro wkv ?_
              refine And.intro wkv ?_
              refine And.intro wkv ?_
              refine And.intro wkv ?_
              refine And.intro wkv ?_
              refine And.intro wkv ?_
              refine And.intro wkv ?_
              refine And.intro wkv ?_
              refine And.intro wkv ?_
              refine And.intro wkv ?_
              refine And.intro wkv ?_
              exact True.intro
            · refine And.intro (And.intro rfl (And.intro rfl (Exists.intro _ (And.intro rfl (by show WkC (AV.arr 1 _ _) (AV.arr 1 _ _); rw [hs1, List.length_append]; exact WkC.arr (fun j hj => by exact Sp.int_append _ _ j (by simpa using hj))))))) ?_
              exact True.intro
            ))
        · (try simp only [cmpI, errD_nil, Bool.not_eq_true', Bool.not_eq_false', decide_eq_true_eq, decide_eq_false_iff_not] at hc11); have ht20 := hc11
          refine awp_skip ?_
          refine awp_region rfl ?_
          first
            | refine sP (opp_arith rfl rfl rfl (.inl ⟨rfl, w64 (by omega)⟩)) rfl rfl ?_
            | refine sP (opp_arith rfl rfl rfl (.inl ⟨rfl, rfl⟩)) rfl rfl ?_
          refine sP (opp_mv (v := .int _ _) rfl rfl) rfl rfl ?_
          have hs1 : Sp.gone s (i + 1) = Sp.gone s i := by rw [Sp.gone_succ, if_neg (by simpa using hc11)]
          refine Exists.intro ((i + 1, false)) (And.intro (And.intro (And.intro (by show i + 1 ≤ s.pieces.length; omega) (by rw [hs1]; exact hi1.2)) (by omega)) (by
            refine imp_over [] rfl rfl (by kernel_rfl) ?_ ?_
            · refine And.intro (by rw [hs1]; exact Or.inr (And.intro rfl (WkV.refl _))) ?_
              refine And.intro wkv ?_
              refine And.intro wkv ?_
              refine And.intro wkv ?_
              refine And.intro wkv ?_
              refine And.intro wkv ?_
              refine And.intro wkv ?_
              refine And.intro wkv ?_
              refine And.intro wkv ?_
              refine And.intro wkv ?_
              refine And.intro wkv ?_
              refine And.intro wkv ?_
              refine And.intro wkv ?_
              refine And.intro wkv ?_
              refine And.intro wkv ?_
              exact True.intro
            · refine And.intro (And.intro rfl (And.intro rfl (Exists.intro _ (And.intro rfl (by rw [hs1]; exact WkC.refl _))))) ?_
              exact True.intro
            ))
      · (try simp only [cmpI, errD_nil, Bool.not_eq_true', Bool.not_eq_false', decide_eq_true_eq, decide_eq_false_iff_not] at hc8); have ht15 := hc8
        refine awp_exit ?_
        refine awp_seq ?_
        refine awp_region rfl ?_
        first
          | refine sP (opp_mv (v := .sl _ _ _ _) rfl rfl) rfl rfl ?_
          | refine sP (opp_mv (v := .osl _ _ _ _ _) rfl rfl) rfl rfl ?_
        first
          | refine sP (opp_as (v := .sl _ _ _ _) rfl rfl) rfl rfl ?_
          | refine sP (opp_as (v := .osl _ _ _ _ _) rfl rfl) rfl rfl ?_
        refine sP (opp_as (v := .err _) rfl rfl) rfl rfl ?_
        refine awp_ret ?_
        repeat (first | refine athen_ret ?_ | refine ain_ret ?_)
        first
          | refine apost_ret (aend (l := [.sl _ _ _ _, .err _]) (.tmp (.tmp .nil)) (fun h => by cases h) (.cons (.noN rfl rfl) (.cons (.noN rfl rfl) .nil)) ⟨Wk.v ?_, rfl, rfl⟩)
          | refine apost_ret (aends (l := [.sl _ _ _ _, .err _]) (.tmp (.tmp .nil)) (fun h => by cases h) (.cons shut (fun h => by cases h) (.cons shut (fun h => by cases h) .nil)) rfl ⟨Wk.v ?_, rfl, rfl⟩)
          | refine apost_ret (aend (l := [.osl _ _ _ _ _, .err _]) (.tmp (.tmp .nil)) (fun h => by cases h) (.cons (.noN rfl rfl) (.cons (.noN rfl rfl) .nil)) ⟨Wk.v ?_, rfl, rfl⟩)
          | refine apost_ret (aends (l := [.osl _ _ _ _ _, .err _]) (.tmp (.tmp .nil)) (fun h => by cases h) (.cons shut (fun h => by cases h) (.cons shut (fun h => by cases h) .nil)) rfl ⟨Wk.v ?_, rfl, rfl⟩)
        have hi2 : i = s.pieces.length := by omega
        subst hi2
        have hne : Sp.gone s s.pieces.length ≠ [] := fun h => by have := hi1.2.2 h; cases this
        rw [show Sp.missing s = (Sp.gone s s.pieces.length, 0) by simp [Sp.missing, hgs, Sp.gone]]
        simp only [decide_eq_false hne]; (repeat' (first | exact Wk.refl | exact Wk.sl0 | apply Wk.tup | apply Wk.agg | apply WkL.cons | exact WkL.nil | refine Wk.sl (fun _ _ => ?_)))
    · dsimp only [cond] at hi1 ⊢
      refine awp_seq ?_
      refine awp_region rfl ?_
      refine sP (opp_cmp rfl rfl rfl rfl) rfl rfl ?_
      refine awp_seq ?_
      refine awp_cond _ rfl (fun hc17 => ?_) (fun hc17 => ?_)
      · (try simp only [cmpI, errD_nil, Bool.not_eq_true', Bool.not_eq_false', decide_eq_true_eq, decide_eq_false_iff_not] at hc17); have ht15 := hc17
        refine awp_skip ?_
        refine awp_seq ?_
        refine awp_block ?_
        refine awp_seq ?_
        refine awp_region rfl ?_
        refine sP (opp_mv (v := .int _ _) rfl rfl) rfl rfl ?_
        first
          | refine sP (opp_indexSl rfl rfl rfl el51 (by omega) (by omega)) rfl rfl ?_
          | refine sP (opp_indexOsl0 rfl rfl rfl el51 (by omega) (by omega)) rfl rfl ?_
          | refine sP (opp_indexOsl rfl rfl rfl el51 (by omega) (by omega)) rfl rfl ?_
        first
          | refine sP (opp_loadP rfl rfl rfl rfl bi rfl ty9) rfl rfl ?_
          | refine sP (opp_loadF rfl rfl ty9) rfl rfl ?_
        refine sP (opp_as (v := .int _ _) rfl rfl) rfl rfl ?_
        refine sP (opp_as (v := .str _) rfl rfl) rfl rfl ?_
        refine awp_seq ?_
        refine awp_region rfl ?_
        refine sP (opp_mv (v := .str _) rfl rfl) rfl rfl ?_
        refine sP (opp_strEq (b := []) rfl rfl rfl (.inl ⟨rfl, rfl⟩)) rfl rfl ?_
        refine awp_cond _ rfl (fun hc20 => ?_) (fun hc20 => ?_)
        · (try simp only [cmpI, errD_nil, Bool.not_eq_true', Bool.not_eq_false', decide_eq_true_eq, decide_eq_false_iff_not] at hc20); have ht20 := hc20
          have hgl := Sp.gone_len s i
          refine awp_region rfl ?_
          first
            | refine sP (opp_mv (v := .sl _ _ _ _) rfl rfl) rfl rfl ?_
            | refine sP (opp_mv (v := .osl _ _ _ _ _) rfl rfl) rfl rfl ?_
          refine sP (opp_mv (v := .int _ _) rfl rfl) rfl rfl ?_
          refine sR (opr_buildSlice (n := 23) (g := fun j => if j = 0 then .int _ _ else .int .i64 0) rfl eb42 z3 (by decide) rfl rfl) rfl rfl rfl ?_
          first
            | refine sR (opr_append (d := 24) rfl rfl rfl (by omega) (.osl0 rfl (by omega)) eb42 z3 (by omega) (by omega)) rfl rfl rfl ?_
            | refine sR (opr_append (d := 24) rfl rfl rfl (by omega) .sl eb42 z3 (by omega) (by omega)) rfl rfl rfl ?_
            | refine sR (opr_append (d := 24) rfl rfl rfl (by omega) (.osl rfl (by omega) (fun _ _ => rfl)) eb42 z3 (by omega) (by omega)) rfl rfl rfl ?_
            | refine sR (opr_appendNil (d := 24) rfl rfl (.osl0 rfl (by omega)) eb42 z3 (by omega) (by omega) (by omega)) rfl rfl rfl ?_
            | refine sR (opr_appendNil (d := 24) rfl rfl .sl eb42 z3 (by omega) (by omega) (by omega)) rfl rfl rfl ?_
            | refine sR (opr_appendNil (d := 24) rfl rfl (.osl rfl (by omega) (fun _ _ => rfl)) eb42 z3 (by omega) (by omega) (by omega)) rfl rfl rfl ?_
          first
            | refine sP (opp_as (v := .sl _ _ _ _) rfl rfl) rfl rfl ?_
            | refine sP (opp_as (v := .osl _ _ _ _ _) rfl rfl) rfl rfl ?_
          refine awp_region rfl ?_
          first
            | refine sP (opp_arith rfl rfl rfl (.inl ⟨rfl, w64 (by omega)⟩)) rfl rfl ?_
            | refine sP (opp_arith rfl rfl rfl (.inl ⟨rfl, rfl⟩)) rfl rfl ?_
          refine sP (opp_mv (v := .int _ _) rfl rfl) rfl rfl ?_
          have hs1 : Sp.gone s (i + 1) = Sp.gone s i ++ [(i : Int)] := by rw [Sp.gone_succ, if_pos (by simpa using hc20)]
          have hs0 : Sp.gone s i = [] := hi1.2.1 rfl
          refine Exists.intro ((i + 1, false)) (And.intro (And.intro (And.intro (by show i + 1 ≤ s.pieces.length; omega) (by rw [hs1]; simp)) (by omega)) (by
            refine imp_over [(1004, 24)] rfl rfl (by kernel_rfl) ?_ ?_
            · refine And.intro (by exact Or.inr (And.intro rfl (WkV.of (by show AV.osl 24 1 0 _ _ = AV.osl 24 1 0 _ _; rw [hs1, hs0]; simp)))) ?_
              refine And.intro wkv ?_
              refine And.intro wkv ?_
              refine And.intro wkv ?_
              refine And.intro wkv ?_
              refine And.intro wkv ?_
              refine And.intro wkv ?_
              refine And.intro wkv ?_
              refine And.intro wkv ?_
              refine And.intro wkv ?_
              refine And.intro wkv ?_
              refine And.intro wkv ?_
              refine And.intro wkv ?_
              refine And.intro wkv ?_
              refine And.intro wkv ?_
              exact True.intro
            · refine And.intro (And.intro rfl (And.intro rfl (Exists.intro _ (And.intro rfl (by show WkC (AV.arr 1 _ _) (AV.arr 1 _ _); rw [hs1, hs0]; exact WkC.arr (fun j hj => by have h0 : j = 0 := (by simpa using hj); subst h0; rfl)))))) ?_
              exact True.intro
            ))
        · (try simp only [cmpI, errD_nil, Bool.not_eq_true', Bool.not_eq_false', decide_eq_true_eq, decide_eq_false_iff_not] at hc20); have ht20 := hc20
          refine awp_skip ?_
          refine awp_region rfl ?_
          first
            | refine sP (opp_arith rfl rfl rfl (.inl ⟨rfl, w64 (by omega)⟩)) rfl rfl ?_
            | refine sP (opp_arith rfl rfl rfl (.inl ⟨rfl, rfl⟩)) rfl rfl ?_
          refine sP (opp_mv (v := .int _ _) rfl rfl) rfl rfl ?_
          have hs1 : Sp.gone s (i + 1) = Sp.gone s i := by rw [Sp.gone_succ, if_neg (by simpa using hc20)]
          refine Exists.intro ((i + 1, true)) (And.intro (And.intro (And.intro (by show i + 1 ≤ s.pieces.length; omega) (by rw [hs1]; exact hi1.2)) (by omega)) (by
            refine imp_over [] rfl rfl (by kernel_rfl) ?_ ?_
            · refine And.intro wkv ?_
              refine And.intro wkv ?_
              refine And.intro wkv ?_
              refine And.intro wkv ?_
              refine And.intro wkv ?_
              refine And.intro wkv ?_
              refine And.intro wkv ?_
              refine And.intro wkv ?_
              refine And.intro wkv ?_
              refine And.intro wkv ?_
              refine And.intro wkv ?_
              refine And.intro wkv ?_
              refine And.intro wkv ?_
              refine And.intro wkv ?_
              refine And.intro wkv ?_
              exact True.intro
            · exact True.intro
            ))
      · (try simp only [cmpI, errD_nil, Bool.not_eq_true', Bool.not_eq_false', decide_eq_true_eq, decide_eq_false_iff_not] at hc17); have ht15 := hc17
        refine awp_exit ?_
        refine awp_seq ?_
        refine awp_region rfl ?_
        first
          | refine sP (opp_mv (v := .sl _ _ _ _) rfl rfl) rfl rfl ?_
          | refine sP (opp_mv (v := .osl _ _ _ _ _) rfl rfl) rfl rfl ?_
        first
          | refine sP (opp_as (v := .sl _ _ _ _) rfl rfl) rfl rfl ?_
          | refine sP (opp_as (v := .osl _ _ _ _ _) rfl rfl) rfl rfl ?_
        refine sP (opp_as (v := .err _) rfl rfl) rfl rfl ?_
        refine awp_ret ?_
        repeat (first | refine athen_ret ?_ | refine ain_ret ?_)
        first
          | refine apost_ret (aend (l := [.sl _ _ _ _, .err _]) (.tmp (.tmp .nil)) (fun h => by cases h) (.cons (.noN rfl rfl) (.cons (.noN rfl rfl) .nil)) ⟨Wk.v ?_, rfl, rfl⟩)
          | refine apost_ret (aends (l := [.sl _ _ _ _, .err _]) (.tmp (.tmp .nil)) (fun h => by cases h) (.cons shut (fun h => by cases h) (.cons shut (fun h => by cases h) .nil)) rfl ⟨Wk.v ?_, rfl, rfl⟩)
          | refine apost_ret (aend (l := [.osl _ _ _ _ _, .err _]) (.tmp (.tmp .nil)) (fun h => by cases h) (.cons (.noN rfl rfl) (.cons (.noN rfl rfl) .nil)) ⟨Wk.v ?_, rfl, rfl⟩)
          | refine apost_ret (aends (l := [.osl _ _ _ _ _, .err _]) (.tmp (.tmp .nil)) (fun h => by cases h) (.cons shut (fun h => by cases h) (.cons shut (fun h => by cases h) .nil)) rfl ⟨Wk.v ?_, rfl, rfl⟩)
        have hi2 : i = s.pieces.length := by omega
        subst hi2
        have hne : Sp.gone s s.pieces.length = [] := hi1.2.1 rfl
        rw [show Sp.missing s = (Sp.gone s s.pieces.length, 0) by simp [Sp.missing, hgs, Sp.gone], hne]
        show Wk _ (.tup [.sl 1 true 0 _, .err .nil]); (repeat' (first | exact Wk.refl | exact Wk.sl0 | apply Wk.tup | apply Wk.agg | apply WkL.cons | exact WkL.nil | refine Wk.sl (fun _ _ => ?_)))
end
end Go.Proofs.YtgaihhimkodmmaaDoor
/- Layer 22: what has come (walks over this dump). -/
namespace Go.Proofs.YtgaihhimkodmmaaDoor
attribute [local irreducible] Tryd.prog
open Go.Fy
set_option linter.unusedSimpArgs false
section
variable {ea : Nat → Addr} {cds : List Nat} {gl : Nat → Option AV}
end
end Go.Proofs.YtgaihhimkodmmaaDoor
/- Layer 20: an image is cut (walks over this dump). -/
namespace Go.Proofs.YtgaihhimkodmmaaDoor
attribute [local irreducible] Tryd.prog
open Go.Fy
set_option linter.unusedSimpArgs false
section
variable {ea : Nat → Addr} {cds : List Nat} {gl : Nat → Option AV}
theorem c91 (b : Bool) (n : Nat) (f : Nat → AV) (k : Int) (h0 : 1 ≤ k) : APure (V ea cds gl) 91 [.sl 1 b n f, .int .i64 k] false (.fn 124 [.fptr (.sl 1 b n f), .fptr (.int .i64 k)]) := by
  refine acalls_of_body (N := 9) Tryd.func91 rfl rfl (Nat.le_of_ble_eq_true rfl) fun C hV hN hM hO => ?_
  obtain ⟨_, _, w0, G0, σ0, _, own0⟩ := C; dsimp only at hV hN hM hO; subst hV; subst hN; subst hM
  refine awp_seq ?_
  refine awp_region rfl ?_
  first
    | refine sR (opr_box (y := .sl _ _ _ _) (n := 2) rfl rfl rfl) rfl rfl rfl ?_
    | refine sR (opr_box (y := .osl _ _ _ _ _) (n := 2) rfl rfl rfl) rfl rfl rfl ?_
  refine sR (opr_box (y := .int _ _) (n := 3) rfl rfl rfl) rfl rfl rfl ?_
  first
    | refine sP (opp_as (v := .fn _ _) rfl rfl) rfl rfl ?_
    | refine sP (opp_as (v := .val _) rfl rfl) rfl rfl ?_
  refine awp_seq ?_
  refine awp_seq ?_
  refine awp_region rfl ?_
  first
    | refine sP (opp_loadP rfl rfl rfl rfl bi rfl ty3) rfl rfl ?_
    | refine sP (opp_loadF rfl rfl ty3) rfl rfl ?_
  refine sP (opp_cmp rfl rfl rfl rfl) rfl rfl ?_
  refine awp_cond _ rfl (fun hc3 => ?_) (fun hc3 => ?_)
  · (try simp only [cmpI, errD_nil, Bool.not_eq_true', Bool.not_eq_false', decide_eq_true_eq, decide_eq_false_iff_not] at hc3); have ht6 := hc3
    exfalso; first | omega | (simp_all; done)
  · (try simp only [cmpI, errD_nil, Bool.not_eq_true', Bool.not_eq_false', decide_eq_true_eq, decide_eq_false_iff_not] at hc3); have ht6 := hc3
    refine awp_skip ?_
    refine awp_seq ?_
    refine awp_region rfl ?_
    first
      | refine sP (opp_makeFunc (vs := [.ptr _ _ _, .ptr _ _ _]) rfl rfl rfl rfl) rfl rfl ?_
      | refine sP (opp_makeFunc (vs := [.ptr _ _ _, .fptr _]) rfl rfl rfl rfl) rfl rfl ?_
      | refine sP (opp_makeFunc (vs := [.ptr _ _ _, .fn _ _]) rfl rfl rfl rfl) rfl rfl ?_
      | refine sP (opp_makeFunc (vs := [.ptr _ _ _, .int _ _]) rfl rfl rfl rfl) rfl rfl ?_
      | refine sP (opp_makeFunc (vs := [.ptr _ _ _, .osl _ _ _ _ _]) rfl rfl rfl rfl) rfl rfl ?_
      | refine sP (opp_makeFunc (vs := [.ptr _ _ _, .sl _ _ _ _]) rfl rfl rfl rfl) rfl rfl ?_
      | refine sP (opp_makeFunc (vs := [.fptr _, .ptr _ _ _]) rfl rfl rfl rfl) rfl rfl ?_
      | refine sP (opp_makeFunc (vs := [.fptr _, .fptr _]) rfl rfl rfl rfl) rfl rfl ?_
      | refine sP (opp_makeFunc (vs := [.fptr _, .fn _ _]) rfl rfl rfl rfl) rfl rfl ?_
      | refine sP (opp_makeFunc (vs := [.fptr _, .int _ _]) rfl rfl rfl rfl) rfl rfl ?_
      | refine sP (opp_makeFunc (vs := [.fptr _, .osl _ _ _ _ _]) rfl rfl rfl rfl) rfl rfl ?_
      | refine sP (opp_makeFunc (vs := [.fptr _, .sl _ _ _ _]) rfl rfl rfl rfl) rfl rfl ?_
      | refine sP (opp_makeFunc (vs := [.fn _ _, .ptr _ _ _]) rfl rfl rfl rfl) rfl rfl ?_
      | refine sP (opp_makeFunc (vs := [.fn _ _, .fptr _]) rfl rfl rfl rfl) rfl rfl ?_
      | refine sP (opp_makeFunc (vs := [.fn _ _, .fn _ _]) rfl rfl rfl rfl) rfl rfl ?_
      | refine sP (opp_makeFunc (vs := [.fn _ _, .int _ _]) rfl rfl rfl rfl) rfl rfl ?_
      | refine sP (opp_makeFunc (vs := [.fn _ _, .osl _ _ _ _ _]) rfl rfl rfl rfl) rfl rfl ?_
      | refine sP (opp_makeFunc (vs := [.fn _ _, .sl _ _ _ _]) rfl rfl rfl rfl) rfl rfl ?_
      | refine sP (opp_makeFunc (vs := [.int _ _, .ptr _ _ _]) rfl rfl rfl rfl) rfl rfl ?_
      | refine sP (opp_makeFunc (vs := [.int _ _, .fptr _]) rfl rfl rfl rfl) rfl rfl ?_
      | refine sP (opp_makeFunc (vs := [.int _ _, .fn _ _]) rfl rfl rfl rfl) rfl rfl ?_
      | refine sP (opp_makeFunc (vs := [.int _ _, .int _ _]) rfl rfl rfl rfl) rfl rfl ?_
      | refine sP (opp_makeFunc (vs := [.int _ _, .osl _ _ _ _ _]) rfl rfl rfl rfl) rfl rfl ?_
      | refine sP (opp_makeFunc (vs := [.int _ _, .sl _ _ _ _]) rfl rfl rfl rfl) rfl rfl ?_
      | refine sP (opp_makeFunc (vs := [.osl _ _ _ _ _, .ptr _ _ _]) rfl rfl rfl rfl) rfl rfl ?_
      | refine sP (opp_makeFunc (vs := [.osl _ _ _ _ _, .fptr _]) rfl rfl rfl rfl) rfl rfl ?_
      | refine sP (opp_makeFunc (vs := [.osl _ _ _ _ _, .fn _ _]) rfl rfl rfl rfl) rfl rfl ?_
      | refine sP (opp_makeFunc (vs := [.osl _ _ _ _ _, .int _ _]) rfl rfl rfl rfl) rfl rfl ?_
      | refine sP (opp_makeFunc (vs := [.osl _ _ _ _ _, .osl _ _ _ _ _]) rfl rfl rfl rfl) rfl rfl ?_
      | refine sP (opp_makeFunc (vs := [.osl _ _ _ _ _, .sl _ _ _ _]) rfl rfl rfl rfl) rfl rfl ?_
      | refine sP (opp_makeFunc (vs := [.sl _ _ _ _, .ptr _ _ _]) rfl rfl rfl rfl) rfl rfl ?_
      | refine sP (opp_makeFunc (vs := [.sl _ _ _ _, .fptr _]) rfl rfl rfl rfl) rfl rfl ?_
      | refine sP (opp_makeFunc (vs := [.sl _ _ _ _, .fn _ _]) rfl rfl rfl rfl) rfl rfl ?_
      | refine sP (opp_makeFunc (vs := [.sl _ _ _ _, .int _ _]) rfl rfl rfl rfl) rfl rfl ?_
      | refine sP (opp_makeFunc (vs := [.sl _ _ _ _, .osl _ _ _ _ _]) rfl rfl rfl rfl) rfl rfl ?_
      | refine sP (opp_makeFunc (vs := [.sl _ _ _ _, .sl _ _ _ _]) rfl rfl rfl rfl) rfl rfl ?_
    first
      | refine sP (opp_as (v := .fn _ _) rfl rfl) rfl rfl ?_
      | refine sP (opp_as (v := .val _) rfl rfl) rfl rfl ?_
    refine awp_ret ?_
    repeat (first | refine athen_ret ?_ | refine ain_ret ?_)
    first
      | refine apost_ret (aend1 (r0 := .fn _ _) (.tmp .nil) (.noN rfl rfl) ⟨Wk.v ?_, rfl, rfl⟩)
      | refine apost_ret (aend1s (r0 := .fn _ _) (.tmp .nil) shut rfl ⟨Wk.v ?_, rfl, rfl⟩)
      | refine apost_ret (aend1 (r0 := .val _) (.tmp .nil) (.noN rfl rfl) ⟨Wk.v ?_, rfl, rfl⟩)
      | refine apost_ret (aend1s (r0 := .val _) (.tmp .nil) shut rfl ⟨Wk.v ?_, rfl, rfl⟩)
    (repeat' (first | exact Wk.refl | exact Wk.sl0 | apply Wk.tup | apply Wk.agg | apply WkL.cons | exact WkL.nil | refine Wk.sl (fun _ _ => ?_)))
end
end Go.Proofs.YtgaihhimkodmmaaDoor
/- Layer 20: an image is cut (walks over this dump). -/
namespace Go.Proofs.YtgaihhimkodmmaaDoor
open Go.Fy Go.RowKit
set_option linter.unusedSimpArgs false
attribute [local irreducible] Tryd.prog
/-- The pieces of a row. -/
theorem chunk_seq {ea : Nat → Addr} {cds : List Nat} {gl : Nat → Option AV} (b : Bool) (n : Nat) (f : Nat → AV) (h1 : 1 ≤ n) (h2 : n ≤ 4611686018427387904) :
    ASeq (V ea cds gl) 124 [.fptr (.sl 1 b n f), .fptr (.int .i64 128)] ((n + 127) / 128) (fun k => .sl 1 (decide (n ≤ 128 * k)) (min 128 (n - 128 * k)) fun j => f (128 * k + j)) := by
  intro E cv hV hE hG hcv
  obtain ⟨cl⟩ := cv
  simp only [RelC, Rel] at hcv
  obtain ⟨c1, d1, rfl, ⟨b1, e1, hs1, hg1, ds1, hh1, hr1⟩, c2, d2, rfl, ⟨b2, e2, hs2, hg2, ds2, hh2, hr2⟩, rfl⟩ := hcv
  simp only [List.cons.injEq, and_true] at e1 e2
  subst e1; subst e2
  obtain ⟨a, cap, rfl, hle, hnn, hnone, hel⟩ := hr1
  subst hr2
  cases a with
  | none => have := (hnone rfl).1; omega
  | some ad =>
    obtain ⟨hsp, hgd, hds⟩ := hel ad rfl
    have hsp := hsp (by omega)
    have hc1 : E.w.cell? ⟨b1.block, b1.off, none⟩ = some (.slice (some ad) n cap) := hh1 0 _ rfl
    have hc2 : E.w.cell? ⟨b2.block, b2.off, none⟩ = some (.int .i64 128) := hh2 0 _ rfl
    obtain ⟨ab, ao, asp⟩ := ad
    obtain ⟨bb1, bo1, bs1⟩ := b1
    obtain ⟨bb2, bo2, bs2⟩ := b2
    dsimp only at hsp hs1 hs2 hg1 hg2 hgd hc1 hc2
    subst hsp; subst hs1; subst hs2
    refine ⟨fun k => if 128 * k < n then .slice (some ⟨ab, ao + 128 * k, none⟩) (min 128 (n - 128 * k)) (min 128 (n - 128 * k)) else .slice none 0 0, fun k => ?_, fun m Kp hm hKp l J Jx W hW hJ hJx hY h0 => ?_⟩
    · simp only [RelV, Rel]
      by_cases hk : 128 * k < n
      · rw [if_pos hk]
        refine ⟨_, _, rfl, Nat.le_refl _, by simp; omega, (fun h => by cases h), fun bb hb => ?_⟩
        cases hb
        refine ⟨fun _ => rfl, fun _ => hgd (by omega), fun j hj => ?_⟩
        obtain ⟨ds, h3, h4, h5⟩ := hds (128 * k + j) (by omega)
        refine ⟨ds, h3, fun q v hq => ?_, h5⟩
        have := h4 q v hq
        simp only at this ⊢
        rw [show ao + 128 * k + (j * 1 + q) = ao + ((128 * k + j) * 1 + q) by omega]
        exact this
      · rw [if_neg hk, show min 128 (n - 128 * k) = 0 by omega]
        exact ⟨none, 0, rfl, Nat.le_refl _, by simp; omega, fun _ => ⟨rfl, rfl⟩, fun bb hb => by cases hb⟩
    · have hb1 : bb1 < E.w.heap.size := hG _ hg1
      have hb2 : bb2 < E.w.heap.size := hG _ hg2
      refine (chunk_in Fence.wide m trivial rfl hm l bb1 bo1 bb2 bo2 ab ao n cap hle h2 Kp J Jx (fun pre W hJW => hJ pre W W.drew none hJW ⟨rfl, rfl, rfl, Nat.le_refl _, fun _ _ _ => rfl⟩ (fun r h => by cases h))
        (fun A B hAB v hv => hKp A B hAB _ hg1 _ _ hv) (fun A B hAB v hv => hKp A B hAB _ hg2 _ _ hv) hY W ((hW.cell (p := ⟨bb1, bo1, none⟩) hb1).trans hc1) ((hW.cell (p := ⟨bb2, bo2, none⟩) hb2).trans hc2) h0)
section
variable {ea : Nat → Addr} {cds : List Nat} {gl : Nat → Option AV}
theorem c40 (p : Int) (x : Xid) (st : Int) (b : Bool) (im : List UInt8) (hG2 : gl 2 = some (.err (.code 12))) (hG6 : gl 6 = some (.err (.code 11))) :
    APure (V ea cds gl) 40 [.int .i64 p, xidAV x, .int .i64 st, .sl 1 b im.length (bAt im)] true
      (.tup [.sl 10 (decide ((Sp.cut p x st im).1 = [])) (Sp.cut p x st im).1.length (fun j => noteAV ((Sp.cut p x st im).1.getD j Sp.zero)), .err (errD (Sp.cut p x st im).2)]) := by
  refine acalls_of_body (N := 59) Tryd.func40 rfl rfl (Nat.le_of_ble_eq_true rfl) fun C hV hN hM hO => ?_
  obtain ⟨_, _, w0, G0, σ0, _, own0⟩ := C; dsimp only at hV hN hM hO; subst hV; subst hN; subst hM
  refine awp_seq ?_
  refine awp_region rfl ?_
  refine sR (opr_box (y := .int _ _) (n := 4) rfl rfl rfl) rfl rfl rfl ?_
  refine sR (opr_box (y := .agg _) (n := 5) rfl rfl rfl) rfl rfl rfl ?_
  refine sR (opr_box (y := .int _ _) (n := 6) rfl rfl rfl) rfl rfl rfl ?_
  first
    | refine sP (opp_as (v := .sl _ _ _ _) rfl rfl) rfl rfl ?_
    | refine sP (opp_as (v := .osl _ _ _ _ _) rfl rfl) rfl rfl ?_
  refine sP (opp_as (v := .err _) rfl rfl) rfl rfl ?_
  refine awp_seq ?_
  refine awp_seq ?_
  refine awp_region rfl ?_
  first
    | refine sP (opp_loadP rfl rfl rfl rfl bi rfl ty3) rfl rfl ?_
    | refine sP (opp_loadF rfl rfl ty3) rfl rfl ?_
  refine sR (opr_call rfl rfl ent87 rfl (c87 _) (AViews.refl _ rfl)) rfl rfl rfl ?_ -- d=14 t=4
  refine sP (opp_not rfl rfl) rfl rfl ?_
  refine sP (opp_mv (v := .bool _) rfl rfl) rfl rfl ?_
  first
    | refine sG _ rfl rfl rfl rfl (fun hg => (And.intro gi (True.intro))) (fun hg => opp_loadP rfl rfl rfl rfl bi rfl ty23) ?_
    | refine sG _ rfl rfl rfl rfl (fun hg => (And.intro gi (True.intro))) (fun hg => opp_loadF rfl rfl ty23) ?_
  refine sGR _ rfl rfl rfl rfl (fun hg => (And.intro gi (And.intro gi (True.intro)))) (fun hg => (opr_call rfl rfl ent88 rfl (c88 _) (AViews.refl _ rfl))) ?_
  refine sG _ rfl rfl rfl rfl (fun hg => (And.intro gi (True.intro))) (fun hg => opp_not rfl rfl) ?_
  refine sPick rfl rfl rfl rfl (by exact True.intro) rfl rfl (fun hg => gi) (fun hg => gi) ?_
  refine sP (opp_mv (v := .bool _) rfl rfl) rfl rfl ?_
  first
    | refine sG _ rfl rfl rfl rfl (fun hg => (And.intro gi (True.intro))) (fun hg => opp_loadP rfl rfl rfl rfl bi rfl ty3) ?_
    | refine sG _ rfl rfl rfl rfl (fun hg => (And.intro gi (True.intro))) (fun hg => opp_loadF rfl rfl ty3) ?_
  refine sGR _ rfl rfl rfl rfl (fun hg => (And.intro gi (And.intro gi (True.intro)))) (fun hg => (opr_call rfl rfl ent89 rfl (c89 _) (AViews.refl _ rfl))) ?_
  refine sG _ rfl rfl rfl rfl (fun hg => (And.intro gi (True.intro))) (fun hg => opp_not rfl rfl) ?_
  refine sPick rfl rfl rfl rfl (by exact True.intro) rfl rfl (fun hg => gi) (fun hg => gi) ?_
  refine awp_cond _ rfl (fun hc3 => ?_) (fun hc3 => ?_)
  · (try simp only [cmpI, errD_nil, Bool.not_eq_true', Bool.not_eq_false', decide_eq_true_eq, decide_eq_false_iff_not] at hc3); have ht25 := hc3
    refine awp_seq ?_
    refine awp_draw hmix rfl (by kernel_rfl) ?_
    refine dP (fun _ => false) (opp_loadF rfl (ev_glob hG2) ty29) rfl rfl ?_
    first
      | refine dP (fun _ => false) (opp_as (v := .sl _ _ _ _) rfl rfl) rfl rfl ?_
      | refine dP (fun _ => false) (opp_as (v := .osl _ _ _ _ _) rfl rfl) rfl rfl ?_
    refine dP (fun _ => false) (opp_as (v := .err _) rfl rfl) rfl rfl ?_
    refine And.intro (by kernel_rfl) ?_
    refine awp_ret ?_
    repeat (first | refine athen_ret ?_ | refine ain_ret ?_)
    first
      | refine apost_ret (aend (l := [.sl _ _ _ _, .err _]) (.tmp (.tmp .nil)) (fun h => by cases h) (.cons (.noN rfl rfl) (.cons (.noN rfl rfl) .nil)) ⟨Wk.v ?_, rfl, rfl⟩)
      | refine apost_ret (aends (l := [.sl _ _ _ _, .err _]) (.tmp (.tmp .nil)) (fun h => by cases h) (.cons shut (fun h => by cases h) (.cons shut (fun h => by cases h) .nil)) rfl ⟨Wk.v ?_, rfl, rfl⟩)
      | refine apost_ret (aend (l := [.osl _ _ _ _ _, .err _]) (.tmp (.tmp .nil)) (fun h => by cases h) (.cons (.noN rfl rfl) (.cons (.noN rfl rfl) .nil)) ⟨Wk.v ?_, rfl, rfl⟩)
      | refine apost_ret (aends (l := [.osl _ _ _ _ _, .err _]) (.tmp (.tmp .nil)) (fun h => by cases h) (.cons shut (fun h => by cases h) (.cons shut (fun h => by cases h) .nil)) rfl ⟨Wk.v ?_, rfl, rfl⟩)
    have h : (Sp.goodPart p && Sp.goodXid x && Sp.goodStage st) = false := by
      cases h1 : Sp.goodPart p <;> cases h2 : Sp.goodXid x <;> cases h3 : Sp.goodStage st <;> simp [h1, h2, h3] at hc3 ⊢
    rw [show Sp.cut p x st im = ([], 12) by simp only [Sp.cut, h, if_true]]; show Wk _ (.tup [.sl 10 true 0 _, .err (.code 12)]); (repeat' (first | exact Wk.refl | exact Wk.sl0 | apply Wk.tup | apply Wk.agg | apply WkL.cons | exact WkL.nil | refine Wk.sl (fun _ _ => ?_)))
  · (try simp only [cmpI, errD_nil, Bool.not_eq_true', Bool.not_eq_false', decide_eq_true_eq, decide_eq_false_iff_not] at hc3); have ht25 := hc3
    refine awp_skip ?_
    refine awp_seq ?_
    refine awp_seq ?_
    refine awp_region rfl ?_
    first
      | refine sP (opp_mv (v := .sl _ _ _ _) rfl rfl) rfl rfl ?_
      | refine sP (opp_mv (v := .osl _ _ _ _ _) rfl rfl) rfl rfl ?_
    first
      | refine sP (opp_lenSl rfl rfl un36) rfl rfl ?_
      | refine sP (opp_lenOsl rfl rfl un36) rfl rfl ?_
    refine sR (opr_call rfl rfl ent90 rfl (c90 _ _ _) (AViews.refl _ rfl)) rfl rfl rfl ?_ -- d=29 t=4
    refine sP (opp_not rfl rfl) rfl rfl ?_
    refine awp_cond _ rfl (fun hc6 => ?_) (fun hc6 => ?_)
    · (try simp only [cmpI, errD_nil, Bool.not_eq_true', Bool.not_eq_false', decide_eq_true_eq, decide_eq_false_iff_not] at hc6); have ht30 := hc6
      refine awp_seq ?_
      refine awp_draw hmix rfl (by kernel_rfl) ?_
      refine dP (fun _ => false) (opp_loadF rfl (ev_glob hG6) ty29) rfl rfl ?_
      first
        | refine dP (fun _ => false) (opp_as (v := .sl _ _ _ _) rfl rfl) rfl rfl ?_
        | refine dP (fun _ => false) (opp_as (v := .osl _ _ _ _ _) rfl rfl) rfl rfl ?_
      refine dP (fun _ => false) (opp_as (v := .err _) rfl rfl) rfl rfl ?_
      refine And.intro (by kernel_rfl) ?_
      refine awp_ret ?_
      repeat (first | refine athen_ret ?_ | refine ain_ret ?_)
      first
        | refine apost_ret (aend (l := [.sl _ _ _ _, .err _]) (.tmp (.tmp .nil)) (fun h => by cases h) (.cons (.noN rfl rfl) (.cons (.noN rfl rfl) .nil)) ⟨Wk.v ?_, rfl, rfl⟩)
        | refine apost_ret (aends (l := [.sl _ _ _ _, .err _]) (.tmp (.tmp .nil)) (fun h => by cases h) (.cons shut (fun h => by cases h) (.cons shut (fun h => by cases h) .nil)) rfl ⟨Wk.v ?_, rfl, rfl⟩)
        | refine apost_ret (aend (l := [.osl _ _ _ _ _, .err _]) (.tmp (.tmp .nil)) (fun h => by cases h) (.cons (.noN rfl rfl) (.cons (.noN rfl rfl) .nil)) ⟨Wk.v ?_, rfl, rfl⟩)
        | refine apost_ret (aends (l := [.osl _ _ _ _ _, .err _]) (.tmp (.tmp .nil)) (fun h => by cases h) (.cons shut (fun h => by cases h) (.cons shut (fun h => by cases h) .nil)) rfl ⟨Wk.v ?_, rfl, rfl⟩)
      have hgd : (Sp.goodPart p && Sp.goodXid x && Sp.goodStage st) = true := by
        cases h1 : Sp.goodPart p <;> cases h2 : Sp.goodXid x <;> cases h3 : Sp.goodStage st <;> simp [h1, h2, h3] at hc3 ⊢
      rw [show Sp.cut p x st im = ([], 11) by simp [Sp.cut, hgd, hc6]]; show Wk _ (.tup [.sl 10 true 0 _, .err (.code 11)]); (repeat' (first | exact Wk.refl | exact Wk.sl0 | apply Wk.tup | apply Wk.agg | apply WkL.cons | exact WkL.nil | refine Wk.sl (fun _ _ => ?_)))
    · (try simp only [cmpI, errD_nil, Bool.not_eq_true', Bool.not_eq_false', decide_eq_true_eq, decide_eq_false_iff_not] at hc6); have ht30 := hc6
      refine awp_skip ?_
      refine awp_seq ?_
      have hsz : 1 ≤ im.length ∧ im.length ≤ 4096 := by
        have : Sp.within im.length 1 4096 = true := by simpa using hc6
        simp only [Sp.within, decide_eq_true_eq] at this; omega
      have htot : Sp.total im ≤ 32 := by unfold Sp.total; omega
      have htot1 : 1 ≤ Sp.total im := by unfold Sp.total; omega
      have hgd : (Sp.goodPart p && Sp.goodXid x && Sp.goodStage st) = true := by
        cases h1 : Sp.goodPart p <;> cases h2 : Sp.goodXid x <;> cases h3 : Sp.goodStage st <;> simp [h1, h2, h3] at hc3 ⊢
      refine awp_region rfl ?_
      refine sR (opr_alloc (n := 10) rfl z48) rfl rfl rfl ?_
      refine awp_seq ?_
      refine awp_seq ?_
      refine awp_region rfl ?_
      first
        | refine sP (opp_mv (v := .sl _ _ _ _) rfl rfl) rfl rfl ?_
        | refine sP (opp_mv (v := .osl _ _ _ _ _) rfl rfl) rfl rfl ?_
      refine sR (opr_call rfl rfl ent91 rfl (c91 _ _ _ _ (by first | omega | (simp_all; done))) (AViews.refl _ rfl)) rfl rfl rfl ?_ -- d=33 t=160
      refine awp_block ?_
      refine awp_rangeFunc (x := fun k => .sl 1 (decide (im.length ≤ 128 * k)) (min 128 (im.length - 128 * k)) (fun j => bAt im (128 * k + j))) (total := Sp.total im) rfl ent124 (chunk_seq b im.length (bAt im) (by omega) (by omega)) rfl rfl rfl (Nat.le_of_ble_eq_true rfl) (Nat.le_of_ble_eq_true rfl) (by kernel_rfl) (fun pre => [(10, cond pre.isEmpty (some (.sl 10 true 0 (fun _ => .top))) (some (.osl 1044 10 0 pre.length pre.length))), (1044, cond pre.isEmpty none (some (.arr 10 pre.length (fun j => noteAV (Sp.cutNote p x st im (pre.getD j 0) j 0)))))]) [1044] (by
        refine imp_over (L := []) [] rfl rfl (by kernel_rfl) True.intro ?_
        refine And.intro (And.intro rfl (And.intro rfl (Exists.intro _ (And.intro rfl wkc)))) ?_
        exact True.intro
        ) (fun C' hV' hN' hM' l m pre k hlen => ?_) ?_
      obtain ⟨_, _, w0', G0', σ0', _, own0'⟩ := C'; dsimp only at hV' hN' hM'; subst hV'; subst hN'; subst hM'; rcases pre with _ | ⟨p0, rest⟩
      · skip
        refine awpr_block ?_
        refine awpr_region rfl rfl ?_
        first
          | refine sP (opp_loadP rfl rfl rfl rfl bi rfl ty48) rfl rfl ?_
          | refine sP (opp_loadF rfl rfl ty48) rfl rfl ?_
        first
          | refine sP (opp_loadP rfl rfl rfl rfl bi rfl ty3) rfl rfl ?_
          | refine sP (opp_loadF rfl rfl ty3) rfl rfl ?_
        first
          | refine sP (opp_loadP rfl rfl rfl rfl bi rfl ty23) rfl rfl ?_
          | refine sP (opp_loadF rfl rfl ty23) rfl rfl ?_
        first
          | refine sP (opp_loadP rfl rfl rfl rfl bi rfl ty3) rfl rfl ?_
          | refine sP (opp_loadF rfl rfl ty3) rfl rfl ?_
        first
          | refine sP (opp_loadP rfl rfl rfl rfl bi rfl ty48) rfl rfl ?_
          | refine sP (opp_loadF rfl rfl ty48) rfl rfl ?_
        first
          | refine sP (opp_lenSl rfl rfl un48) rfl rfl ?_
          | refine sP (opp_lenOsl rfl rfl un48) rfl rfl ?_
        first
          | refine sP (opp_mv (v := .sl _ _ _ _) rfl rfl) rfl rfl ?_
          | refine sP (opp_mv (v := .osl _ _ _ _ _) rfl rfl) rfl rfl ?_
        refine sP (opp_bytesStr rfl rfl (Sp.pieceOf im k) (Sp.pieceOf_length im k) (fun j hj => by rw [Sp.pieceOf_get im k j hj]; rfl) un36 unu8 un9) rfl rfl ?_
        refine sP (opp_build rfl z26 bld26 rfl [.int _ _, .int _ _, .agg _, .int _ _, .int _ _, .int .i64 0, .int .u32 0, .str _] rfl) rfl rfl ?_
        refine sR (opr_buildSlice (n := 44) (g := fun j => if j = 0 then .agg _ else .agg [.int .i64 0, .int .i64 0, .agg [.int .i64 0, .int .i64 0, .int .i64 0], .int .i64 0, .int .i64 0, .int .i64 0, .int .u32 0, .str []]) rfl eb48 z26 (by decide) rfl rfl) rfl rfl rfl ?_
        first
          | refine sR (opr_append (d := 45) rfl rfl rfl (by omega) (.osl0 rfl (by omega)) eb48 z26 (by omega) (by omega)) rfl rfl rfl ?_
          | refine sR (opr_append (d := 45) rfl rfl rfl (by omega) .sl eb48 z26 (by omega) (by omega)) rfl rfl rfl ?_
          | refine sR (opr_append (d := 45) rfl rfl rfl (by omega) (.osl rfl (by omega) (fun _ _ => rfl)) eb48 z26 (by omega) (by omega)) rfl rfl rfl ?_
          | refine sR (opr_appendNil (d := 45) rfl rfl (.osl0 rfl (by omega)) eb48 z26 (by omega) (by omega) (by omega)) rfl rfl rfl ?_
          | refine sR (opr_appendNil (d := 45) rfl rfl .sl eb48 z26 (by omega) (by omega) (by omega)) rfl rfl rfl ?_
          | refine sR (opr_appendNil (d := 45) rfl rfl (.osl rfl (by omega) (fun _ _ => rfl)) eb48 z26 (by omega) (by omega) (by omega)) rfl rfl rfl ?_
        first
          | refine sR0 (opr_store (v := .sl _ _ _ _) (trn := (.sl _ _ _ _)) rfl rfl rfl rfl bi rfl rfl rfl rfl fr2 ty48 (fun _ _ h => h)) rfl rfl rfl ?_
          | refine sR0 (opr_store (v := .osl _ _ _ _ _) (trn := (.osl _ _ _ _ _)) rfl rfl rfl rfl bi rfl rfl rfl rfl fr2 ty48 (fun _ _ h => h)) rfl rfl rfl ?_
        refine And.intro rfl (Exists.intro [] (imp_overH [(1044, 45)] rfl (by kernel_rfl) ?_))
        refine And.intro (And.intro rfl (And.intro rfl (Exists.intro _ (And.intro rfl wkc)))) ?_
        refine And.intro (And.intro rfl (And.intro rfl (Exists.intro _ (And.intro rfl (by exact WkC.arr (fun j hj => by have h0 : j = 0 := (by simpa using hj); subst h0; rfl)))))) ?_
        exact True.intro
      · skip
        refine awpr_block ?_
        refine awpr_region rfl rfl ?_
        first
          | refine sP (opp_loadP rfl rfl rfl rfl bi rfl ty48) rfl rfl ?_
          | refine sP (opp_loadF rfl rfl ty48) rfl rfl ?_
        first
          | refine sP (opp_loadP rfl rfl rfl rfl bi rfl ty3) rfl rfl ?_
          | refine sP (opp_loadF rfl rfl ty3) rfl rfl ?_
        first
          | refine sP (opp_loadP rfl rfl rfl rfl bi rfl ty23) rfl rfl ?_
          | refine sP (opp_loadF rfl rfl ty23) rfl rfl ?_
        first
          | refine sP (opp_loadP rfl rfl rfl rfl bi rfl ty3) rfl rfl ?_
          | refine sP (opp_loadF rfl rfl ty3) rfl rfl ?_
        first
          | refine sP (opp_loadP rfl rfl rfl rfl bi rfl ty48) rfl rfl ?_
          | refine sP (opp_loadF rfl rfl ty48) rfl rfl ?_
        first
          | refine sP (opp_lenSl rfl rfl un48) rfl rfl ?_
          | refine sP (opp_lenOsl rfl rfl un48) rfl rfl ?_
        first
          | refine sP (opp_mv (v := .sl _ _ _ _) rfl rfl) rfl rfl ?_
          | refine sP (opp_mv (v := .osl _ _ _ _ _) rfl rfl) rfl rfl ?_
        refine sP (opp_bytesStr rfl rfl (Sp.pieceOf im k) (Sp.pieceOf_length im k) (fun j hj => by rw [Sp.pieceOf_get im k j hj]; rfl) un36 unu8 un9) rfl rfl ?_
        refine sP (opp_build rfl z26 bld26 rfl [.int _ _, .int _ _, .agg _, .int _ _, .int _ _, .int .i64 0, .int .u32 0, .str _] rfl) rfl rfl ?_
        refine sR (opr_buildSlice (n := 44) (g := fun j => if j = 0 then .agg _ else .agg [.int .i64 0, .int .i64 0, .agg [.int .i64 0, .int .i64 0, .int .i64 0], .int .i64 0, .int .i64 0, .int .i64 0, .int .u32 0, .str []]) rfl eb48 z26 (by decide) rfl rfl) rfl rfl rfl ?_
        first
          | refine sR (opr_append (d := 45) rfl rfl rfl (by omega) (.osl0 rfl (by omega)) eb48 z26 (by omega) (by omega)) rfl rfl rfl ?_
          | refine sR (opr_append (d := 45) rfl rfl rfl (by omega) .sl eb48 z26 (by omega) (by omega)) rfl rfl rfl ?_
          | refine sR (opr_append (d := 45) rfl rfl rfl (by omega) (.osl rfl (by omega) (fun _ _ => rfl)) eb48 z26 (by omega) (by omega)) rfl rfl rfl ?_
          | refine sR (opr_appendNil (d := 45) rfl rfl (.osl0 rfl (by omega)) eb48 z26 (by omega) (by omega) (by omega)) rfl rfl rfl ?_
          | refine sR (opr_appendNil (d := 45) rfl rfl .sl eb48 z26 (by omega) (by omega) (by omega)) rfl rfl rfl ?_
          | refine sR (opr_appendNil (d := 45) rfl rfl (.osl rfl (by omega) (fun _ _ => rfl)) eb48 z26 (by omega) (by omega) (by omega)) rfl rfl rfl ?_
        first
          | refine sR0 (opr_store (v := .sl _ _ _ _) (trn := (.sl _ _ _ _)) rfl rfl rfl rfl bi rfl rfl rfl rfl fr2 ty48 (fun _ _ h => h)) rfl rfl rfl ?_
          | refine sR0 (opr_store (v := .osl _ _ _ _ _) (trn := (.osl _ _ _ _ _)) rfl rfl rfl rfl bi rfl rfl rfl rfl fr2 ty48 (fun _ _ h => h)) rfl rfl rfl ?_
        refine And.intro rfl (Exists.intro [] (imp_overH [(1044, 45)] rfl (by kernel_rfl) ?_))
        refine And.intro (And.intro rfl (And.intro rfl (Exists.intro _ (And.intro rfl (by exact WkC.of (by show AV.osl 45 10 0 _ _ = AV.osl 45 10 0 _ _; simp)))))) ?_
        refine And.intro (And.intro rfl (And.intro rfl (Exists.intro _ (And.intro rfl (by show WkC (AV.arr 10 _ _) (AV.arr 10 _ _); rw [List.length_append]; exact WkC.arr (fun j hj => Sp.cut_append p x st im (p0 :: rest) k j _ rfl _ hj)))))) ?_
        exact True.intro
      · obtain ⟨p0, rest, hr⟩ : ∃ p0 rest, List.range (Sp.total im) = p0 :: rest := by
          cases h : List.range (Sp.total im) with
          | nil => have := congrArg List.length h; simp at this; omega
          | cons p0 rest => exact ⟨p0, rest, rfl⟩
        have hlen : (p0 :: rest).length = Sp.total im := by rw [← hr]; simp
        rw [hr]
        refine awp_seq ?_
        refine awp_seq ?_
        refine awp_region rfl ?_
        first
          | refine sP (opp_loadP rfl rfl rfl rfl bi rfl ty48) rfl rfl ?_
          | refine sP (opp_loadF rfl rfl ty48) rfl rfl ?_
        first
          | refine sP (opp_lenSl rfl rfl un48) rfl rfl ?_
          | refine sP (opp_lenOsl rfl rfl un48) rfl rfl ?_
        refine sP (opp_mv (v := .int _ _) rfl rfl) rfl rfl ?_
        refine awp_block ?_
        refine awp_loopK (ι := Nat) (fun i => i ≤ (p0 :: rest).length) (fun i => [(12, .top), (48, .int .i64 i), (49, .top), (50, .top), (51, .top), (52, .top), (53, .top), (54, .top), (55, .top), (56, .top), (57, .top)]) (fun i => [(1044, some (.arr 10 (p0 :: rest).length (fun j => noteAV (Sp.cutNote p x st im j j (if j < i then Sp.total im else 0)))))]) [] (fun i => (p0 :: rest).length - i) (0) (Nat.zero_le _) (by
          refine imp_over [] rfl rfl (by kernel_rfl) ?_ ?_
          · refine And.intro wkv ?_
            refine And.intro wkv ?_
            refine And.intro wkv ?_
            refine And.intro wkv ?_
            refine And.intro wkv ?_
            refine And.intro wkv ?_
            refine And.intro wkv ?_
            refine And.intro wkv ?_
            refine And.intro wkv ?_
            refine And.intro wkv ?_
            refine And.intro wkv ?_
            exact True.intro
          · refine And.intro (And.intro rfl (And.intro rfl (Exists.intro _ (And.intro rfl (by exact WkC.arr (fun j hj => by rw [← hr, Sp.range_get _ _ (by rw [← hlen]; exact hj)]; simp)))))) ?_
            exact True.intro
          ) ?_
        intro i hi1
        refine awp_seq ?_
        refine awp_region rfl ?_
        refine sP (opp_cmp rfl rfl rfl rfl) rfl rfl ?_
        refine awp_seq ?_
        refine awp_cond _ rfl (fun hc14 => ?_) (fun hc14 => ?_)
        · (try simp only [cmpI, errD_nil, Bool.not_eq_true', Bool.not_eq_false', decide_eq_true_eq, decide_eq_false_iff_not] at hc14); have ht49 := hc14
          refine awp_skip ?_
          refine awp_seq ?_
          refine awp_block ?_
          refine awp_seq ?_
          refine awp_region rfl ?_
          refine sP (opp_mv (v := .int _ _) rfl rfl) rfl rfl ?_
          refine sP (opp_as (v := .int _ _) rfl rfl) rfl rfl ?_
          refine awp_region rfl ?_
          first
            | refine sP (opp_loadP rfl rfl rfl rfl bi rfl ty48) rfl rfl ?_
            | refine sP (opp_loadF rfl rfl ty48) rfl rfl ?_
          refine sP (opp_mv (v := .int _ _) rfl rfl) rfl rfl ?_
          first
            | refine sP (opp_loadP rfl rfl rfl rfl bi rfl ty48) rfl rfl ?_
            | refine sP (opp_loadF rfl rfl ty48) rfl rfl ?_
          first
            | refine sP (opp_lenSl rfl rfl un48) rfl rfl ?_
            | refine sP (opp_lenOsl rfl rfl un48) rfl rfl ?_
          first
            | refine sP (opp_indexSl rfl rfl rfl el48 (by omega) (by omega)) rfl rfl ?_
            | refine sP (opp_indexOsl0 rfl rfl rfl el48 (by omega) (by omega)) rfl rfl ?_
            | refine sP (opp_indexOsl rfl rfl rfl el48 (by omega) (by omega)) rfl rfl ?_
          first
            | refine sP (opp_fieldP rfl rfl fld26_5 rfl) rfl rfl ?_
            | refine sP (opp_fieldF rfl rfl rfl fld26_5 rfl rfl) rfl rfl ?_
          first
            | refine sR0 (opr_storeA (v := .int _ _) rfl rfl rfl (by omega) (by first | rfl | omega) rfl rfl rfl rfl ty3) rfl rfl rfl ?_
            | refine sR0 (opr_storeAF (v := .int _ _) (w := .agg [_, _, _, _, _, .int _ _, _, _]) rfl rfl rfl (by omega) rfl rfl rfl rfl rfl rfl rfl rfl ty3) rfl rfl rfl ?_
          refine awp_region rfl ?_
          first
            | refine sP (opp_arith rfl rfl rfl (.inl ⟨rfl, w64 (by omega)⟩)) rfl rfl ?_
            | refine sP (opp_arith rfl rfl rfl (.inl ⟨rfl, rfl⟩)) rfl rfl ?_
          refine sP (opp_mv (v := .int _ _) rfl rfl) rfl rfl ?_
          refine Exists.intro (i + 1) (And.intro (And.intro (by omega) (by omega)) (by
            refine imp_over [] rfl rfl (by kernel_rfl) ?_ ?_
            · refine And.intro wkv ?_
              refine And.intro wkv ?_
              refine And.intro wkv ?_
              refine And.intro wkv ?_
              refine And.intro wkv ?_
              refine And.intro wkv ?_
              refine And.intro wkv ?_
              refine And.intro wkv ?_
              refine And.intro wkv ?_
              refine And.intro wkv ?_
              refine And.intro wkv ?_
              exact True.intro
            · refine And.intro (And.intro rfl (And.intro rfl (Exists.intro _ (And.intro rfl (by exact WkC.arr (fun j hj => Sp.cut_tot p x st im j i _ _ (fun h => by subst h; rw [hlen]; simp [noteAV, Sp.cutNote]))))))) ?_
              exact True.intro
            ))
        · (try simp only [cmpI, errD_nil, Bool.not_eq_true', Bool.not_eq_false', decide_eq_true_eq, decide_eq_false_iff_not] at hc14); have ht49 := hc14
          refine awp_exit ?_
          refine awp_seq ?_
          refine awp_region rfl ?_
          first
            | refine sP (opp_loadP rfl rfl rfl rfl bi rfl ty48) rfl rfl ?_
            | refine sP (opp_loadF rfl rfl ty48) rfl rfl ?_
          first
            | refine sP (opp_as (v := .sl _ _ _ _) rfl rfl) rfl rfl ?_
            | refine sP (opp_as (v := .osl _ _ _ _ _) rfl rfl) rfl rfl ?_
          refine sP (opp_as (v := .err _) rfl rfl) rfl rfl ?_
          refine awp_ret ?_
          repeat (first | refine athen_ret ?_ | refine ain_ret ?_)
          first
            | refine apost_ret (aend (l := [.sl _ _ _ _, .err _]) (.tmp (.tmp .nil)) (fun h => by cases h) (.cons (.noN rfl rfl) (.cons (.noN rfl rfl) .nil)) ⟨Wk.v ?_, rfl, rfl⟩)
            | refine apost_ret (aends (l := [.sl _ _ _ _, .err _]) (.tmp (.tmp .nil)) (fun h => by cases h) (.cons shut (fun h => by cases h) (.cons shut (fun h => by cases h) .nil)) rfl ⟨Wk.v ?_, rfl, rfl⟩)
            | refine apost_ret (aend (l := [.osl _ _ _ _ _, .err _]) (.tmp (.tmp .nil)) (fun h => by cases h) (.cons (.noN rfl rfl) (.cons (.noN rfl rfl) .nil)) ⟨Wk.v ?_, rfl, rfl⟩)
            | refine apost_ret (aends (l := [.osl _ _ _ _ _, .err _]) (.tmp (.tmp .nil)) (fun h => by cases h) (.cons shut (fun h => by cases h) (.cons shut (fun h => by cases h) .nil)) rfl ⟨Wk.v ?_, rfl, rfl⟩)
          have hi2 : i = Sp.total im := by omega
          have hne : Sp.notes p x st im ≠ [] := fun h => by have := congrArg List.length h; rw [Sp.notes_length] at this; simp at this; omega
          rw [show Sp.cut p x st im = (Sp.notes p x st im, 0) by simp [Sp.cut, hgd, hc6], hlen]; simp only [decide_eq_false hne, Sp.notes_length]; (repeat' (first | exact Wk.refl | exact Wk.sl0 | apply Wk.tup | apply Wk.agg | apply WkL.cons | exact WkL.nil | refine Wk.sl (fun _ _ => ?_)))
          rename_i j hj; rw [Sp.notes_get _ _ _ _ _ hj, if_pos (by omega)]
end
end Go.Proofs.YtgaihhimkodmmaaDoor
/- The laws of layer 20: what they begin with (walks over this dump). -/
namespace Go.Proofs.YtgaihhimkodmmaaDoor
attribute [local irreducible] Tryd.prog
open Go.Fy
set_option linter.unusedSimpArgs false
set_option linter.unusedVariables false
section
variable {ea : Nat → Addr} {cds : List Nat} {gl : Nat → Option AV}
theorem bAt_rep (n j : Nat) : bAt (List.replicate n 0) j = .int .u8 0 := by
  simp only [bAt, List.getD_eq_getElem?_getD, List.getElem?_replicate]; split <;> rfl
theorem c17 : APure (V ea cds gl) 17 [] true (noteAV Sp.kN) := by
  refine acalls_of_body (N := 3) Tryd.func17 rfl rfl (Nat.le_of_ble_eq_true rfl) fun C hV hN hM hO => ?_
  obtain ⟨_, _, w0, G0, σ0, _, own0⟩ := C; dsimp only at hV hN hM hO; subst hV; subst hN; subst hM
  refine awp_seq ?_
  refine awp_region rfl ?_
  refine sR (opr_alloc (n := 0) rfl z26) rfl rfl rfl ?_
  refine awp_seq ?_
  refine awp_region rfl ?_
  refine sP (opp_build rfl z23 bld23 rfl [.int _ _, .int _ _, .int _ _] rfl) rfl rfl ?_
  refine sP (opp_build rfl z26 bld26 rfl [.int _ _, .int _ _, .agg _, .int .i64 0, .int .i64 0, .int .i64 0, .int .u32 0, .str []] rfl) rfl rfl ?_
  refine sR0 (opr_store (v := .agg _) (trn := (.agg _)) rfl rfl rfl rfl bi rfl rfl rfl rfl fr2 ty26 (fun _ _ h => h)) rfl rfl rfl ?_
  refine awp_ret ?_
  repeat (first | refine athen_ret ?_ | refine ain_ret ?_)
  first
    | refine apost_ret (aend1 (r0 := .agg _) (.cell rfl rfl rfl (by exact True.intro) rfl ty26 .nil) (.noN rfl rfl) ⟨Wk.v ?_, rfl, rfl⟩)
    | refine apost_ret (aend1s (r0 := .agg _) (.cell rfl rfl rfl (by exact True.intro) rfl ty26 .nil) shut rfl ⟨Wk.v ?_, rfl, rfl⟩)
  exact .refl
set_option maxRecDepth 100000 in
theorem c13 (hG0 : gl 0 = some (.err (.code 1))) (hG1 : gl 1 = some (.err (.code 5))) (hG9 : gl 9 = some (.err (.code 6)))
    (hG4 : gl 4 = some (.err (.code 7))) (hG8 : gl 8 = some (.err (.code 4))) (hG2 : gl 2 = some (.err (.code 12))) (hG6 : gl 6 = some (.err (.code 11))) :
    APure (V ea cds gl) 13 [] false (.bool true) := by
  refine acalls_of_body (N := 60) Tryd.func13 rfl rfl (Nat.le_of_ble_eq_true rfl) fun C hV hN hM hO => ?_
  obtain ⟨_, _, w0, G0, σ0, _, own0⟩ := C; dsimp only at hV hN hM hO; subst hV; subst hN; subst hM
  refine awp_seq ?_
  refine awp_region rfl ?_
  refine sP (opp_as (v := .bool _) rfl rfl) rfl rfl ?_
  refine awp_seq ?_
  refine awp_region rfl ?_
  refine sR (opr_call rfl rfl ent17 rfl (c17) (AViews.refl _ rfl)) rfl rfl rfl ?_ -- d=8 t=26
  refine sR (opr_call rfl rfl ent15 rfl (c15 Sp.kN (by decide) hG4 hG8) (AViews.refl _ rfl)) rfl rfl rfl ?_ -- d=9 t=32
  refine sP (opp_mv (v := .tup _) rfl rfl) rfl rfl ?_
  refine sP (opp_extract rfl rfl rfl) rfl rfl ?_
  refine sP (opp_extract rfl rfl rfl) rfl rfl ?_
  refine sP (opp_as (v := .str _) rfl rfl) rfl rfl ?_
  refine sP (opp_as (v := .err _) rfl rfl) rfl rfl ?_
  refine awp_seq ?_
  rw [Sp.k_put]
  refine awp_region rfl ?_
  refine sP (opp_mv (v := .str _) rfl rfl) rfl rfl ?_
  refine sR (opr_call rfl rfl ent14 rfl (c14 (Sp.crcSeal Sp.kB) (by rw [Sp.k_len]; decide) hG0 hG1 hG9 hG4 hG8) (AViews.refl _ rfl)) rfl rfl rfl ?_ -- d=14 t=30
  refine sP (opp_mv (v := .tup _) rfl rfl) rfl rfl ?_
  refine sP (opp_extract rfl rfl rfl) rfl rfl ?_
  refine sP (opp_extract rfl rfl rfl) rfl rfl ?_
  refine sR (opr_alloc (n := 3) rfl z26) rfl rfl rfl ?_
  refine sR0 (opr_store (v := .agg _) (trn := (.agg _)) rfl rfl rfl rfl bi rfl rfl rfl rfl fr2 ty26 (fun _ _ h => h)) rfl rfl rfl ?_
  refine sP (opp_as (v := .err _) rfl rfl) rfl rfl ?_
  refine awp_seq ?_
  rw [Sp.k_get]
  refine awp_draw hmix rfl (by kernel_rfl) ?_
  refine dR (fun _ => false) (opr_call rfl rfl ent17 rfl (c17) (AViews.refl _ rfl)) rfl rfl rfl ?_ -- d=18 t=26
  refine dP (fun _ => false) (opp_field rfl rfl rfl fld26_2 rfl) rfl rfl ?_
  refine dR (fun _ => false) (opr_make (n := 20) rfl rfl rfl eb36 z5 (by omega) (by omega) (by omega) (by omega)) rfl rfl rfl ?_
  refine dR (fun n => !([] : List Nat).contains n) (opr_call rfl rfl ent40 rfl (c40 2 ⟨1, 3, 2⟩ 1 false (List.replicate 300 0) hG2 hG6) (.cons (aview_noN rfl) (.cons (aview_noN rfl) (.cons (aview_noN rfl) (.cons (aview_osl rfl (fun j h => by cases h) (by decide) _ (fun j hj => bAt_rep 300 j)) .nil))))) rfl rfl rfl ?_ -- d=21 t=49
  refine dP (fun _ => false) (opp_mv (v := .tup _) rfl rfl) rfl rfl ?_
  refine dP (fun _ => false) (opp_extract rfl rfl rfl) rfl rfl ?_
  refine dP (fun _ => false) (opp_extract rfl rfl rfl) rfl rfl ?_
  first
    | refine dP (fun _ => false) (opp_as (v := .sl _ _ _ _) rfl rfl) rfl rfl ?_
    | refine dP (fun _ => false) (opp_as (v := .osl _ _ _ _ _) rfl rfl) rfl rfl ?_
  refine dP (fun _ => false) (opp_as (v := .err _) rfl rfl) rfl rfl ?_
  refine And.intro (by kernel_rfl) ?_
  refine awp_seq ?_
  refine awp_seq ?_
  rw [Sp.k_cut]
  refine awp_draw hmix rfl (by kernel_rfl) ?_
  refine dP (fun _ => false) (opp_mv (v := .err _) rfl rfl) rfl rfl ?_
  refine dP (fun _ => false) (opp_errNil rfl rfl rfl un29 (.inr ⟨rfl, rfl⟩)) rfl rfl ?_
  refine dP (fun _ => false) (opp_mv (v := .bool _) rfl rfl) rfl rfl ?_
  refine dG _ (fun _ => false) rfl rfl rfl rfl (fun hg => (And.intro gi (True.intro))) (fun hg => opp_mv (v := .err _) rfl rfl) ?_
  refine dG _ (fun _ => false) rfl rfl rfl rfl (fun hg => (And.intro gi (And.intro gi (True.intro)))) (fun hg => opp_errNil rfl rfl rfl un29 (.inr ⟨rfl, rfl⟩)) ?_
  refine dPick (fun _ => false) rfl rfl rfl rfl (by exact True.intro) rfl rfl (fun hg => gi) (fun hg => gi) ?_
  refine dP (fun _ => false) (opp_mv (v := .bool _) rfl rfl) rfl rfl ?_
  refine dG _ (fun _ => false) rfl rfl rfl rfl (fun hg => (And.intro gi (True.intro))) (fun hg => opp_mv (v := .err _) rfl rfl) ?_
  refine dG _ (fun _ => false) rfl rfl rfl rfl (fun hg => (And.intro gi (And.intro gi (True.intro)))) (fun hg => opp_errNil rfl rfl rfl un29 (.inr ⟨rfl, rfl⟩)) ?_
  refine dPick (fun _ => false) rfl rfl rfl rfl (by exact True.intro) rfl rfl (fun hg => gi) (fun hg => gi) ?_
  refine dP (fun _ => false) (opp_mv (v := .bool _) rfl rfl) rfl rfl ?_
  first
    | refine dG _ (fun n => Nat.beq n 3) rfl rfl rfl rfl (fun hg => (And.intro gi (True.intro))) (fun hg => opp_loadP rfl rfl rfl rfl bi rfl ty26) ?_
    | refine dG _ (fun n => Nat.beq n 3) rfl rfl rfl rfl (fun hg => (And.intro gi (True.intro))) (fun hg => opp_loadF rfl rfl ty26) ?_
  refine dGR _ (fun n => !([] : List Nat).contains n) rfl rfl rfl rfl (fun hg => (And.intro gi (True.intro))) (fun hg => (opr_call rfl rfl ent17 rfl (c17) (AViews.refl _ rfl))) ?_
  refine dG _ (fun _ => false) rfl rfl rfl rfl (fun hg => (And.intro gi (And.intro gi (True.intro)))) (fun hg => opp_eqAgg rfl rfl rfl (eq26 ..) eg26 rfl (.inr ⟨rfl, rfl⟩)) ?_
  refine dPick (fun _ => false) rfl rfl rfl rfl (by exact True.intro) rfl rfl (fun hg => gi) (fun hg => gi) ?_
  refine dP (fun _ => false) (opp_mv (v := .bool _) rfl rfl) rfl rfl ?_
  first
    | refine dG _ (fun _ => false) rfl rfl rfl rfl (fun hg => (And.intro gi (True.intro))) (fun hg => opp_mv (v := .sl _ _ _ _) rfl rfl) ?_
    | refine dG _ (fun _ => false) rfl rfl rfl rfl (fun hg => (And.intro gi (True.intro))) (fun hg => opp_mv (v := .osl _ _ _ _ _) rfl rfl) ?_
  first
    | refine dG _ (fun n => !([] : List Nat).contains n) rfl rfl rfl rfl (fun hg => (And.intro gi (True.intro))) (fun hg => opp_lenSl rfl rfl un48) ?_
    | refine dG _ (fun n => !([] : List Nat).contains n) rfl rfl rfl rfl (fun hg => (And.intro gi (True.intro))) (fun hg => opp_lenOsl rfl rfl un48) ?_
  refine dG _ (fun _ => false) rfl rfl rfl rfl (fun hg => (And.intro gi (And.intro gi (True.intro)))) (fun hg => opp_cmp rfl rfl rfl rfl) ?_
  refine dPick (fun _ => false) rfl rfl rfl rfl (by exact True.intro) rfl rfl (fun hg => gi) (fun hg => gi) ?_
  refine dP (fun _ => false) (opp_mv (v := .bool _) rfl rfl) rfl rfl ?_
  first
    | refine dG _ (fun _ => false) rfl rfl rfl rfl (fun hg => (And.intro gi (True.intro))) (fun hg => opp_mv (v := .sl _ _ _ _) rfl rfl) ?_
    | refine dG _ (fun _ => false) rfl rfl rfl rfl (fun hg => (And.intro gi (True.intro))) (fun hg => opp_mv (v := .osl _ _ _ _ _) rfl rfl) ?_
  refine dG _ (fun _ => false) rfl rfl rfl rfl (fun hg => (And.intro gi (And.intro gi (True.intro)))) (fun hg => opp_indexSl rfl rfl rfl el48 (by decide) (by decide)) ?_
  first
    | refine dG _ (fun _ => false) rfl rfl rfl rfl (fun hg => (And.intro gi (True.intro))) (fun hg => opp_fieldP rfl rfl fld26_7 rfl) ?_
    | refine dG _ (fun _ => false) rfl rfl rfl rfl (fun hg => (And.intro gi (True.intro))) (fun hg => opp_fieldF rfl rfl rfl fld26_7 rfl rfl) ?_
  first
    | refine dG _ (fun n => !([] : List Nat).contains n) rfl rfl rfl rfl (fun hg => (And.intro gi (True.intro))) (fun hg => opp_loadP rfl rfl rfl rfl bi rfl ty9) ?_
    | refine dG _ (fun n => !([] : List Nat).contains n) rfl rfl rfl rfl (fun hg => (And.intro gi (True.intro))) (fun hg => opp_loadF rfl rfl ty9) ?_
  refine dG _ (fun n => !([] : List Nat).contains n) rfl rfl rfl rfl (fun hg => (And.intro gi (True.intro))) (fun hg => opp_lenStr rfl rfl un9) ?_
  refine dG _ (fun _ => false) rfl rfl rfl rfl (fun hg => (And.intro gi (And.intro gi (True.intro)))) (fun hg => opp_cmp rfl rfl rfl rfl) ?_
  refine dPick (fun _ => false) rfl rfl rfl rfl (by exact True.intro) rfl rfl (fun hg => gi) (fun hg => gi) ?_
  refine And.intro (by kernel_rfl) ?_
  refine awp_cond _ rfl (fun hc6 => ?_) (fun hc6 => ?_)
  · (try simp only [cmpI, errD_nil, Bool.not_eq_true', Bool.not_eq_false', decide_eq_true_eq, decide_eq_false_iff_not] at hc6); have ht51 := hc6
    exfalso; simp [Sp.kCut] at ht51
  · (try simp only [cmpI, errD_nil, Bool.not_eq_true', Bool.not_eq_false', decide_eq_true_eq, decide_eq_false_iff_not] at hc6); have ht51 := hc6
    refine awp_skip ?_
    refine awp_seq ?_
    rw [show ((Sp.crcSeal Sp.kB, (0 : Nat)).1) = Sp.crcSeal Sp.kB from rfl]
    have hk := Sp.k_len
    refine awp_region rfl ?_
    refine sP (opp_mv (v := .str _) rfl rfl) rfl rfl ?_
    refine sP (opp_lenStr rfl rfl un9) rfl rfl ?_
    refine sP (opp_cmp rfl rfl rfl rfl) rfl rfl ?_
    refine sP (opp_mv (v := .bool _) rfl rfl) rfl rfl ?_
    refine sG _ rfl rfl rfl rfl (fun hg => (And.intro gi (True.intro))) (fun hg => opp_mv (v := .str _) rfl rfl) ?_
    refine sG _ rfl rfl rfl rfl (fun hg => (And.intro gi (And.intro gi (True.intro)))) (fun hg => opp_sliceStr rfl rfl rfl rfl un9 (by omega) (by omega) (by omega)) ?_
    refine sG _ rfl rfl rfl rfl (fun hg => (And.intro gi (And.intro gi (True.intro)))) (fun hg => opp_strEq (b := [0, 27, 4, 2, 0, 0, 0, 1, 0, 0, 0, 3, 0, 0, 0, 2, 0, 0, 0, 0, 0, 0, 0]) rfl rfl rfl (.inl ⟨rfl, rfl⟩)) ?_
    refine sPick rfl rfl rfl rfl (by exact True.intro) rfl rfl (fun hg => gi) (fun hg => gi) ?_
    refine sP (opp_as (v := .bool _) rfl rfl) rfl rfl ?_
    refine awp_ret ?_
    repeat (first | refine athen_ret ?_ | refine ain_ret ?_)
    first
      | refine apost_ret (aend1 (r0 := .bool _) (.tmp .nil) (.noN rfl rfl) ⟨Wk.v ?_, rfl, rfl⟩)
      | refine apost_ret (aend1s (r0 := .bool _) (.tmp .nil) shut rfl ⟨Wk.v ?_, rfl, rfl⟩)
    have hh := Sp.k_head
    refine .of (congrArg AV.bool ?_)
    simp only [cmpI, hk, Int.toNat_zero, List.drop_zero]
    show (bif decide (((27 : Nat) : Int) = 27) then decide ((Sp.crcSeal Sp.kB).take 23 = Sp.kB) else false) = true
    rw [hh]; simp
end
end Go.Proofs.YtgaihhimkodmmaaDoor
/- The numbers of errors: api.Code; ferrylaw22.plain (walks over this dump). -/
namespace Go.Proofs.YtgaihhimkodmmaaDoor
attribute [local irreducible] Tryd.prog
open Go.Fy
set_option linter.unusedSimpArgs false
set_option linter.unusedVariables false
section
variable {ea : Nat → Addr} {cds : List Nat} {gl : Nat → Option AV}
end
end Go.Proofs.YtgaihhimkodmmaaDoor
/- Go's library: strings.Join (the shelf's contract); layer 20: the whole image (walks over this dump). -/
namespace Go.Proofs.YtgaihhimkodmmaaDoor
attribute [local irreducible] Tryd.prog
open Go.Fy Go.RowKit
set_option linter.unusedSimpArgs false
section
variable {ea : Nat → Addr} {cds : List Nat} {gl : Nat → Option AV}
theorem join_flat (l : List (List UInt8)) : Lib.join l [] = l.flatten := by
  cases l with
  | nil => rfl
  | cons a l => rw [Lib.join_cons]; simp [Lib.joinTail]
theorem c96 (b : Bool) (l : List (List UInt8)) (h1 : l.length ≤ 140737488355328) (h2 : l.flatten.length ≤ 140737488355328) : APure (V ea cds gl) 96 [.sl 1 b l.length (strAt l), .str []] false (.str l.flatten) := by
  refine apure_of_calls fun E vals hV hE hG hv => ?_
  obtain ⟨vl⟩ := vals
  simp only [RelT, RelV, Rel] at hv
  obtain ⟨c1, d1, rfl, ⟨a, cap, e1, hle, hnn, hnone, hel⟩, c2, d2, rfl, e2, rfl⟩ := hv
  simp only [List.cons.injEq, and_true] at e1 e2
  subst e1; subst e2
  by_cases hl : l.length = 0
  · have hl0 : l = [] := List.eq_nil_of_length_eq_zero hl
    subst hl0
    refine (Go.Proofs.Tryd.strings_Join_none a cap ⟨#[]⟩ E.w).mono fun e w' ⟨he, hw⟩ => ⟨_, he, fun E' => ?_, by rw [hw]; exact Below.refl _ _⟩
    simp only [RelV, Rel]; rfl
  · cases a with
    | none => exact absurd (hnone rfl).1 hl
    | some ad =>
      obtain ⟨hsp, hgd, hds⟩ := hel ad rfl
      have hsp := hsp (by omega)
      obtain ⟨ab, ao, asp⟩ := ad
      dsimp only at hsp hgd
      subst hsp
      have hm : (l.map fun s => (⟨s.toArray⟩ : ByteArray)).map (·.data.toList) = l := by rw [List.map_map]; exact List.map_id'' (fun _ => rfl) l
      have hJ := Go.Proofs.Tryd.strings_Join ab ao cap (l.map fun s => ⟨s.toArray⟩) ⟨#[]⟩ E.w (fun j x hx => ?_) (hG _ (hgd (by omega))) (by simpa using h1) (by simpa using hle) (by rw [hm]; show (Lib.join l []).length ≤ _; rw [join_flat]; exact h2)
      · rw [hm] at hJ
        simp only [List.length_map] at hJ
        refine hJ.mono fun e w' ⟨he, hw⟩ => ⟨_, he, fun E' => ?_, hw⟩
        simp only [RelV, Rel]
        show [Value.string ⟨(Lib.join l []).toArray⟩] = _
        rw [join_flat]
      · simp only [List.getElem?_map, Option.map_eq_some_iff] at hx
        obtain ⟨s, hs, rfl⟩ := hx
        have hj : j < l.length := (List.getElem?_eq_some_iff.1 hs).1
        obtain ⟨ds, h3, h4, h5⟩ := hds j hj
        simp only [strAt, Rel] at h5
        subst h5
        have := h4 0 _ rfl
        simp only [List.getD_eq_getElem?_getD, hs, Option.getD_some, Nat.mul_one, Nat.add_zero] at this
        exact this
theorem c44 (b : Bool) (s : Stage) (hG3 : gl 3 = some (.err (.code 9))) : APure (V ea cds gl) 44 [stageAV b s] false
    (.tup [.sl 1 (!(Sp.whole s).2.1) (Sp.whole s).1.length (bAt (Sp.whole s).1), .bool (Sp.whole s).2.1, .err (errD (Sp.whole s).2.2)]) := by
  refine acalls_of_body (N := 16) Tryd.func44 rfl rfl (Nat.le_of_ble_eq_true rfl) fun C hV hN hM hO => ?_
  obtain ⟨_, _, w0, G0, σ0, _, own0⟩ := C; dsimp only at hV hN hM hO; subst hV; subst hN; subst hM
  refine awp_seq ?_
  refine awp_region rfl ?_
  refine sR (opr_box (y := .agg _) (n := 1) rfl rfl rfl) rfl rfl rfl ?_
  first
    | refine sP (opp_as (v := .sl _ _ _ _) rfl rfl) rfl rfl ?_
    | refine sP (opp_as (v := .osl _ _ _ _ _) rfl rfl) rfl rfl ?_
  refine sP (opp_as (v := .bool _) rfl rfl) rfl rfl ?_
  refine sP (opp_as (v := .err _) rfl rfl) rfl rfl ?_
  refine awp_seq ?_
  refine awp_seq ?_
  refine awp_region rfl ?_
  first
    | refine sP (opp_loadP rfl rfl rfl rfl bi rfl ty53) rfl rfl ?_
    | refine sP (opp_loadF rfl rfl ty53) rfl rfl ?_
  refine sR (opr_call rfl rfl ent93 rfl (c93 _ _) (AViews.refl _ rfl)) rfl rfl rfl ?_ -- d=6 t=4
  refine sP (opp_not rfl rfl) rfl rfl ?_
  refine awp_cond _ rfl (fun hc3 => ?_) (fun hc3 => ?_)
  · (try simp only [cmpI, errD_nil, Bool.not_eq_true', Bool.not_eq_false', decide_eq_true_eq, decide_eq_false_iff_not] at hc3); have ht7 := hc3
    refine awp_seq ?_
    refine awp_draw hmix rfl (by kernel_rfl) ?_
    refine dP (fun _ => false) (opp_loadF rfl (ev_glob hG3) ty29) rfl rfl ?_
    first
      | refine dP (fun _ => false) (opp_as (v := .sl _ _ _ _) rfl rfl) rfl rfl ?_
      | refine dP (fun _ => false) (opp_as (v := .osl _ _ _ _ _) rfl rfl) rfl rfl ?_
    refine dP (fun _ => false) (opp_as (v := .bool _) rfl rfl) rfl rfl ?_
    refine dP (fun _ => false) (opp_as (v := .err _) rfl rfl) rfl rfl ?_
    refine And.intro (by kernel_rfl) ?_
    refine awp_ret ?_
    repeat (first | refine athen_ret ?_ | refine ain_ret ?_)
    first
      | refine apost_ret (aend (l := [.sl _ _ _ _, .bool _, .err _]) (.tmp (.tmp (.tmp .nil))) (fun h => by cases h) (.cons (.noN rfl rfl) (.cons (.noN rfl rfl) (.cons (.noN rfl rfl) .nil))) ⟨Wk.v ?_, rfl, rfl⟩)
      | refine apost_ret (aends (l := [.sl _ _ _ _, .bool _, .err _]) (.tmp (.tmp (.tmp .nil))) (fun h => by cases h) (.cons shut (fun h => by cases h) (.cons shut (fun h => by cases h) (.cons shut (fun h => by cases h) .nil))) rfl ⟨Wk.v ?_, rfl, rfl⟩)
      | refine apost_ret (aend (l := [.osl _ _ _ _ _, .bool _, .err _]) (.tmp (.tmp (.tmp .nil))) (fun h => by cases h) (.cons (.noN rfl rfl) (.cons (.noN rfl rfl) (.cons (.noN rfl rfl) .nil))) ⟨Wk.v ?_, rfl, rfl⟩)
      | refine apost_ret (aends (l := [.osl _ _ _ _ _, .bool _, .err _]) (.tmp (.tmp (.tmp .nil))) (fun h => by cases h) (.cons shut (fun h => by cases h) (.cons shut (fun h => by cases h) (.cons shut (fun h => by cases h) .nil))) rfl ⟨Wk.v ?_, rfl, rfl⟩)
    rw [show Sp.whole s = ([], false, 9) by simp [Sp.whole, hc3]]; show Wk _ (.tup [.sl 1 true 0 _, .bool false, .err (.code 9)]); (repeat' (first | exact Wk.refl | exact Wk.sl0 | apply Wk.tup | apply Wk.agg | apply WkL.cons | exact WkL.nil | refine Wk.sl (fun _ _ => ?_)))
  · (try simp only [cmpI, errD_nil, Bool.not_eq_true', Bool.not_eq_false', decide_eq_true_eq, decide_eq_false_iff_not] at hc3); have ht7 := hc3
    refine awp_skip ?_
    refine awp_seq ?_
    refine awp_seq ?_
    have hgb := Sp.goodS_bounds hc3
    have hgf := Sp.goodS_flat hc3
    refine awp_region rfl ?_
    first
      | refine sP (opp_fieldP rfl rfl fld53_4 rfl) rfl rfl ?_
      | refine sP (opp_fieldF rfl rfl rfl fld53_4 rfl rfl) rfl rfl ?_
    first
      | refine sP (opp_loadP rfl rfl rfl rfl bi rfl ty51) rfl rfl ?_
      | refine sP (opp_loadF rfl rfl ty51) rfl rfl ?_
    refine sR (opr_call rfl rfl ent95 rfl (c95 _ _ _ _ (by omega)) (AViews.refl _ rfl)) rfl rfl rfl ?_ -- d=11 t=4
    refine awp_cond _ rfl (fun hc6 => ?_) (fun hc6 => ?_)
    · (try simp only [cmpI, errD_nil, Bool.not_eq_true', Bool.not_eq_false', decide_eq_true_eq, decide_eq_false_iff_not] at hc6); have ht11 := hc6
      refine awp_seq ?_
      refine awp_region rfl ?_
      first
        | refine sP (opp_as (v := .sl _ _ _ _) rfl rfl) rfl rfl ?_
        | refine sP (opp_as (v := .osl _ _ _ _ _) rfl rfl) rfl rfl ?_
      refine sP (opp_as (v := .bool _) rfl rfl) rfl rfl ?_
      refine sP (opp_as (v := .err _) rfl rfl) rfl rfl ?_
      refine awp_ret ?_
      repeat (first | refine athen_ret ?_ | refine ain_ret ?_)
      first
        | refine apost_ret (aend (l := [.sl _ _ _ _, .bool _, .err _]) (.tmp (.tmp (.tmp .nil))) (fun h => by cases h) (.cons (.noN rfl rfl) (.cons (.noN rfl rfl) (.cons (.noN rfl rfl) .nil))) ⟨Wk.v ?_, rfl, rfl⟩)
        | refine apost_ret (aends (l := [.sl _ _ _ _, .bool _, .err _]) (.tmp (.tmp (.tmp .nil))) (fun h => by cases h) (.cons shut (fun h => by cases h) (.cons shut (fun h => by cases h) (.cons shut (fun h => by cases h) .nil))) rfl ⟨Wk.v ?_, rfl, rfl⟩)
        | refine apost_ret (aend (l := [.osl _ _ _ _ _, .bool _, .err _]) (.tmp (.tmp (.tmp .nil))) (fun h => by cases h) (.cons (.noN rfl rfl) (.cons (.noN rfl rfl) (.cons (.noN rfl rfl) .nil))) ⟨Wk.v ?_, rfl, rfl⟩)
        | refine apost_ret (aends (l := [.osl _ _ _ _ _, .bool _, .err _]) (.tmp (.tmp (.tmp .nil))) (fun h => by cases h) (.cons shut (fun h => by cases h) (.cons shut (fun h => by cases h) (.cons shut (fun h => by cases h) .nil))) rfl ⟨Wk.v ?_, rfl, rfl⟩)
      have h : ((List.range s.pieces.length).any fun j => decide (s.pieces.getD j [] = [])) = true := by rw [← hc6]; congr 1; funext j; rw [decide_eq_decide]; exact eq_comm
      rw [show Sp.whole s = ([], false, 0) by simp only [Sp.whole, hc3, h]; rfl]; show Wk _ (.tup [.sl 1 true 0 _, .bool false, .err .nil]); (repeat' (first | exact Wk.refl | exact Wk.sl0 | apply Wk.tup | apply Wk.agg | apply WkL.cons | exact WkL.nil | refine Wk.sl (fun _ _ => ?_)))
    · (try simp only [cmpI, errD_nil, Bool.not_eq_true', Bool.not_eq_false', decide_eq_true_eq, decide_eq_false_iff_not] at hc6); have ht11 := hc6
      refine awp_skip ?_
      refine awp_seq ?_
      refine awp_region rfl ?_
      first
        | refine sP (opp_fieldP rfl rfl fld53_4 rfl) rfl rfl ?_
        | refine sP (opp_fieldF rfl rfl rfl fld53_4 rfl rfl) rfl rfl ?_
      first
        | refine sP (opp_loadP rfl rfl rfl rfl bi rfl ty51) rfl rfl ?_
        | refine sP (opp_loadF rfl rfl ty51) rfl rfl ?_
      refine sR (opr_call rfl rfl ent96 rfl (c96 _ s.pieces (by omega) (by omega)) (AViews.refl _ rfl)) rfl rfl rfl ?_ -- d=14 t=9
      refine sR (opr_strBytes (n := 15) rfl rfl un9 un36 unu8) rfl rfl rfl ?_
      first
        | refine sP (opp_as (v := .sl _ _ _ _) rfl rfl) rfl rfl ?_
        | refine sP (opp_as (v := .osl _ _ _ _ _) rfl rfl) rfl rfl ?_
      refine sP (opp_as (v := .bool _) rfl rfl) rfl rfl ?_
      refine sP (opp_as (v := .err _) rfl rfl) rfl rfl ?_
      refine awp_ret ?_
      repeat (first | refine athen_ret ?_ | refine ain_ret ?_)
      first
        | refine apost_ret (aend (l := [.sl _ _ _ _, .bool _, .err _]) (.tmp (.tmp (.tmp .nil))) (fun h => by cases h) (.cons (.noN rfl rfl) (.cons (.noN rfl rfl) (.cons (.noN rfl rfl) .nil))) ⟨Wk.v ?_, rfl, rfl⟩)
        | refine apost_ret (aends (l := [.sl _ _ _ _, .bool _, .err _]) (.tmp (.tmp (.tmp .nil))) (fun h => by cases h) (.cons shut (fun h => by cases h) (.cons shut (fun h => by cases h) (.cons shut (fun h => by cases h) .nil))) rfl ⟨Wk.v ?_, rfl, rfl⟩)
        | refine apost_ret (aend (l := [.osl _ _ _ _ _, .bool _, .err _]) (.tmp (.tmp (.tmp .nil))) (fun h => by cases h) (.cons (.noN rfl rfl) (.cons (.noN rfl rfl) (.cons (.noN rfl rfl) .nil))) ⟨Wk.v ?_, rfl, rfl⟩)
        | refine apost_ret (aends (l := [.osl _ _ _ _ _, .bool _, .err _]) (.tmp (.tmp (.tmp .nil))) (fun h => by cases h) (.cons shut (fun h => by cases h) (.cons shut (fun h => by cases h) (.cons shut (fun h => by cases h) .nil))) rfl ⟨Wk.v ?_, rfl, rfl⟩)
      have h : ((List.range s.pieces.length).any fun j => decide (s.pieces.getD j [] = [])) = false := by rw [← hc6]; congr 1; funext j; rw [decide_eq_decide]; exact eq_comm
      rw [show Sp.whole s = (s.pieces.flatten, true, 0) by simp only [Sp.whole, hc3, h]; rfl]; exact .refl
end
end Go.Proofs.YtgaihhimkodmmaaDoor
/- Layer 22: an image on its way (walks over this dump). -/
namespace Go.Proofs.YtgaihhimkodmmaaDoor
attribute [local irreducible] Tryd.prog
open Go.Fy
set_option linter.unusedSimpArgs false
section
variable {ea : Nat → Addr} {cds : List Nat} {gl : Nat → Option AV}
end
end Go.Proofs.YtgaihhimkodmmaaDoor
/- Layer 22: what has come, whole; the law's fixed fact (walks over this dump). -/
namespace Go.Proofs.YtgaihhimkodmmaaDoor
attribute [local irreducible] Tryd.prog
open Go.Fy
set_option linter.unusedSimpArgs false
section
variable {ea : Nat → Addr} {cds : List Nat} {gl : Nat → Option AV}
end
end Go.Proofs.YtgaihhimkodmmaaDoor
/- The document's answers for layer 20: an image is cut; for layer 22: an image is started (walks over this dump). -/
namespace Go.Proofs.YtgaihhimkodmmaaDoor
attribute [local irreducible] Tryd.prog
open Go.Fy
set_option linter.unusedSimpArgs false
set_option linter.unusedVariables false
section
variable {ea : Nat → Addr} {cds : List Nat} {gl : Nat → Option AV}
/-- The first i pieces. -/
def notesTo (p : Int) (x : Xid) (st : Int) (im : List UInt8) (i : Nat) : List Note := (List.range i).map fun j => Sp.cutNote p x st im j j (Sp.total im)
end
end Go.Proofs.YtgaihhimkodmmaaDoor
/- Layer 22: the fixed fact of the layer's laws (walks over this dump). -/
namespace Go.Proofs.YtgaihhimkodmmaaDoor
attribute [local irreducible] Tryd.prog
open Go.Fy
set_option linter.unusedSimpArgs false
section
variable {ea : Nat → Addr} {cds : List Nat} {gl : Nat → Option AV}
section
variable (hG3 : gl 3 = some (.err (.code 9))) (hG4 : gl 4 = some (.err (.code 7))) (hG5 : gl 5 = some (.err (.code 10))) (hG2 : gl 2 = some (.err (.code 12))) (hG7 : gl 7 = some (.err (.code 14))) (hG8 : gl 8 = some (.err (.code 4))) (hG6 : gl 6 = some (.err (.code 11)))
include hG3 hG4 hG5 hG2 hG7 hG8
end
end
end Go.Proofs.YtgaihhimkodmmaaDoor
/- Layer 22: XferStarts: what Start answers is the document's answer: true (walks over this dump). -/
namespace Go.Proofs.YtgaihhimkodmmaaDoor
attribute [local irreducible] Tryd.prog
open Go.Fy
set_option linter.unusedSimpArgs false
set_option linter.unusedVariables false
section
variable {ea : Nat → Addr} {cds : List Nat} {gl : Nat → Option AV}
end
end Go.Proofs.YtgaihhimkodmmaaDoor
/- Layer 22: boundaries, acknowledgements (walks over this dump). -/
namespace Go.Proofs.YtgaihhimkodmmaaDoor
attribute [local irreducible] Tryd.prog
open Go.Fy
set_option linter.unusedSimpArgs false
section
variable {ea : Nat → Addr} {cds : List Nat} {gl : Nat → Option AV}
end
end Go.Proofs.YtgaihhimkodmmaaDoor
/- The document's answers for layers 20 and 22: a note in form; boundaries, acknowledgements (walks over this dump). -/
namespace Go.Proofs.YtgaihhimkodmmaaDoor
attribute [local irreducible] Tryd.prog
open Go.Fy
set_option linter.unusedSimpArgs false
set_option linter.unusedVariables false
section
variable {ea : Nat → Addr} {cds : List Nat} {gl : Nat → Option AV}
/-- Is a note of a right kind in form? -/
def rangesB (n : Note) : Bool := Sp.goodPart n.part && Sp.goodXid n.xid && (decide (n.sum = 0) || decide (n.kind = 2)) && (if Sp.staged n.kind then Sp.goodStage n.stage else decide (n.stage = 0)) && Sp.pieces n
end
end Go.Proofs.YtgaihhimkodmmaaDoor
/- The laws of layer 20: the errors' codes; any answer; every Cut and Answer (walks over this dump). -/
namespace Go.Proofs.YtgaihhimkodmmaaDoor
attribute [local irreducible] Tryd.prog
open Go.Fy
set_option linter.unusedSimpArgs false
set_option linter.unusedVariables false
section
variable {ea : Nat → Addr} {cds : List Nat} {gl : Nat → Option AV}
end
end Go.Proofs.YtgaihhimkodmmaaDoor
/- Layer 20: ChunkCuts (walks over this dump). -/
namespace Go.Proofs.YtgaihhimkodmmaaDoor
attribute [local irreducible] Tryd.prog
open Go.Fy
set_option linter.unusedSimpArgs false
set_option linter.unusedVariables false
/-- An image to be cut. -/
def pieceAV (p st : Int) (x : Xid) (im : List UInt8) : AV := .agg [.int .i64 p, .int .i64 st, xidAV x, .str im]
/-- Bytes, the first i of them one higher. -/
def bumpI (im : List UInt8) (i j : Nat) : Int := if j < i then IntKind.u8.wrap (((im.getD j 0).toNat : Int) + 1) else ((im.getD j 0).toNat : Int)
section
variable {ea : Nat → Addr} {cds : List Nat} {gl : Nat → Option AV}
end
end Go.Proofs.YtgaihhimkodmmaaDoor
/- Plain Lean: pieces put onto a stage in any order, strangers among them (my own text; no program in sight). -/
set_option linter.unusedSimpArgs false
namespace Go.Fy
namespace Sp
section
variable {p : Int} {x : Xid} {st : Int} {im : List UInt8}
/-- The first piece. -/
theorem Fine.begin_ (h : Fine p x st im) (k : Nat) (hk : k < total im) : Sp.begin_ (cutNote p x st im k k (total im)) = (stageOf p x st im ((List.replicate (total im) false).set k true), 0) := by
  rw [Sp.begin_, if_neg (by rw [h.chunk k hk]; simp)]
  refine congrArg (fun z => (z, 0)) ?_
  simp only [stageOf]
  have e : (List.replicate (total im) []).set k (pieceOf im k) = piecesOf im ((List.replicate (total im) false).set k true) := by
    rw [← piecesOf_set _ k (by simp) hk, piecesOf_none _ (by rw [any_replicate]; simp)]
  rw [← e]; simp [cutNote]
/-- One more. -/
theorem Fine.add (h : Fine p x st im) (came : List Bool) (hl : came.length = total im) (k : Nat) (hk : k < total im) :
    Sp.add (stageOf p x st im came) (cutNote p x st im k k (total im)) = (stageOf p x st im (came.set k true), !came.getD k false, 0) := by
  have hg : (stageOf p x st im came).pieces.getD k [] = if came.getD k false then pieceOf im k else [] := piecesOf_get came k hk
  have hn : (cutNote p x st im k k (total im)).index.toNat = k := by simp [cutNote]
  have hd : (cutNote p x st im k k (total im)).data = pieceOf im k := rfl
  have h4 : ¬ ((stageOf p x st im came).pieces.getD k [] ≠ [] ∧ (stageOf p x st im came).pieces.getD k [] ≠ pieceOf im k) := by
    rw [hg]; split <;> simp
  rw [Sp.add, if_neg (by rw [h.goodS came]; simp), if_neg (by rw [h.chunk k hk]; simp), if_neg (by simp [stageOf, cutNote]), hn, hd, if_neg h4]
  have e1 : ({ stageOf p x st im came with pieces := (stageOf p x st im came).pieces.set k (pieceOf im k) } : Stage) = stageOf p x st im (came.set k true) := by
    simp only [stageOf]; rw [piecesOf_set came k hl hk]
  have e2 : decide ((stageOf p x st im came).pieces.getD k [] = []) = !came.getD k false := by
    rw [hg]
    cases came.getD k false with
    | true => simpa using h.ne k hk
    | false => simp
  rw [e1, e2]
/-- A stranger is refused. -/
theorem Fine.stray (h : Fine p x st im) (came : List Bool) (n : Note) (hx : n.xid ≠ x) : (Sp.add (stageOf p x st im came) n).2.1 = false ∧ (Sp.add (stageOf p x st im came) n).2.2 ≠ 0 := by
  rw [Sp.add, if_neg (by rw [h.goodS came]; simp)]
  by_cases h1 : Sp.chunk n ≠ 0
  · rw [if_pos h1]; exact ⟨rfl, h1⟩
  · have hx' : n.part ≠ (stageOf p x st im came).part ∨ n.xid ≠ (stageOf p x st im came).xid ∨ n.stage ≠ (stageOf p x st im came).stage ∨ n.total ≠ (stageOf p x st im came).total := Or.inr (Or.inl hx)
    rw [if_neg h1, if_pos hx']; exact ⟨rfl, by decide⟩
/-- Which haven't come. -/
def leftL (im : List UInt8) (came : List Bool) : List Int := ((List.range (total im)).filter fun j => !came.getD j false).map fun (j : Nat) => (j : Int)
theorem Fine.missing (h : Fine p x st im) (came : List Bool) : Sp.missing (stageOf p x st im came) = (leftL im came, 0) := by
  rw [Sp.missing, if_neg (by rw [h.goodS came]; simp)]
  refine congrArg (fun z => (z, 0)) ?_
  unfold leftL
  have hlen : (stageOf p x st im came).pieces.length = total im := piecesOf_length came
  rw [hlen]
  refine congrArg (List.map _) (List.filter_congr fun j hj => ?_)
  have e := piecesOf_get came j (im := im) (List.mem_range.1 hj)
  show decide ((piecesOf im came).getD j [] = []) = _
  rw [e]
  cases came.getD j false with
  | true => simpa using h.ne j (List.mem_range.1 hj)
  | false => simp
theorem leftL_eq (came : List Bool) (hl : came.length = total im) : (leftL im came).length = leftOf came := by
  unfold leftL leftOf
  rw [List.length_map, ← hl]
  clear hl
  have : ((List.range came.length).filter fun j => !came.getD j false).length = ((came.filter fun b => !b)).length := by
    have e : came = (List.range came.length).map fun j => came.getD j false := by
      apply List.ext_getElem?
      intro j
      by_cases hj : j < came.length
      · simp [List.getD_eq_getElem?_getD, hj]
      · rw [List.getElem?_eq_none (by omega), List.getElem?_eq_none (by simp; omega)]
    conv => rhs; rw [e, List.filter_map, List.length_map]
    rfl
  exact this
/-- Each of them: it hasn't come, and they rise. -/
theorem leftL_get {came : List Bool} {i : Nat} (hi : i < (leftL im came).length) : ∃ j : Nat, (leftL im came).getD i 0 = (j : Int) ∧ j < total im ∧ came.getD j false = false := by
  unfold leftL at *
  rw [List.length_map] at hi
  have hm : ((List.range (total im)).filter fun j => !came.getD j false)[i] ∈ (List.range (total im)).filter fun j => !came.getD j false := List.getElem_mem _
  have := List.mem_filter.1 hm
  refine ⟨_, ?_, List.mem_range.1 this.1, by simpa using this.2⟩
  rw [List.getD_eq_getElem?_getD, List.getElem?_map, List.getElem?_eq_getElem hi]; rfl
theorem leftL_rise {came : List Bool} {i : Nat} (hi : i + 1 < (leftL im came).length) : (leftL im came).getD i 0 < (leftL im came).getD (i + 1) 0 := by
  have hp : (leftL im came).Pairwise (· < ·) := by
    unfold leftL
    refine List.Pairwise.map _ (fun a b (h : a < b) => by show (a : Int) < b; omega) (List.Pairwise.filter _ ?_)
    exact List.pairwise_lt_range
  have := List.pairwise_iff_getElem.1 hp i (i + 1) (by omega) hi (by omega)
  simpa [List.getD_eq_getElem?_getD, hi, show i < (leftL im came).length by omega] using this
/-- The whole. -/
theorem Fine.wholeS (h : Fine p x st im) (came : List Bool) (hl : came.length = total im) (ha : came.any id = true) : Sp.whole (stageOf p x st im came) = if leftOf came = 0 then (im, true, 0) else ([], false, 0) := by
  have := h.whole came hl
  rw [wholeR, if_neg (by rw [h.goodR came hl]; simp), recvOf, if_pos ha, if_neg (by simp)] at this
  have e : Sp.whole (stageOf p x st im came) = _ := this
  rw [e]
  by_cases h0 : leftOf came = 0
  · rw [if_pos h0, if_pos (leftOf_zero.1 h0)]
  · rw [if_neg h0, if_neg (fun h1 => h0 (leftOf_zero.2 h1))]
end
/-- The image that goes: never empty, not too long. -/
def clipA (im : List UInt8) : List UInt8 := if im = [] then [65] else im
def clipB (im : List UInt8) : List UInt8 := if 4096 < im.length then im.take 4096 else im
theorem clip_len (im : List UInt8) : 1 ≤ (clipB (clipA im)).length ∧ (clipB (clipA im)).length ≤ 4096 := by
  have h1 : 1 ≤ (clipA im).length := by
    unfold clipA; split
    · decide
    · rename_i h; exact Nat.one_le_iff_ne_zero.2 fun e => h (List.eq_nil_of_length_eq_zero e)
  unfold clipB; split
  · rw [List.length_take]; omega
  · omega
/-- The stage behind i picks. -/
def stI (p : Int) (x : Xid) (st : Int) (im : List UInt8) (i : Nat) (came : List Bool) : Stage := if i = 0 then zeroS else stageOf p x st im came
end Sp
theorem and_bound (p m : Int) (h0 : 0 ≤ m) (hm : m < 4611686018427387904) : 0 ≤ IntKind.i64.wrap ((BitVec.ofInt IntKind.i64.bits p &&& BitVec.ofInt IntKind.i64.bits m).toNat : Int) ∧ IntKind.i64.wrap ((BitVec.ofInt IntKind.i64.bits p &&& BitVec.ofInt IntKind.i64.bits m).toNat : Int) ≤ m := by
  have h : ((BitVec.ofInt IntKind.i64.bits p &&& BitVec.ofInt IntKind.i64.bits m).toNat : Int) ≤ m := by
    rw [BitVec.toNat_and]
    have h2 : (BitVec.ofInt IntKind.i64.bits m).toNat ≤ m.toNat := by
      show (BitVec.ofInt 64 m).toNat ≤ m.toNat
      obtain ⟨k, rfl⟩ := Int.eq_ofNat_of_zero_le h0
      simp; exact Nat.mod_le _ _
    have h3 : (BitVec.ofInt IntKind.i64.bits p).toNat &&& (BitVec.ofInt IntKind.i64.bits m).toNat ≤ (BitVec.ofInt IntKind.i64.bits m).toNat := Nat.and_le_right
    omega
  rw [w64 (by omega)]; omega
theorem xq_bound (a : Int) : 1 ≤ IntKind.i64.wrap (1 + IntKind.i64.wrap ((IntKind.u64.wrap a).tmod 1000)) ∧ IntKind.i64.wrap (1 + IntKind.i64.wrap ((IntKind.u64.wrap a).tmod 1000)) ≤ 1000 := by
  have h0 : 0 ≤ IntKind.u64.wrap a := by
    simp only [IntKind.wrap, IntKind.bits, IntKind.signed]; simp; omega
  have h1 : 0 ≤ (IntKind.u64.wrap a).tmod 1000 ∧ (IntKind.u64.wrap a).tmod 1000 < 1000 := by
    rw [Int.tmod_eq_emod_of_nonneg h0]; omega
  rw [w64 (n := (IntKind.u64.wrap a).tmod 1000) (by omega), w64 (by omega)]; omega
theorem u64_tot (t : Nat) (h2 : t ≤ 32) : IntKind.u64.wrap (t : Int) = t := by
  simp only [IntKind.wrap, IntKind.bits, IntKind.signed]; simp; omega
theorem pick_bound (a : Int) (t : Nat) (h1 : 1 ≤ t) (h2 : t ≤ 32) : 0 ≤ IntKind.i64.wrap ((IntKind.u64.wrap a).tmod (t : Int)) ∧ IntKind.i64.wrap ((IntKind.u64.wrap a).tmod (t : Int)) < t := by
  have h0 : 0 ≤ IntKind.u64.wrap a := by
    simp only [IntKind.wrap, IntKind.bits, IntKind.signed]; simp; omega
  have h3 : 0 ≤ (IntKind.u64.wrap a).tmod (t : Int) ∧ (IntKind.u64.wrap a).tmod (t : Int) < t := by
    rw [Int.tmod_eq_emod_of_nonneg h0]; exact ⟨Int.emod_nonneg _ (by omega), Int.emod_lt_of_pos _ (by omega)⟩
  rw [w64 (by omega)]; omega
end Go.Fy
