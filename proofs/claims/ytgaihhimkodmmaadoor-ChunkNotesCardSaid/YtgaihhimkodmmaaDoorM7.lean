/- My own texts, packed: KZx, K6x, K7x, K8x, KBx, L1x, KKx, KCx, KDx, KEx, KLx, KFx, KMx, KHx, KNx, L2x, S9, L5x, L6x, L3x. -/
import Derived.Test.YtgaihhimkodmmaaDoorM6
import Derived.Test.YtgaihhimkodmmaaDoorM3
import Derived.Test.YtgaihhimkodmmaaDoorM1
import Derived.Test.YtgaihhimkodmmaaDoorM4
import Derived.Test.YtgaihhimkodmmaaDoorM5
/- Layer 20: the note of bytes (walks over this dump). -/
namespace Go.Proofs.YtgaihhimkodmmaaDoor
attribute [local irreducible] Tryd.prog
open Go.Fy
set_option linter.unusedSimpArgs false
set_option linter.unusedVariables false
section
variable {ea : Nat → Addr} {cds : List Nat} {gl : Nat → Option AV}
theorem c14 (s : List UInt8) (h0 : s.length ≤ 140737488351232) (hG0 : gl 0 = some (.err (.code 1))) (hG1 : gl 1 = some (.err (.code 5))) (hG9 : gl 9 = some (.err (.code 6)))
    (hG4 : gl 4 = some (.err (.code 7))) (hG8 : gl 8 = some (.err (.code 4))) :
    APure (V ea cds gl) 14 [.str s] false (.tup [noteAV (Sp.get s).1, .err (errD (Sp.get s).2)]) := by
  refine acalls_of_body (N := 122) Tryd.func14 rfl rfl (Nat.le_of_ble_eq_true rfl) fun C hV hN hM hO => ?_
  obtain ⟨_, _, w0, G0, σ0, _, own0⟩ := C; dsimp only at hV hN hM hO; subst hV; subst hN; subst hM
  refine awp_seq ?_
  refine awp_region rfl ?_
  refine sR (opr_alloc (n := 2) rfl z26) rfl rfl rfl ?_
  refine sP (opp_as (v := .err _) rfl rfl) rfl rfl ?_
  refine awp_seq ?_
  refine awp_region rfl ?_
  refine sP (opp_mv (v := .str _) rfl rfl) rfl rfl ?_
  refine sR (opr_strBytes (n := 16) rfl rfl un9 un36 unu8) rfl rfl rfl ?_
  refine al_sh [(16, .sl 1 false s.length (bAt s))] [(16, none)] hO rfl (And.intro shut True.intro) True.intro ?_
  refine sR (opr_call rfl rfl ent58 rfl (c58 s (by omega) hG0 hG9) (AViews.refl _ rfl)) rfl rfl rfl ?_ -- d=17 t=37
  refine sP (opp_mv (v := .tup _) rfl rfl) rfl rfl ?_
  refine sP (opp_extract rfl rfl rfl) rfl rfl ?_
  refine sP (opp_extract rfl rfl rfl) rfl rfl ?_
  first
    | refine sP (opp_as (v := .sl _ _ _ _) rfl rfl) rfl rfl ?_
    | refine sP (opp_as (v := .osl _ _ _ _ _) rfl rfl) rfl rfl ?_
  refine sP (opp_as (v := .err _) rfl rfl) rfl rfl ?_
  refine awp_seq ?_
  refine awp_seq ?_
  refine awp_region rfl ?_
  refine sP (opp_mv (v := .err _) rfl rfl) rfl rfl ?_
  refine sP (opp_errNil rfl rfl rfl un29 (.inr ⟨rfl, rfl⟩)) rfl rfl ?_
  refine awp_cond _ rfl (fun hc4 => ?_) (fun hc4 => ?_)
  · (try simp only [cmpI, errD_nil, Bool.not_eq_true', Bool.not_eq_false', decide_eq_true_eq, decide_eq_false_iff_not] at hc4); have ht21 := hc4
    refine awp_seq ?_
    refine awp_region rfl ?_
    refine sP (opp_build rfl z26 bld26 rfl [.int .i64 0, .int .i64 0, .agg [.int .i64 0, .int .i64 0, .int .i64 0], .int .i64 0, .int .i64 0, .int .i64 0, .int .u32 0, .str []] rfl) rfl rfl ?_
    refine sP (opp_mv (v := .err _) rfl rfl) rfl rfl ?_
    refine sR0 (opr_store (v := .agg _) (trn := (.agg _)) rfl rfl rfl rfl bi rfl rfl rfl rfl fr2 ty26 (fun _ _ h => h)) rfl rfl rfl ?_
    refine sP (opp_as (v := .err _) rfl rfl) rfl rfl ?_
    refine awp_ret ?_
    repeat (first | refine athen_ret ?_ | refine ain_ret ?_)
    first
      | refine apost_ret (aend (l := [.agg _, .err _]) (.cell rfl rfl rfl (by exact True.intro) rfl ty26 (.tmp .nil)) (fun h => by cases h) (.cons (.noN rfl rfl) (.cons (.noN rfl rfl) .nil)) ⟨Wk.v ?_, rfl, rfl⟩)
      | refine apost_ret (aends (l := [.agg _, .err _]) (.cell rfl rfl rfl (by exact True.intro) rfl ty26 (.tmp .nil)) (fun h => by cases h) (.cons shut (fun h => by cases h) (.cons shut (fun h => by cases h) .nil)) rfl ⟨Wk.v ?_, rfl, rfl⟩)
    rw [show Sp.get s = (Sp.zero, (Sp.opened s).2) from if_pos ht21]; exact .refl
  · (try simp only [cmpI, errD_nil, Bool.not_eq_true', Bool.not_eq_false', decide_eq_true_eq, decide_eq_false_iff_not] at hc4); have ht21 := hc4
    refine awp_skip ?_
    refine awp_seq ?_
    refine awp_seq ?_
    rw [show (decide ((Sp.opened s).2 ≠ 0)) = false by simp [ht21]]
    have hok := Sp.opened_ok ht21
    have hlen : (Sp.opened s).1.length = s.length - 4 := by rw [hok.2.1, List.length_take]; omega
    have hf16 := fld_lt (Sp.opened s).1 0 2
    have hf19 := fld_lt (Sp.opened s).1 19 4
    refine awp_region rfl ?_
    refine sP (opp_mv (v := .str _) rfl rfl) rfl rfl ?_
    refine sP (opp_lenStr rfl rfl un9) rfl rfl ?_
    refine sP (opp_cmp rfl rfl rfl rfl) rfl rfl ?_
    refine awp_cond _ rfl (fun hc7 => ?_) (fun hc7 => ?_)
    · (try simp only [cmpI, errD_nil, Bool.not_eq_true', Bool.not_eq_false', decide_eq_true_eq, decide_eq_false_iff_not] at hc7); have ht26 := hc7
      refine awp_seq ?_
      refine awp_draw hmix rfl (by kernel_rfl) ?_
      refine dP (fun _ => false) (opp_build rfl z26 bld26 rfl [.int .i64 0, .int .i64 0, .agg [.int .i64 0, .int .i64 0, .int .i64 0], .int .i64 0, .int .i64 0, .int .i64 0, .int .u32 0, .str []] rfl) rfl rfl ?_
      refine dP (fun _ => false) (opp_loadF rfl (ev_glob hG0) ty29) rfl rfl ?_
      refine dR0 (fun n => Nat.beq n 2) (opr_store (v := .agg _) (trn := (.agg _)) rfl rfl rfl rfl bi rfl rfl rfl rfl fr2 ty26 (fun _ _ h => h)) rfl rfl rfl ?_
      refine dP (fun _ => false) (opp_as (v := .err _) rfl rfl) rfl rfl ?_
      refine And.intro (by kernel_rfl) ?_
      refine awp_ret ?_
      repeat (first | refine athen_ret ?_ | refine ain_ret ?_)
      first
        | refine apost_ret (aend (l := [.agg _, .err _]) (.cell rfl rfl rfl (by exact True.intro) rfl ty26 (.tmp .nil)) (fun h => by cases h) (.cons (.noN rfl rfl) (.cons (.noN rfl rfl) .nil)) ⟨Wk.v ?_, rfl, rfl⟩)
        | refine apost_ret (aends (l := [.agg _, .err _]) (.cell rfl rfl rfl (by exact True.intro) rfl ty26 (.tmp .nil)) (fun h => by cases h) (.cons shut (fun h => by cases h) (.cons shut (fun h => by cases h) .nil)) rfl ⟨Wk.v ?_, rfl, rfl⟩)
      rw [show Sp.get s = (Sp.zero, 1) by rw [Sp.get, if_neg (by simpa using ht21), if_pos (by omega)]]; exact .refl
    · (try simp only [cmpI, errD_nil, Bool.not_eq_true', Bool.not_eq_false', decide_eq_true_eq, decide_eq_false_iff_not] at hc7); have ht26 := hc7
      refine awp_skip ?_
      refine awp_seq ?_
      refine awp_region rfl ?_
      first
        | refine sP (opp_mv (v := .sl _ _ _ _) rfl rfl) rfl rfl ?_
        | refine sP (opp_mv (v := .osl _ _ _ _ _) rfl rfl) rfl rfl ?_
      first
          | refine sR (opr_callO (rl := [(8, 30)]) (r1 := .val _) (H1 := [(30, some (.agg [.sl _ _ _ _, .int _ _, .int _ _]))]) (n1 := [30]) rfl rfl ent59 rfl (co59 (Sp.opened s).1 (by omega)) (AViews.refl _ rfl) rfl rfl rfl rfl) rfl rfl rfl ?_
          | refine sR (opr_callO (rl := [(8, 30)]) (r1 := .fptr _) (H1 := [(30, some (.agg [.sl _ _ _ _, .int _ _, .int _ _]))]) (n1 := [30]) rfl rfl ent59 rfl (co59 (Sp.opened s).1 (by omega)) (AViews.refl _ rfl) rfl rfl rfl rfl) rfl rfl rfl ?_
          | refine sR (opr_callO (rl := [(8, 30)]) (r1 := .ptr _ _ _) (H1 := [(30, some (.agg [.sl _ _ _ _, .int _ _, .int _ _]))]) (n1 := [30]) rfl rfl ent59 rfl (co59 (Sp.opened s).1 (by omega)) (AViews.refl _ rfl) rfl rfl rfl rfl) rfl rfl rfl ?_
      first
        | refine sP (opp_as (v := .ptr _ _ _) rfl rfl) rfl rfl ?_
        | refine sP (opp_as (v := .fptr _) rfl rfl) rfl rfl ?_
      refine awp_seq ?_
      refine awp_seq ?_
      refine awp_region rfl ?_
      first
        | refine sP (opp_mv (v := .ptr _ _ _) rfl rfl) rfl rfl ?_
        | refine sP (opp_mv (v := .fptr _) rfl rfl) rfl rfl ?_
      refine sR (opr_callG (rl := [(1, 30)]) (r1 := .tup [.int _ _, .err _]) (H1 := [(30, some (.agg [.sl _ _ _ _, .int _ _, .int _ _]))]) (n1 := []) rfl rfl ent60 (cg60c (Sp.opened s).1 false 0 (Sp.opened s).1.length (by omega) (by omega) (by omega)) (And.intro (And.intro rfl wka) True.intro) (And.intro (And.intro rfl (Exists.intro _ (And.intro rfl wkc))) True.intro) rfl rfl rfl rfl) rfl rfl rfl ?_
      refine sP (opp_mv (v := .tup _) rfl rfl) rfl rfl ?_
      refine sP (opp_extract rfl rfl rfl) rfl rfl ?_
      refine sP (opp_extract rfl rfl rfl) rfl rfl ?_
      refine sP (opp_as (v := .int _ _) rfl rfl) rfl rfl ?_
      refine sP (opp_as (v := .err _) rfl rfl) rfl rfl ?_
      refine awp_seq ?_
      refine awp_region rfl ?_
      refine sP (opp_mv (v := .int _ _) rfl rfl) rfl rfl ?_
      refine sP (opp_mv (v := .str _) rfl rfl) rfl rfl ?_
      refine sP (opp_lenStr rfl rfl un9) rfl rfl ?_
      refine sP (opp_cmp rfl rfl rfl rfl) rfl rfl ?_
      refine awp_cond _ rfl (fun hc12 => ?_) (fun hc12 => ?_)
      · (try simp only [cmpI, errD_nil, Bool.not_eq_true', Bool.not_eq_false', decide_eq_true_eq, decide_eq_false_iff_not] at hc12); have ht39 := hc12
        refine awp_seq ?_
        refine awp_draw hmix rfl (by kernel_rfl) ?_
        refine dP (fun _ => false) (opp_build rfl z26 bld26 rfl [.int .i64 0, .int .i64 0, .agg [.int .i64 0, .int .i64 0, .int .i64 0], .int .i64 0, .int .i64 0, .int .i64 0, .int .u32 0, .str []] rfl) rfl rfl ?_
        refine dP (fun _ => false) (opp_loadF rfl (ev_glob hG1) ty29) rfl rfl ?_
        refine dR0 (fun n => Nat.beq n 2) (opr_store (v := .agg _) (trn := (.agg _)) rfl rfl rfl rfl bi rfl rfl rfl rfl fr2 ty26 (fun _ _ h => h)) rfl rfl rfl ?_
        refine dP (fun _ => false) (opp_as (v := .err _) rfl rfl) rfl rfl ?_
        refine And.intro (by kernel_rfl) ?_
        refine awp_ret ?_
        repeat (first | refine athen_ret ?_ | refine ain_ret ?_)
        first
          | refine apost_ret (aend (l := [.agg _, .err _]) (.cell rfl rfl rfl (by exact True.intro) rfl ty26 (.tmp .nil)) (fun h => by cases h) (.cons (.noN rfl rfl) (.cons (.noN rfl rfl) .nil)) ⟨Wk.v ?_, rfl, rfl⟩)
          | refine apost_ret (aends (l := [.agg _, .err _]) (.cell rfl rfl rfl (by exact True.intro) rfl ty26 (.tmp .nil)) (fun h => by cases h) (.cons shut (fun h => by cases h) (.cons shut (fun h => by cases h) .nil)) rfl ⟨Wk.v ?_, rfl, rfl⟩)
        rw [show Sp.get s = (Sp.zero, 5) by rw [Sp.get, if_neg (by simpa using ht21), if_neg (by omega), if_pos (by omega)]]; exact .refl
      · (try simp only [cmpI, errD_nil, Bool.not_eq_true', Bool.not_eq_false', decide_eq_true_eq, decide_eq_false_iff_not] at hc12); have ht39 := hc12
        refine awp_skip ?_
        refine awp_seq ?_
        refine awp_region rfl ?_
        refine sR (opr_alloc (n := 9) rfl z26) rfl rfl rfl ?_
        refine awp_seq ?_
        refine awp_region rfl ?_
        first
          | refine sP (opp_mv (v := .ptr _ _ _) rfl rfl) rfl rfl ?_
          | refine sP (opp_mv (v := .fptr _) rfl rfl) rfl rfl ?_
        refine sR (opr_callG (rl := [(1, 30)]) (r1 := .tup [.int _ _, .err _]) (H1 := [(30, some (.agg [.sl _ _ _ _, .int _ _, .int _ _]))]) (n1 := []) rfl rfl ent61 (cg61c (Sp.opened s).1 false 2 (Sp.opened s).1.length (by omega) (by omega) (by omega)) (And.intro (And.intro rfl wka) True.intro) (And.intro (And.intro rfl (Exists.intro _ (And.intro rfl wkc))) True.intro) rfl rfl rfl rfl) rfl rfl rfl ?_
        refine sP (opp_mv (v := .tup _) rfl rfl) rfl rfl ?_
        refine sP (opp_extract rfl rfl rfl) rfl rfl ?_
        refine sP (opp_extract rfl rfl rfl) rfl rfl ?_
        first
          | refine sP (opp_fieldP rfl rfl fld26_0 rfl) rfl rfl ?_
          | refine sP (opp_fieldF rfl rfl rfl fld26_0 rfl rfl) rfl rfl ?_
        refine sR0 (opr_store (v := .int _ _) (trn := (.agg [.int _ _, _, _, _, _, _, _, _])) rfl rfl rfl rfl bi rfl rfl rfl rfl fr2 ty3 (fun _ _ h => h)) rfl rfl rfl ?_
        refine awp_seq ?_
        refine awp_region rfl ?_
        first
          | refine sP (opp_mv (v := .ptr _ _ _) rfl rfl) rfl rfl ?_
          | refine sP (opp_mv (v := .fptr _) rfl rfl) rfl rfl ?_
        refine sR (opr_callG (rl := [(1, 30)]) (r1 := .tup [.int _ _, .err _]) (H1 := [(30, some (.agg [.sl _ _ _ _, .int _ _, .int _ _]))]) (n1 := []) rfl rfl ent61 (cg61c (Sp.opened s).1 false 3 (Sp.opened s).1.length (by omega) (by omega) (by omega)) (And.intro (And.intro rfl wka) True.intro) (And.intro (And.intro rfl (Exists.intro _ (And.intro rfl wkc))) True.intro) rfl rfl rfl rfl) rfl rfl rfl ?_
        refine sP (opp_mv (v := .tup _) rfl rfl) rfl rfl ?_
        refine sP (opp_extract rfl rfl rfl) rfl rfl ?_
        refine sP (opp_extract rfl rfl rfl) rfl rfl ?_
        first
          | refine sP (opp_fieldP rfl rfl fld26_1 rfl) rfl rfl ?_
          | refine sP (opp_fieldF rfl rfl rfl fld26_1 rfl rfl) rfl rfl ?_
        refine sR0 (opr_store (v := .int _ _) (trn := (.agg [_, .int _ _, _, _, _, _, _, _])) rfl rfl rfl rfl bi rfl rfl rfl rfl fr2 ty3 (fun _ _ h => h)) rfl rfl rfl ?_
        refine awp_seq ?_
        refine awp_region rfl ?_
        first
          | refine sP (opp_mv (v := .ptr _ _ _) rfl rfl) rfl rfl ?_
          | refine sP (opp_mv (v := .fptr _) rfl rfl) rfl rfl ?_
        refine sR (opr_callG (rl := [(1, 30)]) (r1 := .tup [.int _ _, .err _]) (H1 := [(30, some (.agg [.sl _ _ _ _, .int _ _, .int _ _]))]) (n1 := []) rfl rfl ent62 (cg62c (Sp.opened s).1 false 4 (Sp.opened s).1.length (by omega) (by omega) (by omega)) (And.intro (And.intro rfl wka) True.intro) (And.intro (And.intro rfl (Exists.intro _ (And.intro rfl wkc))) True.intro) rfl rfl rfl rfl) rfl rfl rfl ?_
        refine sP (opp_mv (v := .tup _) rfl rfl) rfl rfl ?_
        refine sP (opp_extract rfl rfl rfl) rfl rfl ?_
        refine sP (opp_extract rfl rfl rfl) rfl rfl ?_
        first
          | refine sP (opp_fieldP rfl rfl fld26_2 rfl) rfl rfl ?_
          | refine sP (opp_fieldF rfl rfl rfl fld26_2 rfl rfl) rfl rfl ?_
        first
          | refine sP (opp_fieldP rfl rfl fld23_0 rfl) rfl rfl ?_
          | refine sP (opp_fieldF rfl rfl rfl fld23_0 rfl rfl) rfl rfl ?_
        refine sR0 (opr_store (v := .int _ _) (trn := (.agg [_, _, .agg [.int _ _, _, _], _, _, _, _, _])) rfl rfl rfl rfl bi rfl rfl rfl rfl fr2 ty3 (fun _ _ h => h)) rfl rfl rfl ?_
        refine awp_seq ?_
        refine awp_region rfl ?_
        first
          | refine sP (opp_mv (v := .ptr _ _ _) rfl rfl) rfl rfl ?_
          | refine sP (opp_mv (v := .fptr _) rfl rfl) rfl rfl ?_
        refine sR (opr_callG (rl := [(1, 30)]) (r1 := .tup [.int _ _, .err _]) (H1 := [(30, some (.agg [.sl _ _ _ _, .int _ _, .int _ _]))]) (n1 := []) rfl rfl ent62 (cg62c (Sp.opened s).1 false 8 (Sp.opened s).1.length (by omega) (by omega) (by omega)) (And.intro (And.intro rfl wka) True.intro) (And.intro (And.intro rfl (Exists.intro _ (And.intro rfl wkc))) True.intro) rfl rfl rfl rfl) rfl rfl rfl ?_
        refine sP (opp_mv (v := .tup _) rfl rfl) rfl rfl ?_
        refine sP (opp_extract rfl rfl rfl) rfl rfl ?_
        refine sP (opp_extract rfl rfl rfl) rfl rfl ?_
        first
          | refine sP (opp_fieldP rfl rfl fld26_2 rfl) rfl rfl ?_
          | refine sP (opp_fieldF rfl rfl rfl fld26_2 rfl rfl) rfl rfl ?_
        first
          | refine sP (opp_fieldP rfl rfl fld23_1 rfl) rfl rfl ?_
          | refine sP (opp_fieldF rfl rfl rfl fld23_1 rfl rfl) rfl rfl ?_
        refine sR0 (opr_store (v := .int _ _) (trn := (.agg [_, _, .agg [_, .int _ _, _], _, _, _, _, _])) rfl rfl rfl rfl bi rfl rfl rfl rfl fr2 ty3 (fun _ _ h => h)) rfl rfl rfl ?_
        refine awp_seq ?_
        refine awp_region rfl ?_
        first
          | refine sP (opp_mv (v := .ptr _ _ _) rfl rfl) rfl rfl ?_
          | refine sP (opp_mv (v := .fptr _) rfl rfl) rfl rfl ?_
        refine sR (opr_callG (rl := [(1, 30)]) (r1 := .tup [.int _ _, .err _]) (H1 := [(30, some (.agg [.sl _ _ _ _, .int _ _, .int _ _]))]) (n1 := []) rfl rfl ent62 (cg62c (Sp.opened s).1 false 12 (Sp.opened s).1.length (by omega) (by omega) (by omega)) (And.intro (And.intro rfl wka) True.intro) (And.intro (And.intro rfl (Exists.intro _ (And.intro rfl wkc))) True.intro) rfl rfl rfl rfl) rfl rfl rfl ?_
        refine sP (opp_mv (v := .tup _) rfl rfl) rfl rfl ?_
        refine sP (opp_extract rfl rfl rfl) rfl rfl ?_
        refine sP (opp_extract rfl rfl rfl) rfl rfl ?_
        first
          | refine sP (opp_fieldP rfl rfl fld26_2 rfl) rfl rfl ?_
          | refine sP (opp_fieldF rfl rfl rfl fld26_2 rfl rfl) rfl rfl ?_
        first
          | refine sP (opp_fieldP rfl rfl fld23_2 rfl) rfl rfl ?_
          | refine sP (opp_fieldF rfl rfl rfl fld23_2 rfl rfl) rfl rfl ?_
        refine sR0 (opr_store (v := .int _ _) (trn := (.agg [_, _, .agg [_, _, .int _ _], _, _, _, _, _])) rfl rfl rfl rfl bi rfl rfl rfl rfl fr2 ty3 (fun _ _ h => h)) rfl rfl rfl ?_
        refine awp_seq ?_
        refine awp_region rfl ?_
        first
          | refine sP (opp_mv (v := .ptr _ _ _) rfl rfl) rfl rfl ?_
          | refine sP (opp_mv (v := .fptr _) rfl rfl) rfl rfl ?_
        refine sR (opr_callG (rl := [(1, 30)]) (r1 := .tup [.int _ _, .err _]) (H1 := [(30, some (.agg [.sl _ _ _ _, .int _ _, .int _ _]))]) (n1 := []) rfl rfl ent61 (cg61c (Sp.opened s).1 false 16 (Sp.opened s).1.length (by omega) (by omega) (by omega)) (And.intro (And.intro rfl wka) True.intro) (And.intro (And.intro rfl (Exists.intro _ (And.intro rfl wkc))) True.intro) rfl rfl rfl rfl) rfl rfl rfl ?_
        refine sP (opp_mv (v := .tup _) rfl rfl) rfl rfl ?_
        refine sP (opp_extract rfl rfl rfl) rfl rfl ?_
        refine sP (opp_extract rfl rfl rfl) rfl rfl ?_
        first
          | refine sP (opp_fieldP rfl rfl fld26_3 rfl) rfl rfl ?_
          | refine sP (opp_fieldF rfl rfl rfl fld26_3 rfl rfl) rfl rfl ?_
        refine sR0 (opr_store (v := .int _ _) (trn := (.agg [_, _, _, .int _ _, _, _, _, _])) rfl rfl rfl rfl bi rfl rfl rfl rfl fr2 ty3 (fun _ _ h => h)) rfl rfl rfl ?_
        refine awp_seq ?_
        refine awp_region rfl ?_
        first
          | refine sP (opp_mv (v := .ptr _ _ _) rfl rfl) rfl rfl ?_
          | refine sP (opp_mv (v := .fptr _) rfl rfl) rfl rfl ?_
        refine sR (opr_callG (rl := [(1, 30)]) (r1 := .tup [.int _ _, .err _]) (H1 := [(30, some (.agg [.sl _ _ _ _, .int _ _, .int _ _]))]) (n1 := []) rfl rfl ent61 (cg61c (Sp.opened s).1 false 17 (Sp.opened s).1.length (by omega) (by omega) (by omega)) (And.intro (And.intro rfl wka) True.intro) (And.intro (And.intro rfl (Exists.intro _ (And.intro rfl wkc))) True.intro) rfl rfl rfl rfl) rfl rfl rfl ?_
        refine sP (opp_mv (v := .tup _) rfl rfl) rfl rfl ?_
        refine sP (opp_extract rfl rfl rfl) rfl rfl ?_
        refine sP (opp_extract rfl rfl rfl) rfl rfl ?_
        first
          | refine sP (opp_fieldP rfl rfl fld26_4 rfl) rfl rfl ?_
          | refine sP (opp_fieldF rfl rfl rfl fld26_4 rfl rfl) rfl rfl ?_
        refine sR0 (opr_store (v := .int _ _) (trn := (.agg [_, _, _, _, .int _ _, _, _, _])) rfl rfl rfl rfl bi rfl rfl rfl rfl fr2 ty3 (fun _ _ h => h)) rfl rfl rfl ?_
        refine awp_seq ?_
        refine awp_region rfl ?_
        first
          | refine sP (opp_mv (v := .ptr _ _ _) rfl rfl) rfl rfl ?_
          | refine sP (opp_mv (v := .fptr _) rfl rfl) rfl rfl ?_
        refine sR (opr_callG (rl := [(1, 30)]) (r1 := .tup [.int _ _, .err _]) (H1 := [(30, some (.agg [.sl _ _ _ _, .int _ _, .int _ _]))]) (n1 := []) rfl rfl ent61 (cg61c (Sp.opened s).1 false 18 (Sp.opened s).1.length (by omega) (by omega) (by omega)) (And.intro (And.intro rfl wka) True.intro) (And.intro (And.intro rfl (Exists.intro _ (And.intro rfl wkc))) True.intro) rfl rfl rfl rfl) rfl rfl rfl ?_
        refine sP (opp_mv (v := .tup _) rfl rfl) rfl rfl ?_
        refine sP (opp_extract rfl rfl rfl) rfl rfl ?_
        refine sP (opp_extract rfl rfl rfl) rfl rfl ?_
        first
          | refine sP (opp_fieldP rfl rfl fld26_5 rfl) rfl rfl ?_
          | refine sP (opp_fieldF rfl rfl rfl fld26_5 rfl rfl) rfl rfl ?_
        refine sR0 (opr_store (v := .int _ _) (trn := (.agg [_, _, _, _, _, .int _ _, _, _])) rfl rfl rfl rfl bi rfl rfl rfl rfl fr2 ty3 (fun _ _ h => h)) rfl rfl rfl ?_
        refine awp_seq ?_
        refine awp_region rfl ?_
        first
          | refine sP (opp_mv (v := .ptr _ _ _) rfl rfl) rfl rfl ?_
          | refine sP (opp_mv (v := .fptr _) rfl rfl) rfl rfl ?_
        refine sR (opr_callG (rl := [(1, 30)]) (r1 := .tup [.int _ _, .err _]) (H1 := [(30, some (.agg [.sl _ _ _ _, .int _ _, .int _ _]))]) (n1 := []) rfl rfl ent62 (cg62c (Sp.opened s).1 false 19 (Sp.opened s).1.length (by omega) (by omega) (by omega)) (And.intro (And.intro rfl wka) True.intro) (And.intro (And.intro rfl (Exists.intro _ (And.intro rfl wkc))) True.intro) rfl rfl rfl rfl) rfl rfl rfl ?_
        refine sP (opp_mv (v := .tup _) rfl rfl) rfl rfl ?_
        refine sP (opp_extract rfl rfl rfl) rfl rfl ?_
        refine sP (opp_extract rfl rfl rfl) rfl rfl ?_
        refine sP (opp_as (v := .int _ _) rfl rfl) rfl rfl ?_
        refine sP (opp_as (v := .err _) rfl rfl) rfl rfl ?_
        refine awp_seq ?_
        refine awp_region rfl ?_
        first
          | refine sP (opp_mv (v := .ptr _ _ _) rfl rfl) rfl rfl ?_
          | refine sP (opp_mv (v := .fptr _) rfl rfl) rfl rfl ?_
        first
          | refine sP (opp_mv (v := .ptr _ _ _) rfl rfl) rfl rfl ?_
          | refine sP (opp_mv (v := .fptr _) rfl rfl) rfl rfl ?_
        refine sR (opr_callG (rl := [(1, 30)]) (r1 := .int _ _) (H1 := [(30, some (.agg [.sl _ _ _ _, .int _ _, .int _ _]))]) (n1 := []) rfl rfl ent64 (cg64c (Sp.opened s).1 false 23 (Sp.opened s).1.length (by omega) (by omega)) (And.intro (And.intro rfl wka) True.intro) (And.intro (And.intro rfl (Exists.intro _ (And.intro rfl wkc))) True.intro) rfl rfl rfl rfl) rfl rfl rfl ?_
        refine sR (opr_callG (rl := [(1, 30)]) (r1 := .tup [.sl _ _ _ _, .err _]) (H1 := [(30, some (.agg [.sl _ _ _ _, .int _ _, .int _ _]))]) (n1 := []) rfl rfl ent63 (cg63c (Sp.opened s).1 23 (Sp.opened s).1.length ((Sp.opened s).1.length - 23) (by omega) (by omega) (by omega)) (And.intro (And.intro rfl wka) (And.intro (And.intro rfl wka) True.intro)) (And.intro (And.intro rfl (Exists.intro _ (And.intro rfl wkc))) True.intro) rfl rfl rfl rfl) rfl rfl rfl ?_
        refine sP (opp_mv (v := .tup _) rfl rfl) rfl rfl ?_
        refine sP (opp_extract rfl rfl rfl) rfl rfl ?_
        refine sP (opp_extract rfl rfl rfl) rfl rfl ?_
        first
          | refine sP (opp_as (v := .sl _ _ _ _) rfl rfl) rfl rfl ?_
          | refine sP (opp_as (v := .osl _ _ _ _ _) rfl rfl) rfl rfl ?_
        refine sP (opp_as (v := .err _) rfl rfl) rfl rfl ?_
        refine awp_seq ?_
        refine awp_seq ?_
        rw [show ((Sp.opened s).1.drop 23).take ((Sp.opened s).1.length - 23) = (Sp.opened s).1.drop 23 from List.take_of_length_le (by rw [List.length_drop]; omega)]
        refine awp_region rfl ?_
        refine sP (opp_mv (v := .err _) rfl rfl) rfl rfl ?_
        refine sP (opp_errNil rfl rfl rfl un29 (.inr ⟨rfl, rfl⟩)) rfl rfl ?_
        refine awp_cond _ rfl (fun hc26 => ?_) (fun hc26 => ?_)
        · (try simp only [cmpI, errD_nil, Bool.not_eq_true', Bool.not_eq_false', decide_eq_true_eq, decide_eq_false_iff_not] at hc26); have ht106 := hc26
          exact absurd ht106 (by decide)
        · (try simp only [cmpI, errD_nil, Bool.not_eq_true', Bool.not_eq_false', decide_eq_true_eq, decide_eq_false_iff_not] at hc26); have ht106 := hc26
          refine awp_skip ?_
          refine awp_seq ?_
          refine awp_draw hmix rfl (by kernel_rfl) ?_
          refine dP (fun _ => false) (opp_mv (v := .int _ _) rfl rfl) rfl rfl ?_
          first
            | refine dP (fun n => !([9, 112] : List Nat).contains n) (opp_convInt rfl rfl un3s un24 (wu32 (by omega))) rfl rfl ?_
            | refine dP (fun n => !([9, 112] : List Nat).contains n) (opp_convInt rfl rfl un3s un24 rfl) rfl rfl ?_
          first
            | refine dP (fun _ => false) (opp_mv (v := .sl _ _ _ _) rfl rfl) rfl rfl ?_
            | refine dP (fun _ => false) (opp_mv (v := .osl _ _ _ _ _) rfl rfl) rfl rfl ?_
          refine dP (fun n => !([9, 110] : List Nat).contains n) (opp_bytesStr rfl rfl _ rfl (fun j hj => rfl) un36 unu8 un9) rfl rfl ?_
          first
            | refine dP (fun _ => false) (opp_fieldP rfl rfl fld26_6 rfl) rfl rfl ?_
            | refine dP (fun _ => false) (opp_fieldF rfl rfl rfl fld26_6 rfl rfl) rfl rfl ?_
          refine dR0 (fun n => Nat.beq n 9) (opr_store (v := .int _ _) (trn := (.agg [_, _, _, _, _, _, .int _ _, _])) rfl rfl rfl rfl bi rfl rfl rfl rfl fr2 ty24 (fun _ _ h => h)) rfl rfl rfl ?_
          first
            | refine dP (fun _ => false) (opp_fieldP rfl rfl fld26_7 rfl) rfl rfl ?_
            | refine dP (fun _ => false) (opp_fieldF rfl rfl rfl fld26_7 rfl rfl) rfl rfl ?_
          refine dR0 (fun n => Nat.beq n 9) (opr_store (v := .str _) (trn := (.agg [_, _, _, _, _, _, _, .str _])) rfl rfl rfl rfl bi rfl rfl rfl rfl fr2 ty9 (fun _ _ h => h)) rfl rfl rfl ?_
          refine And.intro (by kernel_rfl) ?_
          refine awp_seq ?_
          refine awp_seq ?_
          refine awp_region rfl ?_
          first
            | refine sP (opp_loadP rfl rfl rfl rfl bi rfl ty26) rfl rfl ?_
            | refine sP (opp_loadF rfl rfl ty26) rfl rfl ?_
          refine sR (opr_call rfl rfl ent47 rfl (c47 (Sp.noteOf (Sp.opened s).1) hG4 hG8) (AViews.refl _ rfl)) rfl rfl rfl ?_ -- d=116 t=29
          refine sP (opp_as (v := .err _) rfl rfl) rfl rfl ?_
          refine awp_seq ?_
          refine awp_region rfl ?_
          refine sP (opp_mv (v := .err _) rfl rfl) rfl rfl ?_
          refine sP (opp_errNil rfl rfl rfl un29 (.inr ⟨rfl, rfl⟩)) rfl rfl ?_
          refine awp_cond _ rfl (fun hc30 => ?_) (fun hc30 => ?_)
          · (try simp only [cmpI, errD_nil, Bool.not_eq_true', Bool.not_eq_false', decide_eq_true_eq, decide_eq_false_iff_not] at hc30); have ht118 := hc30
            refine awp_seq ?_
            refine awp_region rfl ?_
            refine sP (opp_build rfl z26 bld26 rfl [.int .i64 0, .int .i64 0, .agg [.int .i64 0, .int .i64 0, .int .i64 0], .int .i64 0, .int .i64 0, .int .i64 0, .int .u32 0, .str []] rfl) rfl rfl ?_
            refine sP (opp_mv (v := .err _) rfl rfl) rfl rfl ?_
            refine sR0 (opr_store (v := .agg _) (trn := (.agg _)) rfl rfl rfl rfl bi rfl rfl rfl rfl fr2 ty26 (fun _ _ h => h)) rfl rfl rfl ?_
            refine sP (opp_as (v := .err _) rfl rfl) rfl rfl ?_
            refine awp_ret ?_
            repeat (first | refine athen_ret ?_ | refine ain_ret ?_)
            first
              | refine apost_ret (aend (l := [.agg _, .err _]) (.cell rfl rfl rfl (by exact True.intro) rfl ty26 (.tmp .nil)) (fun h => by cases h) (.cons (.noN rfl rfl) (.cons (.noN rfl rfl) .nil)) ⟨Wk.v ?_, rfl, rfl⟩)
              | refine apost_ret (aends (l := [.agg _, .err _]) (.cell rfl rfl rfl (by exact True.intro) rfl ty26 (.tmp .nil)) (fun h => by cases h) (.cons shut (fun h => by cases h) (.cons shut (fun h => by cases h) .nil)) rfl ⟨Wk.v ?_, rfl, rfl⟩)
            rw [show Sp.get s = (Sp.zero, Sp.check (Sp.noteOf (Sp.opened s).1)) by rw [Sp.get, if_neg (by simpa using ht21), if_neg (by omega), if_neg (by omega), if_pos ht118]]; exact .refl
          · (try simp only [cmpI, errD_nil, Bool.not_eq_true', Bool.not_eq_false', decide_eq_true_eq, decide_eq_false_iff_not] at hc30); have ht118 := hc30
            refine awp_skip ?_
            refine awp_seq ?_
            refine awp_region rfl ?_
            first
              | refine sP (opp_loadP rfl rfl rfl rfl bi rfl ty26) rfl rfl ?_
              | refine sP (opp_loadF rfl rfl ty26) rfl rfl ?_
            refine sR0 (opr_store (v := .agg _) (trn := (.agg _)) rfl rfl rfl rfl bi rfl rfl rfl rfl fr2 ty26 (fun _ _ h => h)) rfl rfl rfl ?_
            refine sP (opp_as (v := .err _) rfl rfl) rfl rfl ?_
            refine awp_ret ?_
            repeat (first | refine athen_ret ?_ | refine ain_ret ?_)
            first
              | refine apost_ret (aend (l := [.agg _, .err _]) (.cell rfl rfl rfl (by exact True.intro) rfl ty26 (.tmp .nil)) (fun h => by cases h) (.cons (.noN rfl rfl) (.cons (.noN rfl rfl) .nil)) ⟨Wk.v ?_, rfl, rfl⟩)
              | refine apost_ret (aends (l := [.agg _, .err _]) (.cell rfl rfl rfl (by exact True.intro) rfl ty26 (.tmp .nil)) (fun h => by cases h) (.cons shut (fun h => by cases h) (.cons shut (fun h => by cases h) .nil)) rfl ⟨Wk.v ?_, rfl, rfl⟩)
            rw [show Sp.get s = (Sp.noteOf (Sp.opened s).1, 0) by rw [Sp.get, if_neg (by simpa using ht21), if_neg (by omega), if_neg (by omega), if_neg (by simpa using ht118)]]; exact .refl
end
end Go.Proofs.YtgaihhimkodmmaaDoor
/- Layer 20: stages go on (walks over this dump). -/
namespace Go.Proofs.YtgaihhimkodmmaaDoor
attribute [local irreducible] Tryd.prog
open Go.Fy
set_option linter.unusedSimpArgs false
section
variable {ea : Nat → Addr} {cds : List Nat} {gl : Nat → Option AV}
end
end Go.Proofs.YtgaihhimkodmmaaDoor
/- Layer 22: what has come (walks over this dump). -/
namespace Go.Proofs.YtgaihhimkodmmaaDoor
attribute [local irreducible] Tryd.prog
open Go.Fy
set_option linter.unusedSimpArgs false
section
variable {ea : Nat → Addr} {cds : List Nat} {gl : Nat → Option AV}
end
end Go.Proofs.YtgaihhimkodmmaaDoor
/- Layer 20: an image is cut (walks over this dump). -/
namespace Go.Proofs.YtgaihhimkodmmaaDoor
attribute [local irreducible] Tryd.prog
open Go.Fy
set_option linter.unusedSimpArgs false
section
variable {ea : Nat → Addr} {cds : List Nat} {gl : Nat → Option AV}
theorem c91 (b : Bool) (n : Nat) (f : Nat → AV) (k : Int) (h0 : 1 ≤ k) : APure (V ea cds gl) 91 [.sl 1 b n f, .int .i64 k] false (.fn 124 [.fptr (.sl 1 b n f), .fptr (.int .i64 k)]) := by
  refine acalls_of_body (N := 9) Tryd.func91 rfl rfl (Nat.le_of_ble_eq_true rfl) fun C hV hN hM hO => ?_
  obtain ⟨_, _, w0, G0, σ0, _, own0⟩ := C; dsimp only at hV hN hM hO; subst hV; subst hN; subst hM
  refine awp_seq ?_
  refine awp_region rfl ?_
  first
    | refine sR (opr_box (y := .sl _ _ _ _) (n := 2) rfl rfl rfl) rfl rfl rfl ?_
    | refine sR (opr_box (y := .osl _ _ _ _ _) (n := 2) rfl rfl rfl) rfl rfl rfl ?_
  refine sR (opr_box (y := .int _ _) (n := 3) rfl rfl rfl) rfl rfl rfl ?_
  first
    | refine sP (opp_as (v := .fn _ _) rfl rfl) rfl rfl ?_
    | refine sP (opp_as (v := .val _) rfl rfl) rfl rfl ?_
  refine awp_seq ?_
  refine awp_seq ?_
  refine awp_region rfl ?_
  first
    | refine sP (opp_loadP rfl rfl rfl rfl bi rfl ty3) rfl rfl ?_
    | refine sP (opp_loadF rfl rfl ty3) rfl rfl ?_
  refine sP (opp_cmp rfl rfl rfl rfl) rfl rfl ?_
  refine awp_cond _ rfl (fun hc3 => ?_) (fun hc3 => ?_)
  · (try simp only [cmpI, errD_nil, Bool.not_eq_true', Bool.not_eq_false', decide_eq_true_eq, decide_eq_false_iff_not] at hc3); have ht6 := hc3
    exfalso; first | omega | (simp_all; done)
  · (try simp only [cmpI, errD_nil, Bool.not_eq_true', Bool.not_eq_false', decide_eq_true_eq, decide_eq_false_iff_not] at hc3); have ht6 := hc3
    refine awp_skip ?_
    refine awp_seq ?_
    refine awp_region rfl ?_
    first
      | refine sP (opp_makeFunc (vs := [.ptr _ _ _, .ptr _ _ _]) rfl rfl rfl rfl) rfl rfl ?_
      | refine sP (opp_makeFunc (vs := [.ptr _ _ _, .fptr _]) rfl rfl rfl rfl) rfl rfl ?_
      | refine sP (opp_makeFunc (vs := [.ptr _ _ _, .fn _ _]) rfl rfl rfl rfl) rfl rfl ?_
      | refine sP (opp_makeFunc (vs := [.ptr _ _ _, .int _ _]) rfl rfl rfl rfl) rfl rfl ?_
      | refine sP (opp_makeFunc (vs := [.ptr _ _ _, .osl _ _ _ _ _]) rfl rfl rfl rfl) rfl rfl ?_
      | refine sP (opp_makeFunc (vs := [.ptr _ _ _, .sl _ _ _ _]) rfl rfl rfl rfl) rfl rfl ?_
      | refine sP (opp_makeFunc (vs := [.fptr _, .ptr _ _ _]) rfl rfl rfl rfl) rfl rfl ?_
      | refine sP (opp_makeFunc (vs := [.fptr _, .fptr _]) rfl rfl rfl rfl) rfl rfl ?_
      | refine sP (opp_makeFunc (vs := [.fptr _, .fn _ _]) rfl rfl rfl rfl) rfl rfl ?_
      | refine sP (opp_makeFunc (vs := [.fptr _, .int _ _]) rfl rfl rfl rfl) rfl rfl ?_
      | refine sP (opp_makeFunc (vs := [.fptr _, .osl _ _ _ _ _]) rfl rfl rfl rfl) rfl rfl ?_
      | refine sP (opp_makeFunc (vs := [.fptr _, .sl _ _ _ _]) rfl rfl rfl rfl) rfl rfl ?_
      | refine sP (opp_makeFunc (vs := [.fn _ _, .ptr _ _ _]) rfl rfl rfl rfl) rfl rfl ?_
      | refine sP (opp_makeFunc (vs := [.fn _ _, .fptr _]) rfl rfl rfl rfl) rfl rfl ?_
      | refine sP (opp_makeFunc (vs := [.fn _ _, .fn _ _]) rfl rfl rfl rfl) rfl rfl ?_
      | refine sP (opp_makeFunc (vs := [.fn _ _, .int _ _]) rfl rfl rfl rfl) rfl rfl ?_
      | refine sP (opp_makeFunc (vs := [.fn _ _, .osl _ _ _ _ _]) rfl rfl rfl rfl) rfl rfl ?_
      | refine sP (opp_makeFunc (vs := [.fn _ _, .sl _ _ _ _]) rfl rfl rfl rfl) rfl rfl ?_
      | refine sP (opp_makeFunc (vs := [.int _ _, .ptr _ _ _]) rfl rfl rfl rfl) rfl rfl ?_
      | refine sP (opp_makeFunc (vs := [.int _ _, .fptr _]) rfl rfl rfl rfl) rfl rfl ?_
      | refine sP (opp_makeFunc (vs := [.int _ _, .fn _ _]) rfl rfl rfl rfl) rfl rfl ?_
      | refine sP (opp_makeFunc (vs := [.int _ _, .int _ _]) rfl rfl rfl rfl) rfl rfl ?_
      | refine sP (opp_makeFunc (vs := [.int _ _, .osl _ _ _ _ _]) rfl rfl rfl rfl) rfl rfl ?_
      | refine sP (opp_makeFunc (vs := [.int _ _, .sl _ _ _ _]) rfl rfl rfl rfl) rfl rfl ?_
      | refine sP (opp_makeFunc (vs := [.osl _ _ _ _ _, .ptr _ _ _]) rfl rfl rfl rfl) rfl rfl ?_
      | refine sP (opp_makeFunc (vs := [.osl _ _ _ _ _, .fptr _]) rfl rfl rfl rfl) rfl rfl ?_
      | refine sP (opp_makeFunc (vs := [.osl _ _ _ _ _, .fn _ _]) rfl rfl rfl rfl) rfl rfl ?_
      | refine sP (opp_makeFunc (vs := [.osl _ _ _ _ _, .int _ _]) rfl rfl rfl rfl) rfl rfl ?_
      | refine sP (opp_makeFunc (vs := [.osl _ _ _ _ _, .osl _ _ _ _ _]) rfl rfl rfl rfl) rfl rfl ?_
      | refine sP (opp_makeFunc (vs := [.osl _ _ _ _ _, .sl _ _ _ _]) rfl rfl rfl rfl) rfl rfl ?_
      | refine sP (opp_makeFunc (vs := [.sl _ _ _ _, .ptr _ _ _]) rfl rfl rfl rfl) rfl rfl ?_
      | refine sP (opp_makeFunc (vs := [.sl _ _ _ _, .fptr _]) rfl rfl rfl rfl) rfl rfl ?_
      | refine sP (opp_makeFunc (vs := [.sl _ _ _ _, .fn _ _]) rfl rfl rfl rfl) rfl rfl ?_
      | refine sP (opp_makeFunc (vs := [.sl _ _ _ _, .int _ _]) rfl rfl rfl rfl) rfl rfl ?_
      | refine sP (opp_makeFunc (vs := [.sl _ _ _ _, .osl _ _ _ _ _]) rfl rfl rfl rfl) rfl rfl ?_
      | refine sP (opp_makeFunc (vs := [.sl _ _ _ _, .sl _ _ _ _]) rfl rfl rfl rfl) rfl rfl ?_
    first
      | refine sP (opp_as (v := .fn _ _) rfl rfl) rfl rfl ?_
      | refine sP (opp_as (v := .val _) rfl rfl) rfl rfl ?_
    refine awp_ret ?_
    repeat (first | refine athen_ret ?_ | refine ain_ret ?_)
    first
      | refine apost_ret (aend1 (r0 := .fn _ _) (.tmp .nil) (.noN rfl rfl) ⟨Wk.v ?_, rfl, rfl⟩)
      | refine apost_ret (aend1s (r0 := .fn _ _) (.tmp .nil) shut rfl ⟨Wk.v ?_, rfl, rfl⟩)
      | refine apost_ret (aend1 (r0 := .val _) (.tmp .nil) (.noN rfl rfl) ⟨Wk.v ?_, rfl, rfl⟩)
      | refine apost_ret (aend1s (r0 := .val _) (.tmp .nil) shut rfl ⟨Wk.v ?_, rfl, rfl⟩)
    (repeat' (first | exact Wk.refl | exact Wk.sl0 | apply Wk.tup | apply Wk.agg | apply WkL.cons | exact WkL.nil | refine Wk.sl (fun _ _ => ?_)))
end
end Go.Proofs.YtgaihhimkodmmaaDoor
/- Layer 20: an image is cut (walks over this dump). -/
namespace Go.Proofs.YtgaihhimkodmmaaDoor
open Go.Fy Go.RowKit
set_option linter.unusedSimpArgs false
attribute [local irreducible] Tryd.prog
/-- The pieces of a row. -/
theorem chunk_seq {ea : Nat → Addr} {cds : List Nat} {gl : Nat → Option AV} (b : Bool) (n : Nat) (f : Nat → AV) (h1 : 1 ≤ n) (h2 : n ≤ 4611686018427387904) :
    ASeq (V ea cds gl) 124 [.fptr (.sl 1 b n f), .fptr (.int .i64 128)] ((n + 127) / 128) (fun k => .sl 1 (decide (n ≤ 128 * k)) (min 128 (n - 128 * k)) fun j => f (128 * k + j)) := by
  intro E cv hV hE hG hcv
  obtain ⟨cl⟩ := cv
  simp only [RelC, Rel] at hcv
  obtain ⟨c1, d1, rfl, ⟨b1, e1, hs1, hg1, ds1, hh1, hr1⟩, c2, d2, rfl, ⟨b2, e2, hs2, hg2, ds2, hh2, hr2⟩, rfl⟩ := hcv
  simp only [List.cons.injEq, and_true] at e1 e2
  subst e1; subst e2
  obtain ⟨a, cap, rfl, hle, hnn, hnone, hel⟩ := hr1
  subst hr2
  cases a with
  | none => have := (hnone rfl).1; omega
  | some ad =>
    obtain ⟨hsp, hgd, hds⟩ := hel ad rfl
    have hsp := hsp (by omega)
    have hc1 : E.w.cell? ⟨b1.block, b1.off, none⟩ = some (.slice (some ad) n cap) := hh1 0 _ rfl
    have hc2 : E.w.cell? ⟨b2.block, b2.off, none⟩ = some (.int .i64 128) := hh2 0 _ rfl
    obtain ⟨ab, ao, asp⟩ := ad
    obtain ⟨bb1, bo1, bs1⟩ := b1
    obtain ⟨bb2, bo2, bs2⟩ := b2
    dsimp only at hsp hs1 hs2 hg1 hg2 hgd hc1 hc2
    subst hsp; subst hs1; subst hs2
    refine ⟨fun k => if 128 * k < n then .slice (some ⟨ab, ao + 128 * k, none⟩) (min 128 (n - 128 * k)) (min 128 (n - 128 * k)) else .slice none 0 0, fun k => ?_, fun m Kp hm hKp l J Jx W hW hJ hJx hY h0 => ?_⟩
    · simp only [RelV, Rel]
      by_cases hk : 128 * k < n
      · rw [if_pos hk]
        refine ⟨_, _, rfl, Nat.le_refl _, by simp; omega, (fun h => by cases h), fun bb hb => ?_⟩
        cases hb
        refine ⟨fun _ => rfl, fun _ => hgd (by omega), fun j hj => ?_⟩
        obtain ⟨ds, h3, h4, h5⟩ := hds (128 * k + j) (by omega)
        refine ⟨ds, h3, fun q v hq => ?_, h5⟩
        have := h4 q v hq
        simp only at this ⊢
        rw [show ao + 128 * k + (j * 1 + q) = ao + ((128 * k + j) * 1 + q) by omega]
        exact this
      · rw [if_neg hk, show min 128 (n - 128 * k) = 0 by omega]
        exact ⟨none, 0, rfl, Nat.le_refl _, by simp; omega, fun _ => ⟨rfl, rfl⟩, fun bb hb => by cases hb⟩
    · have hb1 : bb1 < E.w.heap.size := hG _ hg1
      have hb2 : bb2 < E.w.heap.size := hG _ hg2
      refine (chunk_in Fence.wide m trivial rfl hm l bb1 bo1 bb2 bo2 ab ao n cap hle h2 Kp J Jx (fun pre W hJW => hJ pre W W.drew none hJW ⟨rfl, rfl, rfl, Nat.le_refl _, fun _ _ _ => rfl⟩ (fun r h => by cases h))
        (fun A B hAB v hv => hKp A B hAB _ hg1 _ _ hv) (fun A B hAB v hv => hKp A B hAB _ hg2 _ _ hv) hY W ((hW.cell (p := ⟨bb1, bo1, none⟩) hb1).trans hc1) ((hW.cell (p := ⟨bb2, bo2, none⟩) hb2).trans hc2) h0)
section
variable {ea : Nat → Addr} {cds : List Nat} {gl : Nat → Option AV}
theorem c40 (p : Int) (x : Xid) (st : Int) (b : Bool) (im : List UInt8) (hG2 : gl 2 = some (.err (.code 12))) (hG6 : gl 6 = some (.err (.code 11))) :
    APure (V ea cds gl) 40 [.int .i64 p, xidAV x, .int .i64 st, .sl 1 b im.length (bAt im)] true
      (.tup [.sl 10 (decide ((Sp.cut p x st im).1 = [])) (Sp.cut p x st im).1.length (fun j => noteAV ((Sp.cut p x st im).1.getD j Sp.zero)), .err (errD (Sp.cut p x st im).2)]) := by
  refine acalls_of_body (N := 59) Tryd.func40 rfl rfl (Nat.le_of_ble_eq_true rfl) fun C hV hN hM hO => ?_
  obtain ⟨_, _, w0, G0, σ0, _, own0⟩ := C; dsimp only at hV hN hM hO; subst hV; subst hN; subst hM
  refine awp_seq ?_
  refine awp_region rfl ?_
  refine sR (opr_box (y := .int _ _) (n := 4) rfl rfl rfl) rfl rfl rfl ?_
  refine sR (opr_box (y := .agg _) (n := 5) rfl rfl rfl) rfl rfl rfl ?_
  refine sR (opr_box (y := .int _ _) (n := 6) rfl rfl rfl) rfl rfl rfl ?_
  first
    | refine sP (opp_as (v := .sl _ _ _ _) rfl rfl) rfl rfl ?_
    | refine sP (opp_as (v := .osl _ _ _ _ _) rfl rfl) rfl rfl ?_
  refine sP (opp_as (v := .err _) rfl rfl) rfl rfl ?_
  refine awp_seq ?_
  refine awp_seq ?_
  refine awp_region rfl ?_
  first
    | refine sP (opp_loadP rfl rfl rfl rfl bi rfl ty3) rfl rfl ?_
    | refine sP (opp_loadF rfl rfl ty3) rfl rfl ?_
  refine sR (opr_call rfl rfl ent87 rfl (c87 _) (AViews.refl _ rfl)) rfl rfl rfl ?_ -- d=14 t=4
  refine sP (opp_not rfl rfl) rfl rfl ?_
  refine sP (opp_mv (v := .bool _) rfl rfl) rfl rfl ?_
  first
    | refine sG _ rfl rfl rfl rfl (fun hg => (And.intro gi (True.intro))) (fun hg => opp_loadP rfl rfl rfl rfl bi rfl ty23) ?_
    | refine sG _ rfl rfl rfl rfl (fun hg => (And.intro gi (True.intro))) (fun hg => opp_loadF rfl rfl ty23) ?_
  refine sGR _ rfl rfl rfl rfl (fun hg => (And.intro gi (And.intro gi (True.intro)))) (fun hg => (opr_call rfl rfl ent88 rfl (c88 _) (AViews.refl _ rfl))) ?_
  refine sG _ rfl rfl rfl rfl (fun hg => (And.intro gi (True.intro))) (fun hg => opp_not rfl rfl) ?_
  refine sPick rfl rfl rfl rfl (by exact True.intro) rfl rfl (fun hg => gi) (fun hg => gi) ?_
  refine sP (opp_mv (v := .bool _) rfl rfl) rfl rfl ?_
  first
    | refine sG _ rfl rfl rfl rfl (fun hg => (And.intro gi (True.intro))) (fun hg => opp_loadP rfl rfl rfl rfl bi rfl ty3) ?_
    | refine sG _ rfl rfl rfl rfl (fun hg => (And.intro gi (True.intro))) (fun hg => opp_loadF rfl rfl ty3) ?_
  refine sGR _ rfl rfl rfl rfl (fun hg => (And.intro gi (And.intro gi (True.intro)))) (fun hg => (opr_call rfl rfl ent89 rfl (c89 _) (AViews.refl _ rfl))) ?_
  refine sG _ rfl rfl rfl rfl (fun hg => (And.intro gi (True.intro))) (fun hg => opp_not rfl rfl) ?_
  refine sPick rfl rfl rfl rfl (by exact True.intro) rfl rfl (fun hg => gi) (fun hg => gi) ?_
  refine awp_cond _ rfl (fun hc3 => ?_) (fun hc3 => ?_)
  · (try simp only [cmpI, errD_nil, Bool.not_eq_true', Bool.not_eq_false', decide_eq_true_eq, decide_eq_false_iff_not] at hc3); have ht25 := hc3
    refine awp_seq ?_
    refine awp_draw hmix rfl (by kernel_rfl) ?_
    refine dP (fun _ => false) (opp_loadF rfl (ev_glob hG2) ty29) rfl rfl ?_
    first
      | refine dP (fun _ => false) (opp_as (v := .sl _ _ _ _) rfl rfl) rfl rfl ?_
      | refine dP (fun _ => false) (opp_as (v := .osl _ _ _ _ _) rfl rfl) rfl rfl ?_
    refine dP (fun _ => false) (opp_as (v := .err _) rfl rfl) rfl rfl ?_
    refine And.intro (by kernel_rfl) ?_
    refine awp_ret ?_
    repeat (first | refine athen_ret ?_ | refine ain_ret ?_)
    first
      | refine apost_ret (aend (l := [.sl _ _ _ _, .err _]) (.tmp (.tmp .nil)) (fun h => by cases h) (.cons (.noN rfl rfl) (.cons (.noN rfl rfl) .nil)) ⟨Wk.v ?_, rfl, rfl⟩)
      | refine apost_ret (aends (l := [.sl _ _ _ _, .err _]) (.tmp (.tmp .nil)) (fun h => by cases h) (.cons shut (fun h => by cases h) (.cons shut (fun h => by cases h) .nil)) rfl ⟨Wk.v ?_, rfl, rfl⟩)
      | refine apost_ret (aend (l := [.osl _ _ _ _ _, .err _]) (.tmp (.tmp .nil)) (fun h => by cases h) (.cons (.noN rfl rfl) (.cons (.noN rfl rfl) .nil)) ⟨Wk.v ?_, rfl, rfl⟩)
      | refine apost_ret (aends (l := [.osl _ _ _ _ _, .err _]) (.tmp (.tmp .nil)) (fun h => by cases h) (.cons shut (fun h => by cases h) (.cons shut (fun h => by cases h) .nil)) rfl ⟨Wk.v ?_, rfl, rfl⟩)
    have h : (Sp.goodPart p && Sp.goodXid x && Sp.goodStage st) = false := by
      cases h1 : Sp.goodPart p <;> cases h2 : Sp.goodXid x <;> cases h3 : Sp.goodStage st <;> simp [h1, h2, h3] at hc3 ⊢
    rw [show Sp.cut p x st im = ([], 12) by simp only [Sp.cut, h, if_true]]; show Wk _ (.tup [.sl 10 true 0 _, .err (.code 12)]); (repeat' (first | exact Wk.refl | exact Wk.sl0 | apply Wk.tup | apply Wk.agg | apply WkL.cons | exact WkL.nil | refine Wk.sl (fun _ _ => ?_)))
  · (try simp only [cmpI, errD_nil, Bool.not_eq_true', Bool.not_eq_false', decide_eq_true_eq, decide_eq_false_iff_not] at hc3); have ht25 := hc3
    refine awp_skip ?_
    refine awp_seq ?_
    refine awp_seq ?_
    refine awp_region rfl ?_
    first
      | refine sP (opp_mv (v := .sl _ _ _ _) rfl rfl) rfl rfl ?_
      | refine sP (opp_mv (v := .osl _ _ _ _ _) rfl rfl) rfl rfl ?_
    first
      | refine sP (opp_lenSl rfl rfl un36) rfl rfl ?_
      | refine sP (opp_lenOsl rfl rfl un36) rfl rfl ?_
    refine sR (opr_call rfl rfl ent90 rfl (c90 _ _ _) (AViews.refl _ rfl)) rfl rfl rfl ?_ -- d=29 t=4
    refine sP (opp_not rfl rfl) rfl rfl ?_
    refine awp_cond _ rfl (fun hc6 => ?_) (fun hc6 => ?_)
    · (try simp only [cmpI, errD_nil, Bool.not_eq_true', Bool.not_eq_false', decide_eq_true_eq, decide_eq_false_iff_not] at hc6); have ht30 := hc6
      refine awp_seq ?_
      refine awp_draw hmix rfl (by kernel_rfl) ?_
      refine dP (fun _ => false) (opp_loadF rfl (ev_glob hG6) ty29) rfl rfl ?_
      first
        | refine dP (fun _ => false) (opp_as (v := .sl _ _ _ _) rfl rfl) rfl rfl ?_
        | refine dP (fun _ => false) (opp_as (v := .osl _ _ _ _ _) rfl rfl) rfl rfl ?_
      refine dP (fun _ => false) (opp_as (v := .err _) rfl rfl) rfl rfl ?_
      refine And.intro (by kernel_rfl) ?_
      refine awp_ret ?_
      repeat (first | refine athen_ret ?_ | refine ain_ret ?_)
      first
        | refine apost_ret (aend (l := [.sl _ _ _ _, .err _]) (.tmp (.tmp .nil)) (fun h => by cases h) (.cons (.noN rfl rfl) (.cons (.noN rfl rfl) .nil)) ⟨Wk.v ?_, rfl, rfl⟩)
        | refine apost_ret (aends (l := [.sl _ _ _ _, .err _]) (.tmp (.tmp .nil)) (fun h => by cases h) (.cons shut (fun h => by cases h) (.cons shut (fun h => by cases h) .nil)) rfl ⟨Wk.v ?_, rfl, rfl⟩)
        | refine apost_ret (aend (l := [.osl _ _ _ _ _, .err _]) (.tmp (.tmp .nil)) (fun h => by cases h) (.cons (.noN rfl rfl) (.cons (.noN rfl rfl) .nil)) ⟨Wk.v ?_, rfl, rfl⟩)
        | refine apost_ret (aends (l := [.osl _ _ _ _ _, .err _]) (.tmp (.tmp .nil)) (fun h => by cases h) (.cons shut (fun h => by cases h) (.cons shut (fun h => by cases h) .nil)) rfl ⟨Wk.v ?_, rfl, rfl⟩)
      have hgd : (Sp.goodPart p && Sp.goodXid x && Sp.goodStage st) = true := by
        cases h1 : Sp.goodPart p <;> cases h2 : Sp.goodXid x <;> cases h3 : Sp.goodStage st <;> simp [h1, h2, h3] at hc3 ⊢
      rw [show Sp.cut p x st im = ([], 11) by simp [Sp.cut, hgd, hc6]]; show Wk _ (.tup [.sl 10 true 0 _, .err (.code 11)]); (repeat' (first | exact Wk.refl | exact Wk.sl0 | apply Wk.tup | apply Wk.agg | apply WkL.cons | exact WkL.nil | refine Wk.sl (fun _ _ => ?_)))
    · (try simp only [cmpI, errD_nil, Bool.not_eq_true', Bool.not_eq_false', decide_eq_true_eq, decide_eq_false_iff_not] at hc6); have ht30 := hc6
      refine awp_skip ?_
      refine awp_seq ?_
      have hsz : 1 ≤ im.length ∧ im.length ≤ 4096 := by
        have : Sp.within im.length 1 4096 = true := by simpa using hc6
        simp only [Sp.within, decide_eq_true_eq] at this; omega
      have htot : Sp.total im ≤ 32 := by unfold Sp.total; omega
      have htot1 : 1 ≤ Sp.total im := by unfold Sp.total; omega
      have hgd : (Sp.goodPart p && Sp.goodXid x && Sp.goodStage st) = true := by
        cases h1 : Sp.goodPart p <;> cases h2 : Sp.goodXid x <;> cases h3 : Sp.goodStage st <;> simp [h1, h2, h3] at hc3 ⊢
      refine awp_region rfl ?_
      refine sR (opr_alloc (n := 10) rfl z48) rfl rfl rfl ?_
      refine awp_seq ?_
      refine awp_seq ?_
      refine awp_region rfl ?_
      first
        | refine sP (opp_mv (v := .sl _ _ _ _) rfl rfl) rfl rfl ?_
        | refine sP (opp_mv (v := .osl _ _ _ _ _) rfl rfl) rfl rfl ?_
      refine sR (opr_call rfl rfl ent91 rfl (c91 _ _ _ _ (by first | omega | (simp_all; done))) (AViews.refl _ rfl)) rfl rfl rfl ?_ -- d=33 t=160
      refine awp_block ?_
      refine awp_rangeFunc (x := fun k => .sl 1 (decide (im.length ≤ 128 * k)) (min 128 (im.length - 128 * k)) (fun j => bAt im (128 * k + j))) (total := Sp.total im) rfl ent124 (chunk_seq b im.length (bAt im) (by omega) (by omega)) rfl rfl rfl (Nat.le_of_ble_eq_true rfl) (Nat.le_of_ble_eq_true rfl) (by kernel_rfl) (fun pre => [(10, cond pre.isEmpty (some (.sl 10 true 0 (fun _ => .top))) (some (.osl 1044 10 0 pre.length pre.length))), (1044, cond pre.isEmpty none (some (.arr 10 pre.length (fun j => noteAV (Sp.cutNote p x st im (pre.getD j 0) j 0)))))]) [1044] (by
        refine imp_over (L := []) [] rfl rfl (by kernel_rfl) True.intro ?_
        refine And.intro (And.intro rfl (And.intro rfl (Exists.intro _ (And.intro rfl wkc)))) ?_
        exact True.intro
        ) (fun C' hV' hN' hM' l m pre k hlen => ?_) ?_
      obtain ⟨_, _, w0', G0', σ0', _, own0'⟩ := C'; dsimp only at hV' hN' hM'; subst hV'; subst hN'; subst hM'; rcases pre with _ | ⟨p0, rest⟩
      · skip
        refine awpr_block ?_
        refine awpr_region rfl rfl ?_
        first
          | refine sP (opp_loadP rfl rfl rfl rfl bi rfl ty48) rfl rfl ?_
          | refine sP (opp_loadF rfl rfl ty48) rfl rfl ?_
        first
          | refine sP (opp_loadP rfl rfl rfl rfl bi rfl ty3) rfl rfl ?_
          | refine sP (opp_loadF rfl rfl ty3) rfl rfl ?_
        first
          | refine sP (opp_loadP rfl rfl rfl rfl bi rfl ty23) rfl rfl ?_
          | refine sP (opp_loadF rfl rfl ty23) rfl rfl ?_
        first
          | refine sP (opp_loadP rfl rfl rfl rfl bi rfl ty3) rfl rfl ?_
          | refine sP (opp_loadF rfl rfl ty3) rfl rfl ?_
        first
          | refine sP (opp_loadP rfl rfl rfl rfl bi rfl ty48) rfl rfl ?_
          | refine sP (opp_loadF rfl rfl ty48) rfl rfl ?_
        first
          | refine sP (opp_lenSl rfl rfl un48) rfl rfl ?_
          | refine sP (opp_lenOsl rfl rfl un48) rfl rfl ?_
        first
          | refine sP (opp_mv (v := .sl _ _ _ _) rfl rfl) rfl rfl ?_
          | refine sP (opp_mv (v := .osl _ _ _ _ _) rfl rfl) rfl rfl ?_
        refine sP (opp_bytesStr rfl rfl (Sp.pieceOf im k) (Sp.pieceOf_length im k) (fun j hj => by rw [Sp.pieceOf_get im k j hj]; rfl) un36 unu8 un9) rfl rfl ?_
        refine sP (opp_build rfl z26 bld26 rfl [.int _ _, .int _ _, .agg _, .int _ _, .int _ _, .int .i64 0, .int .u32 0, .str _] rfl) rfl rfl ?_
        refine sR (opr_buildSlice (n := 44) (g := fun j => if j = 0 then .agg _ else .agg [.int .i64 0, .int .i64 0, .agg [.int .i64 0, .int .i64 0, .int .i64 0], .int .i64 0, .int .i64 0, .int .i64 0, .int .u32 0, .str []]) rfl eb48 z26 (by decide) rfl rfl) rfl rfl rfl ?_
        first
          | refine sR (opr_append (d := 45) rfl rfl rfl (by omega) (.osl0 rfl (by omega)) eb48 z26 (by omega) (by omega)) rfl rfl rfl ?_
          | refine sR (opr_append (d := 45) rfl rfl rfl (by omega) .sl eb48 z26 (by omega) (by omega)) rfl rfl rfl ?_
          | refine sR (opr_append (d := 45) rfl rfl rfl (by omega) (.osl rfl (by omega) (fun _ _ => rfl)) eb48 z26 (by omega) (by omega)) rfl rfl rfl ?_
          | refine sR (opr_appendNil (d := 45) rfl rfl (.osl0 rfl (by omega)) eb48 z26 (by omega) (by omega) (by omega)) rfl rfl rfl ?_
          | refine sR (opr_appendNil (d := 45) rfl rfl .sl eb48 z26 (by omega) (by omega) (by omega)) rfl rfl rfl ?_
          | refine sR (opr_appendNil (d := 45) rfl rfl (.osl rfl (by omega) (fun _ _ => rfl)) eb48 z26 (by omega) (by omega) (by omega)) rfl rfl rfl ?_
        first
          | refine sR0 (opr_store (v := .sl _ _ _ _) (trn := (.sl _ _ _ _)) rfl rfl rfl rfl bi rfl rfl rfl rfl fr2 ty48 (fun _ _ h => h)) rfl rfl rfl ?_
          | refine sR0 (opr_store (v := .osl _ _ _ _ _) (trn := (.osl _ _ _ _ _)) rfl rfl rfl rfl bi rfl rfl rfl rfl fr2 ty48 (fun _ _ h => h)) rfl rfl rfl ?_
        refine And.intro rfl (Exists.intro [] (imp_overH [(1044, 45)] rfl (by kernel_rfl) ?_))
        refine And.intro (And.intro rfl (And.intro rfl (Exists.intro _ (And.intro rfl wkc)))) ?_
        refine And.intro (And.intro rfl (And.intro rfl (Exists.intro _ (And.intro rfl (by exact WkC.arr (fun j hj => by have h0 : j = 0 := (by simpa using hj); subst h0; rfl)))))) ?_
        exact True.intro
      · skip
        refine awpr_block ?_
        refine awpr_region rfl rfl ?_
        first
          | refine sP (opp_loadP rfl rfl rfl rfl bi rfl ty48) rfl rfl ?_
          | refine sP (opp_loadF rfl rfl ty48) rfl rfl ?_
        first
          | refine sP (opp_loadP rfl rfl rfl rfl bi rfl ty3) rfl rfl ?_
          | refine sP (opp_loadF rfl rfl ty3) rfl rfl ?_
        first
          | refine sP (opp_loadP rfl rfl rfl rfl bi rfl ty23) rfl rfl ?_
          | refine sP (opp_loadF rfl rfl ty23) rfl rfl ?_
        first
          | refine sP (opp_loadP rfl rfl rfl rfl bi rfl ty3) rfl rfl ?_
          | refine sP (opp_loadF rfl rfl ty3) rfl rfl ?_
        first
          | refine sP (opp_loadP rfl rfl rfl rfl bi rfl ty48) rfl rfl ?_
          | refine sP (opp_loadF rfl rfl ty48) rfl rfl ?_
        first
          | refine sP (opp_lenSl rfl rfl un48) rfl rfl ?_
          | refine sP (opp_lenOsl rfl rfl un48) rfl rfl ?_
        first
          | refine sP (opp_mv (v := .sl _ _ _ _) rfl rfl) rfl rfl ?_
          | refine sP (opp_mv (v := .osl _ _ _ _ _) rfl rfl) rfl rfl ?_
        refine sP (opp_bytesStr rfl rfl (Sp.pieceOf im k) (Sp.pieceOf_length im k) (fun j hj => by rw [Sp.pieceOf_get im k j hj]; rfl) un36 unu8 un9) rfl rfl ?_
        refine sP (opp_build rfl z26 bld26 rfl [.int _ _, .int _ _, .agg _, .int _ _, .int _ _, .int .i64 0, .int .u32 0, .str _] rfl) rfl rfl ?_
        refine sR (opr_buildSlice (n := 44) (g := fun j => if j = 0 then .agg _ else .agg [.int .i64 0, .int .i64 0, .agg [.int .i64 0, .int .i64 0, .int .i64 0], .int .i64 0, .int .i64 0, .int .i64 0, .int .u32 0, .str []]) rfl eb48 z26 (by decide) rfl rfl) rfl rfl rfl ?_
        first
          | refine sR (opr_append (d := 45) rfl rfl rfl (by omega) (.osl0 rfl (by omega)) eb48 z26 (by omega) (by omega)) rfl rfl rfl ?_
          | refine sR (opr_append (d := 45) rfl rfl rfl (by omega) .sl eb48 z26 (by omega) (by omega)) rfl rfl rfl ?_
          | refine sR (opr_append (d := 45) rfl rfl rfl (by omega) (.osl rfl (by omega) (fun _ _ => rfl)) eb48 z26 (by omega) (by omega)) rfl rfl rfl ?_
          | refine sR (opr_appendNil (d := 45) rfl rfl (.osl0 rfl (by omega)) eb48 z26 (by omega) (by omega) (by omega)) rfl rfl rfl ?_
          | refine sR (opr_appendNil (d := 45) rfl rfl .sl eb48 z26 (by omega) (by omega) (by omega)) rfl rfl rfl ?_
          | refine sR (opr_appendNil (d := 45) rfl rfl (.osl rfl (by omega) (fun _ _ => rfl)) eb48 z26 (by omega) (by omega) (by omega)) rfl rfl rfl ?_
        first
          | refine sR0 (opr_store (v := .sl _ _ _ _) (trn := (.sl _ _ _ _)) rfl rfl rfl rfl bi rfl rfl rfl rfl fr2 ty48 (fun _ _ h => h)) rfl rfl rfl ?_
          | refine sR0 (opr_store (v := .osl _ _ _ _ _) (trn := (.osl _ _ _ _ _)) rfl rfl rfl rfl bi rfl rfl rfl rfl fr2 ty48 (fun _ _ h => h)) rfl rfl rfl ?_
        refine And.intro rfl (Exists.intro [] (imp_overH [(1044, 45)] rfl (by kernel_rfl) ?_))
        refine And.intro (And.intro rfl (And.intro rfl (Exists.intro _ (And.intro rfl (by exact WkC.of (by show AV.osl 45 10 0 _ _ = AV.osl 45 10 0 _ _; simp)))))) ?_
        refine And.intro (And.intro rfl (And.intro rfl (Exists.intro _ (And.intro rfl (by show WkC (AV.arr 10 _ _) (AV.arr 10 _ _); rw [List.length_append]; exact WkC.arr (fun j hj => Sp.cut_append p x st im (p0 :: rest) k j _ rfl _ hj)))))) ?_
        exact True.intro
      · obtain ⟨p0, rest, hr⟩ : ∃ p0 rest, List.range (Sp.total im) = p0 :: rest := by
          cases h : List.range (Sp.total im) with
          | nil => have := congrArg List.length h; simp at this; omega
          | cons p0 rest => exact ⟨p0, rest, rfl⟩
        have hlen : (p0 :: rest).length = Sp.total im := by rw [← hr]; simp
        rw [hr]
        refine awp_seq ?_
        refine awp_seq ?_
        refine awp_region rfl ?_
        first
          | refine sP (opp_loadP rfl rfl rfl rfl bi rfl ty48) rfl rfl ?_
          | refine sP (opp_loadF rfl rfl ty48) rfl rfl ?_
        first
          | refine sP (opp_lenSl rfl rfl un48) rfl rfl ?_
          | refine sP (opp_lenOsl rfl rfl un48) rfl rfl ?_
        refine sP (opp_mv (v := .int _ _) rfl rfl) rfl rfl ?_
        refine awp_block ?_
        refine awp_loopK (ι := Nat) (fun i => i ≤ (p0 :: rest).length) (fun i => [(12, .top), (48, .int .i64 i), (49, .top), (50, .top), (51, .top), (52, .top), (53, .top), (54, .top), (55, .top), (56, .top), (57, .top)]) (fun i => [(1044, some (.arr 10 (p0 :: rest).length (fun j => noteAV (Sp.cutNote p x st im j j (if j < i then Sp.total im else 0)))))]) [] (fun i => (p0 :: rest).length - i) (0) (Nat.zero_le _) (by
          refine imp_over [] rfl rfl (by kernel_rfl) ?_ ?_
          · refine And.intro wkv ?_
            refine And.intro wkv ?_
            refine And.intro wkv ?_
            refine And.intro wkv ?_
            refine And.intro wkv ?_
            refine And.intro wkv ?_
            refine And.intro wkv ?_
            refine And.intro wkv ?_
            refine And.intro wkv ?_
            refine And.intro wkv ?_
            refine And.intro wkv ?_
            exact True.intro
          · refine And.intro (And.intro rfl (And.intro rfl (Exists.intro _ (And.intro rfl (by exact WkC.arr (fun j hj => by rw [← hr, Sp.range_get _ _ (by rw [← hlen]; exact hj)]; simp)))))) ?_
            exact True.intro
          ) ?_
        intro i hi1
        refine awp_seq ?_
        refine awp_region rfl ?_
        refine sP (opp_cmp rfl rfl rfl rfl) rfl rfl ?_
        refine awp_seq ?_
        refine awp_cond _ rfl (fun hc14 => ?_) (fun hc14 => ?_)
        · (try simp only [cmpI, errD_nil, Bool.not_eq_true', Bool.not_eq_false', decide_eq_true_eq, decide_eq_false_iff_not] at hc14); have ht49 := hc14
          refine awp_skip ?_
          refine awp_seq ?_
          refine awp_block ?_
          refine awp_seq ?_
          refine awp_region rfl ?_
          refine sP (opp_mv (v := .int _ _) rfl rfl) rfl rfl ?_
          refine sP (opp_as (v := .int _ _) rfl rfl) rfl rfl ?_
          refine awp_region rfl ?_
          first
            | refine sP (opp_loadP rfl rfl rfl rfl bi rfl ty48) rfl rfl ?_
            | refine sP (opp_loadF rfl rfl ty48) rfl rfl ?_
          refine sP (opp_mv (v := .int _ _) rfl rfl) rfl rfl ?_
          first
            | refine sP (opp_loadP rfl rfl rfl rfl bi rfl ty48) rfl rfl ?_
            | refine sP (opp_loadF rfl rfl ty48) rfl rfl ?_
          first
            | refine sP (opp_lenSl rfl rfl un48) rfl rfl ?_
            | refine sP (opp_lenOsl rfl rfl un48) rfl rfl ?_
          first
            | refine sP (opp_indexSl rfl rfl rfl el48 (by omega) (by omega)) rfl rfl ?_
            | refine sP (opp_indexOsl0 rfl rfl rfl el48 (by omega) (by omega)) rfl rfl ?_
            | refine sP (opp_indexOsl rfl rfl rfl el48 (by omega) (by omega)) rfl rfl ?_
          first
            | refine sP (opp_fieldP rfl rfl fld26_5 rfl) rfl rfl ?_
            | refine sP (opp_fieldF rfl rfl rfl fld26_5 rfl rfl) rfl rfl ?_
          first
            | refine sR0 (opr_storeA (v := .int _ _) rfl rfl rfl (by omega) (by first | rfl | omega) rfl rfl rfl rfl ty3) rfl rfl rfl ?_
            | refine sR0 (opr_storeAF (v := .int _ _) (w := .agg [_, _, _, _, _, .int _ _, _, _]) rfl rfl rfl (by omega) rfl rfl rfl rfl rfl rfl rfl rfl ty3) rfl rfl rfl ?_
          refine awp_region rfl ?_
          first
            | refine sP (opp_arith rfl rfl rfl (.inl ⟨rfl, w64 (by omega)⟩)) rfl rfl ?_
            | refine sP (opp_arith rfl rfl rfl (.inl ⟨rfl, rfl⟩)) rfl rfl ?_
          refine sP (opp_mv (v := .int _ _) rfl rfl) rfl rfl ?_
          refine Exists.intro (i + 1) (And.intro (And.intro (by omega) (by omega)) (by
            refine imp_over [] rfl rfl (by kernel_rfl) ?_ ?_
            · refine And.intro wkv ?_
              refine And.intro wkv ?_
              refine And.intro wkv ?_
              refine And.intro wkv ?_
              refine And.intro wkv ?_
              refine And.intro wkv ?_
              refine And.intro wkv ?_
              refine And.intro wkv ?_
              refine And.intro wkv ?_
              refine And.intro wkv ?_
              refine And.intro wkv ?_
              exact True.intro
            · refine And.intro (And.intro rfl (And.intro rfl (Exists.intro _ (And.intro rfl (by exact WkC.arr (fun j hj => Sp.cut_tot p x st im j i _ _ (fun h => by subst h; rw [hlen]; simp [noteAV, Sp.cutNote]))))))) ?_
              exact True.intro
            ))
        · (try simp only [cmpI, errD_nil, Bool.not_eq_true', Bool.not_eq_false', decide_eq_true_eq, decide_eq_false_iff_not] at hc14); have ht49 := hc14
          refine awp_exit ?_
          refine awp_seq ?_
          refine awp_region rfl ?_
          first
            | refine sP (opp_loadP rfl rfl rfl rfl bi rfl ty48) rfl rfl ?_
            | refine sP (opp_loadF rfl rfl ty48) rfl rfl ?_
          first
            | refine sP (opp_as (v := .sl _ _ _ _) rfl rfl) rfl rfl ?_
            | refine sP (opp_as (v := .osl _ _ _ _ _) rfl rfl) rfl rfl ?_
          refine sP (opp_as (v := .err _) rfl rfl) rfl rfl ?_
          refine awp_ret ?_
          repeat (first | refine athen_ret ?_ | refine ain_ret ?_)
          first
            | refine apost_ret (aend (l := [.sl _ _ _ _, .err _]) (.tmp (.tmp .nil)) (fun h => by cases h) (.cons (.noN rfl rfl) (.cons (.noN rfl rfl) .nil)) ⟨Wk.v ?_, rfl, rfl⟩)
            | refine apost_ret (aends (l := [.sl _ _ _ _, .err _]) (.tmp (.tmp .nil)) (fun h => by cases h) (.cons shut (fun h => by cases h) (.cons shut (fun h => by cases h) .nil)) rfl ⟨Wk.v ?_, rfl, rfl⟩)
            | refine apost_ret (aend (l := [.osl _ _ _ _ _, .err _]) (.tmp (.tmp .nil)) (fun h => by cases h) (.cons (.noN rfl rfl) (.cons (.noN rfl rfl) .nil)) ⟨Wk.v ?_, rfl, rfl⟩)
            | refine apost_ret (aends (l := [.osl _ _ _ _ _, .err _]) (.tmp (.tmp .nil)) (fun h => by cases h) (.cons shut (fun h => by cases h) (.cons shut (fun h => by cases h) .nil)) rfl ⟨Wk.v ?_, rfl, rfl⟩)
          have hi2 : i = Sp.total im := by omega
          have hne : Sp.notes p x st im ≠ [] := fun h => by have := congrArg List.length h; rw [Sp.notes_length] at this; simp at this; omega
          rw [show Sp.cut p x st im = (Sp.notes p x st im, 0) by simp [Sp.cut, hgd, hc6], hlen]; simp only [decide_eq_false hne, Sp.notes_length]; (repeat' (first | exact Wk.refl | exact Wk.sl0 | apply Wk.tup | apply Wk.agg | apply WkL.cons | exact WkL.nil | refine Wk.sl (fun _ _ => ?_)))
          rename_i j hj; rw [Sp.notes_get _ _ _ _ _ hj, if_pos (by omega)]
end
end Go.Proofs.YtgaihhimkodmmaaDoor
/- The laws of layer 20: what they begin with (walks over this dump). -/
namespace Go.Proofs.YtgaihhimkodmmaaDoor
attribute [local irreducible] Tryd.prog
open Go.Fy
set_option linter.unusedSimpArgs false
set_option linter.unusedVariables false
section
variable {ea : Nat → Addr} {cds : List Nat} {gl : Nat → Option AV}
theorem bAt_rep (n j : Nat) : bAt (List.replicate n 0) j = .int .u8 0 := by
  simp only [bAt, List.getD_eq_getElem?_getD, List.getElem?_replicate]; split <;> rfl
theorem c17 : APure (V ea cds gl) 17 [] true (noteAV Sp.kN) := by
  refine acalls_of_body (N := 3) Tryd.func17 rfl rfl (Nat.le_of_ble_eq_true rfl) fun C hV hN hM hO => ?_
  obtain ⟨_, _, w0, G0, σ0, _, own0⟩ := C; dsimp only at hV hN hM hO; subst hV; subst hN; subst hM
  refine awp_seq ?_
  refine awp_region rfl ?_
  refine sR (opr_alloc (n := 0) rfl z26) rfl rfl rfl ?_
  refine awp_seq ?_
  refine awp_region rfl ?_
  refine sP (opp_build rfl z23 bld23 rfl [.int _ _, .int _ _, .int _ _] rfl) rfl rfl ?_
  refine sP (opp_build rfl z26 bld26 rfl [.int _ _, .int _ _, .agg _, .int .i64 0, .int .i64 0, .int .i64 0, .int .u32 0, .str []] rfl) rfl rfl ?_
  refine sR0 (opr_store (v := .agg _) (trn := (.agg _)) rfl rfl rfl rfl bi rfl rfl rfl rfl fr2 ty26 (fun _ _ h => h)) rfl rfl rfl ?_
  refine awp_ret ?_
  repeat (first | refine athen_ret ?_ | refine ain_ret ?_)
  first
    | refine apost_ret (aend1 (r0 := .agg _) (.cell rfl rfl rfl (by exact True.intro) rfl ty26 .nil) (.noN rfl rfl) ⟨Wk.v ?_, rfl, rfl⟩)
    | refine apost_ret (aend1s (r0 := .agg _) (.cell rfl rfl rfl (by exact True.intro) rfl ty26 .nil) shut rfl ⟨Wk.v ?_, rfl, rfl⟩)
  exact .refl
set_option maxRecDepth 100000 in
theorem c13 (hG0 : gl 0 = some (.err (.code 1))) (hG1 : gl 1 = some (.err (.code 5))) (hG9 : gl 9 = some (.err (.code 6)))
    (hG4 : gl 4 = some (.err (.code 7))) (hG8 : gl 8 = some (.err (.code 4))) (hG2 : gl 2 = some (.err (.code 12))) (hG6 : gl 6 = some (.err (.code 11))) :
    APure (V ea cds gl) 13 [] false (.bool true) := by
  refine acalls_of_body (N := 60) Tryd.func13 rfl rfl (Nat.le_of_ble_eq_true rfl) fun C hV hN hM hO => ?_
  obtain ⟨_, _, w0, G0, σ0, _, own0⟩ := C; dsimp only at hV hN hM hO; subst hV; subst hN; subst hM
  refine awp_seq ?_
  refine awp_region rfl ?_
  refine sP (opp_as (v := .bool _) rfl rfl) rfl rfl ?_
  refine awp_seq ?_
  refine awp_region rfl ?_
  refine sR (opr_call rfl rfl ent17 rfl (c17) (AViews.refl _ rfl)) rfl rfl rfl ?_ -- d=8 t=26
  refine sR (opr_call rfl rfl ent15 rfl (c15 Sp.kN (by decide) hG4 hG8) (AViews.refl _ rfl)) rfl rfl rfl ?_ -- d=9 t=32
  refine sP (opp_mv (v := .tup _) rfl rfl) rfl rfl ?_
  refine sP (opp_extract rfl rfl rfl) rfl rfl ?_
  refine sP (opp_extract rfl rfl rfl) rfl rfl ?_
  refine sP (opp_as (v := .str _) rfl rfl) rfl rfl ?_
  refine sP (opp_as (v := .err _) rfl rfl) rfl rfl ?_
  refine awp_seq ?_
  rw [Sp.k_put]
  refine awp_region rfl ?_
  refine sP (opp_mv (v := .str _) rfl rfl) rfl rfl ?_
  refine sR (opr_call rfl rfl ent14 rfl (c14 (Sp.crcSeal Sp.kB) (by rw [Sp.k_len]; decide) hG0 hG1 hG9 hG4 hG8) (AViews.refl _ rfl)) rfl rfl rfl ?_ -- d=14 t=30
  refine sP (opp_mv (v := .tup _) rfl rfl) rfl rfl ?_
  refine sP (opp_extract rfl rfl rfl) rfl rfl ?_
  refine sP (opp_extract rfl rfl rfl) rfl rfl ?_
  refine sR (opr_alloc (n := 3) rfl z26) rfl rfl rfl ?_
  refine sR0 (opr_store (v := .agg _) (trn := (.agg _)) rfl rfl rfl rfl bi rfl rfl rfl rfl fr2 ty26 (fun _ _ h => h)) rfl rfl rfl ?_
  refine sP (opp_as (v := .err _) rfl rfl) rfl rfl ?_
  refine awp_seq ?_
  rw [Sp.k_get]
  refine awp_draw hmix rfl (by kernel_rfl) ?_
  refine dR (fun _ => false) (opr_call rfl rfl ent17 rfl (c17) (AViews.refl _ rfl)) rfl rfl rfl ?_ -- d=18 t=26
  refine dP (fun _ => false) (opp_field rfl rfl rfl fld26_2 rfl) rfl rfl ?_
  refine dR (fun _ => false) (opr_make (n := 20) rfl rfl rfl eb36 z5 (by omega) (by omega) (by omega) (by omega)) rfl rfl rfl ?_
  refine dR (fun n => !([] : List Nat).contains n) (opr_call rfl rfl ent40 rfl (c40 2 ⟨1, 3, 2⟩ 1 false (List.replicate 300 0) hG2 hG6) (.cons (aview_noN rfl) (.cons (aview_noN rfl) (.cons (aview_noN rfl) (.cons (aview_osl rfl (fun j h => by cases h) (by decide) _ (fun j hj => bAt_rep 300 j)) .nil))))) rfl rfl rfl ?_ -- d=21 t=49
  refine dP (fun _ => false) (opp_mv (v := .tup _) rfl rfl) rfl rfl ?_
  refine dP (fun _ => false) (opp_extract rfl rfl rfl) rfl rfl ?_
  refine dP (fun _ => false) (opp_extract rfl rfl rfl) rfl rfl ?_
  first
    | refine dP (fun _ => false) (opp_as (v := .sl _ _ _ _) rfl rfl) rfl rfl ?_
    | refine dP (fun _ => false) (opp_as (v := .osl _ _ _ _ _) rfl rfl) rfl rfl ?_
  refine dP (fun _ => false) (opp_as (v := .err _) rfl rfl) rfl rfl ?_
  refine And.intro (by kernel_rfl) ?_
  refine awp_seq ?_
  refine awp_seq ?_
  rw [Sp.k_cut]
  refine awp_draw hmix rfl (by kernel_rfl) ?_
  refine dP (fun _ => false) (opp_mv (v := .err _) rfl rfl) rfl rfl ?_
  refine dP (fun _ => false) (opp_errNil rfl rfl rfl un29 (.inr ⟨rfl, rfl⟩)) rfl rfl ?_
  refine dP (fun _ => false) (opp_mv (v := .bool _) rfl rfl) rfl rfl ?_
  refine dG _ (fun _ => false) rfl rfl rfl rfl (fun hg => (And.intro gi (True.intro))) (fun hg => opp_mv (v := .err _) rfl rfl) ?_
  refine dG _ (fun _ => false) rfl rfl rfl rfl (fun hg => (And.intro gi (And.intro gi (True.intro)))) (fun hg => opp_errNil rfl rfl rfl un29 (.inr ⟨rfl, rfl⟩)) ?_
  refine dPick (fun _ => false) rfl rfl rfl rfl (by exact True.intro) rfl rfl (fun hg => gi) (fun hg => gi) ?_
  refine dP (fun _ => false) (opp_mv (v := .bool _) rfl rfl) rfl rfl ?_
  refine dG _ (fun _ => false) rfl rfl rfl rfl (fun hg => (And.intro gi (True.intro))) (fun hg => opp_mv (v := .err _) rfl rfl) ?_
  refine dG _ (fun _ => false) rfl rfl rfl rfl (fun hg => (And.intro gi (And.intro gi (True.intro)))) (fun hg => opp_errNil rfl rfl rfl un29 (.inr ⟨rfl, rfl⟩)) ?_
  refine dPick (fun _ => false) rfl rfl rfl rfl (by exact True.intro) rfl rfl (fun hg => gi) (fun hg => gi) ?_
  refine dP (fun _ => false) (opp_mv (v := .bool _) rfl rfl) rfl rfl ?_
  first
    | refine dG _ (fun n => Nat.beq n 3) rfl rfl rfl rfl (fun hg => (And.intro gi (True.intro))) (fun hg => opp_loadP rfl rfl rfl rfl bi rfl ty26) ?_
    | refine dG _ (fun n => Nat.beq n 3) rfl rfl rfl rfl (fun hg => (And.intro gi (True.intro))) (fun hg => opp_loadF rfl rfl ty26) ?_
  refine dGR _ (fun n => !([] : List Nat).contains n) rfl rfl rfl rfl (fun hg => (And.intro gi (True.intro))) (fun hg => (opr_call rfl rfl ent17 rfl (c17) (AViews.refl _ rfl))) ?_
  refine dG _ (fun _ => false) rfl rfl rfl rfl (fun hg => (And.intro gi (And.intro gi (True.intro)))) (fun hg => opp_eqAgg rfl rfl rfl (eq26 ..) eg26 rfl (.inr ⟨rfl, rfl⟩)) ?_
  refine dPick (fun _ => false) rfl rfl rfl rfl (by exact True.intro) rfl rfl (fun hg => gi) (fun hg => gi) ?_
  refine dP (fun _ => false) (opp_mv (v := .bool _) rfl rfl) rfl rfl ?_
  first
    | refine dG _ (fun _ => false) rfl rfl rfl rfl (fun hg => (And.intro gi (True.intro))) (fun hg => opp_mv (v := .sl _ _ _ _) rfl rfl) ?_
    | refine dG _ (fun _ => false) rfl rfl rfl rfl (fun hg => (And.intro gi (True.intro))) (fun hg => opp_mv (v := .osl _ _ _ _ _) rfl rfl) ?_
  first
    | refine dG _ (fun n => !([] : List Nat).contains n) rfl rfl rfl rfl (fun hg => (And.intro gi (True.intro))) (fun hg => opp_lenSl rfl rfl un48) ?_
    | refine dG _ (fun n => !([] : List Nat).contains n) rfl rfl rfl rfl (fun hg => (And.intro gi (True.intro))) (fun hg => opp_lenOsl rfl rfl un48) ?_
  refine dG _ (fun _ => false) rfl rfl rfl rfl (fun hg => (And.intro gi (And.intro gi (True.intro)))) (fun hg => opp_cmp rfl rfl rfl rfl) ?_
  refine dPick (fun _ => false) rfl rfl rfl rfl (by exact True.intro) rfl rfl (fun hg => gi) (fun hg => gi) ?_
  refine dP (fun _ => false) (opp_mv (v := .bool _) rfl rfl) rfl rfl ?_
  first
    | refine dG _ (fun _ => false) rfl rfl rfl rfl (fun hg => (And.intro gi (True.intro))) (fun hg => opp_mv (v := .sl _ _ _ _) rfl rfl) ?_
    | refine dG _ (fun _ => false) rfl rfl rfl rfl (fun hg => (And.intro gi (True.intro))) (fun hg => opp_mv (v := .osl _ _ _ _ _) rfl rfl) ?_
  refine dG _ (fun _ => false) rfl rfl rfl rfl (fun hg => (And.intro gi (And.intro gi (True.intro)))) (fun hg => opp_indexSl rfl rfl rfl el48 (by decide) (by decide)) ?_
  first
    | refine dG _ (fun _ => false) rfl rfl rfl rfl (fun hg => (And.intro gi (True.intro))) (fun hg => opp_fieldP rfl rfl fld26_7 rfl) ?_
    | refine dG _ (fun _ => false) rfl rfl rfl rfl (fun hg => (And.intro gi (True.intro))) (fun hg => opp_fieldF rfl rfl rfl fld26_7 rfl rfl) ?_
  first
    | refine dG _ (fun n => !([] : List Nat).contains n) rfl rfl rfl rfl (fun hg => (And.intro gi (True.intro))) (fun hg => opp_loadP rfl rfl rfl rfl bi rfl ty9) ?_
    | refine dG _ (fun n => !([] : List Nat).contains n) rfl rfl rfl rfl (fun hg => (And.intro gi (True.intro))) (fun hg => opp_loadF rfl rfl ty9) ?_
  refine dG _ (fun n => !([] : List Nat).contains n) rfl rfl rfl rfl (fun hg => (And.intro gi (True.intro))) (fun hg => opp_lenStr rfl rfl un9) ?_
  refine dG _ (fun _ => false) rfl rfl rfl rfl (fun hg => (And.intro gi (And.intro gi (True.intro)))) (fun hg => opp_cmp rfl rfl rfl rfl) ?_
  refine dPick (fun _ => false) rfl rfl rfl rfl (by exact True.intro) rfl rfl (fun hg => gi) (fun hg => gi) ?_
  refine And.intro (by kernel_rfl) ?_
  refine awp_cond _ rfl (fun hc6 => ?_) (fun hc6 => ?_)
  · (try simp only [cmpI, errD_nil, Bool.not_eq_true', Bool.not_eq_false', decide_eq_true_eq, decide_eq_false_iff_not] at hc6); have ht51 := hc6
    exfalso; simp [Sp.kCut] at ht51
  · (try simp only [cmpI, errD_nil, Bool.not_eq_true', Bool.not_eq_false', decide_eq_true_eq, decide_eq_false_iff_not] at hc6); have ht51 := hc6
    refine awp_skip ?_
    refine awp_seq ?_
    rw [show ((Sp.crcSeal Sp.kB, (0 : Nat)).1) = Sp.crcSeal Sp.kB from rfl]
    have hk := Sp.k_len
    refine awp_region rfl ?_
    refine sP (opp_mv (v := .str _) rfl rfl) rfl rfl ?_
    refine sP (opp_lenStr rfl rfl un9) rfl rfl ?_
    refine sP (opp_cmp rfl rfl rfl rfl) rfl rfl ?_
    refine sP (opp_mv (v := .bool _) rfl rfl) rfl rfl ?_
    refine sG _ rfl rfl rfl rfl (fun hg => (And.intro gi (True.intro))) (fun hg => opp_mv (v := .str _) rfl rfl) ?_
    refine sG _ rfl rfl rfl rfl (fun hg => (And.intro gi (And.intro gi (True.intro)))) (fun hg => opp_sliceStr rfl rfl rfl rfl un9 (by omega) (by omega) (by omega)) ?_
    refine sG _ rfl rfl rfl rfl (fun hg => (And.intro gi (And.intro gi (True.intro)))) (fun hg => opp_strEq (b := [0, 27, 4, 2, 0, 0, 0, 1, 0, 0, 0, 3, 0, 0, 0, 2, 0, 0, 0, 0, 0, 0, 0]) rfl rfl rfl (.inl ⟨rfl, rfl⟩)) ?_
    refine sPick rfl rfl rfl rfl (by exact True.intro) rfl rfl (fun hg => gi) (fun hg => gi) ?_
    refine sP (opp_as (v := .bool _) rfl rfl) rfl rfl ?_
    refine awp_ret ?_
    repeat (first | refine athen_ret ?_ | refine ain_ret ?_)
    first
      | refine apost_ret (aend1 (r0 := .bool _) (.tmp .nil) (.noN rfl rfl) ⟨Wk.v ?_, rfl, rfl⟩)
      | refine apost_ret (aend1s (r0 := .bool _) (.tmp .nil) shut rfl ⟨Wk.v ?_, rfl, rfl⟩)
    have hh := Sp.k_head
    refine .of (congrArg AV.bool ?_)
    simp only [cmpI, hk, Int.toNat_zero, List.drop_zero]
    show (bif decide (((27 : Nat) : Int) = 27) then decide ((Sp.crcSeal Sp.kB).take 23 = Sp.kB) else false) = true
    rw [hh]; simp
end
end Go.Proofs.YtgaihhimkodmmaaDoor
/- The numbers of errors: api.Code; ferrylaw22.plain (walks over this dump). -/
namespace Go.Proofs.YtgaihhimkodmmaaDoor
attribute [local irreducible] Tryd.prog
open Go.Fy
set_option linter.unusedSimpArgs false
set_option linter.unusedVariables false
section
variable {ea : Nat → Addr} {cds : List Nat} {gl : Nat → Option AV}
theorem c134 (c : Nat) (h1 : 11 ≤ c) (h20 : c ≤ 20) (hS : Sents cds gl) : APure (V ea cds gl) 134 [.err (.code c)] false (.int .i64 c) := by
  have hS0 := hS
  obtain ⟨hG0, hG11, hG12, hG8, hG1, hG9, hG4, hG13, hG3, hG5, hG6, hG2, hG15, hG7, hG16, hG17, hG18, hG19, hG20, hG21, hT, hall⟩ := hS
  refine acalls_of_body (N := 43) Tryd.func134 rfl rfl (Nat.le_of_ble_eq_true rfl) fun C hV hN hM hO => ?_
  obtain ⟨_, _, w0, G0, σ0, _, own0⟩ := C; dsimp only at hV hN hM hO; subst hV; subst hN; subst hM
  refine awp_seq ?_
  refine awp_region rfl ?_
  refine sP (opp_as (v := .int _ _) rfl rfl) rfl rfl ?_
  refine awp_seq ?_
  refine awp_block ?_
  refine awp_seq ?_
  refine awp_region rfl ?_
  refine sP (opp_mv (v := .err _) rfl rfl) rfl rfl ?_
  refine sP (opp_loadF rfl (ev_glob hG6) ty29) rfl rfl ?_
  refine sR (opr_call rfl rfl ent133 rfl (c133 c 11 (hall _ (by omega) h20) (hall _ (by omega) (by omega))) (AViews.refl _ rfl)) rfl rfl rfl ?_ -- d=6 t=4
  refine sP (opp_as (v := .bool _) rfl rfl) rfl rfl ?_
  refine awp_cond _ rfl (fun hc3 => ?_) (fun hc3 => ?_)
  · (try simp only [cmpI, errD_nil, Bool.not_eq_true', Bool.not_eq_false', decide_eq_true_eq, decide_eq_false_iff_not] at hc3); have ht3 := hc3
    refine awp_seq ?_
    refine awp_region rfl ?_
    refine sP (opp_as (v := .int _ _) rfl rfl) rfl rfl ?_
    refine awp_ret ?_
    repeat (first | refine athen_ret ?_ | refine ain_ret ?_)
    first
      | refine apost_ret (aend1 (r0 := .int _ _) (.tmp .nil) (.noN rfl rfl) ⟨Wk.v ?_, rfl, rfl⟩)
      | refine apost_ret (aend1s (r0 := .int _ _) (.tmp .nil) shut rfl ⟨Wk.v ?_, rfl, rfl⟩)
    have hk : c = 11 := by omega
    subst hk; exact .refl
  · (try simp only [cmpI, errD_nil, Bool.not_eq_true', Bool.not_eq_false', decide_eq_true_eq, decide_eq_false_iff_not] at hc3); have ht3 := hc3
    refine awp_seq ?_
    refine awp_region rfl ?_
    refine sP (opp_mv (v := .err _) rfl rfl) rfl rfl ?_
    refine sP (opp_loadF rfl (ev_glob hG2) ty29) rfl rfl ?_
    refine sR (opr_call rfl rfl ent133 rfl (c133 c 12 (hall _ (by omega) h20) (hall _ (by omega) (by omega))) (AViews.refl _ rfl)) rfl rfl rfl ?_ -- d=10 t=4
    refine sP (opp_as (v := .bool _) rfl rfl) rfl rfl ?_
    refine awp_cond _ rfl (fun hc6 => ?_) (fun hc6 => ?_)
    · (try simp only [cmpI, errD_nil, Bool.not_eq_true', Bool.not_eq_false', decide_eq_true_eq, decide_eq_false_iff_not] at hc6); have ht7 := hc6
      refine awp_seq ?_
      refine awp_region rfl ?_
      refine sP (opp_as (v := .int _ _) rfl rfl) rfl rfl ?_
      refine awp_ret ?_
      repeat (first | refine athen_ret ?_ | refine ain_ret ?_)
      first
        | refine apost_ret (aend1 (r0 := .int _ _) (.tmp .nil) (.noN rfl rfl) ⟨Wk.v ?_, rfl, rfl⟩)
        | refine apost_ret (aend1s (r0 := .int _ _) (.tmp .nil) shut rfl ⟨Wk.v ?_, rfl, rfl⟩)
      have hk : c = 12 := by omega
      subst hk; exact .refl
    · (try simp only [cmpI, errD_nil, Bool.not_eq_true', Bool.not_eq_false', decide_eq_true_eq, decide_eq_false_iff_not] at hc6); have ht7 := hc6
      refine awp_seq ?_
      refine awp_region rfl ?_
      refine sP (opp_mv (v := .err _) rfl rfl) rfl rfl ?_
      refine sP (opp_loadF rfl (ev_glob hG15) ty29) rfl rfl ?_
      refine sR (opr_call rfl rfl ent133 rfl (c133 c 13 (hall _ (by omega) h20) (hall _ (by omega) (by omega))) (AViews.refl _ rfl)) rfl rfl rfl ?_ -- d=14 t=4
      refine sP (opp_as (v := .bool _) rfl rfl) rfl rfl ?_
      refine awp_cond _ rfl (fun hc9 => ?_) (fun hc9 => ?_)
      · (try simp only [cmpI, errD_nil, Bool.not_eq_true', Bool.not_eq_false', decide_eq_true_eq, decide_eq_false_iff_not] at hc9); have ht11 := hc9
        refine awp_seq ?_
        refine awp_region rfl ?_
        refine sP (opp_as (v := .int _ _) rfl rfl) rfl rfl ?_
        refine awp_ret ?_
        repeat (first | refine athen_ret ?_ | refine ain_ret ?_)
        first
          | refine apost_ret (aend1 (r0 := .int _ _) (.tmp .nil) (.noN rfl rfl) ⟨Wk.v ?_, rfl, rfl⟩)
          | refine apost_ret (aend1s (r0 := .int _ _) (.tmp .nil) shut rfl ⟨Wk.v ?_, rfl, rfl⟩)
        have hk : c = 13 := by omega
        subst hk; exact .refl
      · (try simp only [cmpI, errD_nil, Bool.not_eq_true', Bool.not_eq_false', decide_eq_true_eq, decide_eq_false_iff_not] at hc9); have ht11 := hc9
        refine awp_seq ?_
        refine awp_region rfl ?_
        refine sP (opp_mv (v := .err _) rfl rfl) rfl rfl ?_
        refine sP (opp_loadF rfl (ev_glob hG7) ty29) rfl rfl ?_
        refine sR (opr_call rfl rfl ent133 rfl (c133 c 14 (hall _ (by omega) h20) (hall _ (by omega) (by omega))) (AViews.refl _ rfl)) rfl rfl rfl ?_ -- d=18 t=4
        refine sP (opp_as (v := .bool _) rfl rfl) rfl rfl ?_
        refine awp_cond _ rfl (fun hc12 => ?_) (fun hc12 => ?_)
        · (try simp only [cmpI, errD_nil, Bool.not_eq_true', Bool.not_eq_false', decide_eq_true_eq, decide_eq_false_iff_not] at hc12); have ht15 := hc12
          refine awp_seq ?_
          refine awp_region rfl ?_
          refine sP (opp_as (v := .int _ _) rfl rfl) rfl rfl ?_
          refine awp_ret ?_
          repeat (first | refine athen_ret ?_ | refine ain_ret ?_)
          first
            | refine apost_ret (aend1 (r0 := .int _ _) (.tmp .nil) (.noN rfl rfl) ⟨Wk.v ?_, rfl, rfl⟩)
            | refine apost_ret (aend1s (r0 := .int _ _) (.tmp .nil) shut rfl ⟨Wk.v ?_, rfl, rfl⟩)
          have hk : c = 14 := by omega
          subst hk; exact .refl
        · (try simp only [cmpI, errD_nil, Bool.not_eq_true', Bool.not_eq_false', decide_eq_true_eq, decide_eq_false_iff_not] at hc12); have ht15 := hc12
          refine awp_seq ?_
          refine awp_region rfl ?_
          refine sP (opp_mv (v := .err _) rfl rfl) rfl rfl ?_
          refine sP (opp_loadF rfl (ev_glob hG16) ty29) rfl rfl ?_
          refine sR (opr_call rfl rfl ent133 rfl (c133 c 15 (hall _ (by omega) h20) (hall _ (by omega) (by omega))) (AViews.refl _ rfl)) rfl rfl rfl ?_ -- d=22 t=4
          refine sP (opp_as (v := .bool _) rfl rfl) rfl rfl ?_
          refine awp_cond _ rfl (fun hc15 => ?_) (fun hc15 => ?_)
          · (try simp only [cmpI, errD_nil, Bool.not_eq_true', Bool.not_eq_false', decide_eq_true_eq, decide_eq_false_iff_not] at hc15); have ht19 := hc15
            refine awp_seq ?_
            refine awp_region rfl ?_
            refine sP (opp_as (v := .int _ _) rfl rfl) rfl rfl ?_
            refine awp_ret ?_
            repeat (first | refine athen_ret ?_ | refine ain_ret ?_)
            first
              | refine apost_ret (aend1 (r0 := .int _ _) (.tmp .nil) (.noN rfl rfl) ⟨Wk.v ?_, rfl, rfl⟩)
              | refine apost_ret (aend1s (r0 := .int _ _) (.tmp .nil) shut rfl ⟨Wk.v ?_, rfl, rfl⟩)
            have hk : c = 15 := by omega
            subst hk; exact .refl
          · (try simp only [cmpI, errD_nil, Bool.not_eq_true', Bool.not_eq_false', decide_eq_true_eq, decide_eq_false_iff_not] at hc15); have ht19 := hc15
            refine awp_seq ?_
            refine awp_region rfl ?_
            refine sP (opp_mv (v := .err _) rfl rfl) rfl rfl ?_
            refine sP (opp_loadF rfl (ev_glob hG17) ty29) rfl rfl ?_
            refine sR (opr_call rfl rfl ent133 rfl (c133 c 16 (hall _ (by omega) h20) (hall _ (by omega) (by omega))) (AViews.refl _ rfl)) rfl rfl rfl ?_ -- d=26 t=4
            refine sP (opp_as (v := .bool _) rfl rfl) rfl rfl ?_
            refine awp_cond _ rfl (fun hc18 => ?_) (fun hc18 => ?_)
            · (try simp only [cmpI, errD_nil, Bool.not_eq_true', Bool.not_eq_false', decide_eq_true_eq, decide_eq_false_iff_not] at hc18); have ht23 := hc18
              refine awp_seq ?_
              refine awp_region rfl ?_
              refine sP (opp_as (v := .int _ _) rfl rfl) rfl rfl ?_
              refine awp_ret ?_
              repeat (first | refine athen_ret ?_ | refine ain_ret ?_)
              first
                | refine apost_ret (aend1 (r0 := .int _ _) (.tmp .nil) (.noN rfl rfl) ⟨Wk.v ?_, rfl, rfl⟩)
                | refine apost_ret (aend1s (r0 := .int _ _) (.tmp .nil) shut rfl ⟨Wk.v ?_, rfl, rfl⟩)
              have hk : c = 16 := by omega
              subst hk; exact .refl
            · (try simp only [cmpI, errD_nil, Bool.not_eq_true', Bool.not_eq_false', decide_eq_true_eq, decide_eq_false_iff_not] at hc18); have ht23 := hc18
              refine awp_seq ?_
              refine awp_region rfl ?_
              refine sP (opp_mv (v := .err _) rfl rfl) rfl rfl ?_
              refine sP (opp_loadF rfl (ev_glob hG18) ty29) rfl rfl ?_
              refine sR (opr_call rfl rfl ent133 rfl (c133 c 17 (hall _ (by omega) h20) (hall _ (by omega) (by omega))) (AViews.refl _ rfl)) rfl rfl rfl ?_ -- d=30 t=4
              refine sP (opp_as (v := .bool _) rfl rfl) rfl rfl ?_
              refine awp_cond _ rfl (fun hc21 => ?_) (fun hc21 => ?_)
              · (try simp only [cmpI, errD_nil, Bool.not_eq_true', Bool.not_eq_false', decide_eq_true_eq, decide_eq_false_iff_not] at hc21); have ht27 := hc21
                refine awp_seq ?_
                refine awp_region rfl ?_
                refine sP (opp_as (v := .int _ _) rfl rfl) rfl rfl ?_
                refine awp_ret ?_
                repeat (first | refine athen_ret ?_ | refine ain_ret ?_)
                first
                  | refine apost_ret (aend1 (r0 := .int _ _) (.tmp .nil) (.noN rfl rfl) ⟨Wk.v ?_, rfl, rfl⟩)
                  | refine apost_ret (aend1s (r0 := .int _ _) (.tmp .nil) shut rfl ⟨Wk.v ?_, rfl, rfl⟩)
                have hk : c = 17 := by omega
                subst hk; exact .refl
              · (try simp only [cmpI, errD_nil, Bool.not_eq_true', Bool.not_eq_false', decide_eq_true_eq, decide_eq_false_iff_not] at hc21); have ht27 := hc21
                refine awp_seq ?_
                refine awp_region rfl ?_
                refine sP (opp_mv (v := .err _) rfl rfl) rfl rfl ?_
                refine sP (opp_loadF rfl (ev_glob hG19) ty29) rfl rfl ?_
                refine sR (opr_call rfl rfl ent133 rfl (c133 c 18 (hall _ (by omega) h20) (hall _ (by omega) (by omega))) (AViews.refl _ rfl)) rfl rfl rfl ?_ -- d=34 t=4
                refine sP (opp_as (v := .bool _) rfl rfl) rfl rfl ?_
                refine awp_cond _ rfl (fun hc24 => ?_) (fun hc24 => ?_)
                · (try simp only [cmpI, errD_nil, Bool.not_eq_true', Bool.not_eq_false', decide_eq_true_eq, decide_eq_false_iff_not] at hc24); have ht31 := hc24
                  refine awp_seq ?_
                  refine awp_region rfl ?_
                  refine sP (opp_as (v := .int _ _) rfl rfl) rfl rfl ?_
                  refine awp_ret ?_
                  repeat (first | refine athen_ret ?_ | refine ain_ret ?_)
                  first
                    | refine apost_ret (aend1 (r0 := .int _ _) (.tmp .nil) (.noN rfl rfl) ⟨Wk.v ?_, rfl, rfl⟩)
                    | refine apost_ret (aend1s (r0 := .int _ _) (.tmp .nil) shut rfl ⟨Wk.v ?_, rfl, rfl⟩)
                  have hk : c = 18 := by omega
                  subst hk; exact .refl
                · (try simp only [cmpI, errD_nil, Bool.not_eq_true', Bool.not_eq_false', decide_eq_true_eq, decide_eq_false_iff_not] at hc24); have ht31 := hc24
                  refine awp_seq ?_
                  refine awp_region rfl ?_
                  refine sP (opp_mv (v := .err _) rfl rfl) rfl rfl ?_
                  refine sP (opp_loadF rfl (ev_glob hG20) ty29) rfl rfl ?_
                  refine sR (opr_call rfl rfl ent133 rfl (c133 c 19 (hall _ (by omega) h20) (hall _ (by omega) (by omega))) (AViews.refl _ rfl)) rfl rfl rfl ?_ -- d=38 t=4
                  refine sP (opp_as (v := .bool _) rfl rfl) rfl rfl ?_
                  refine awp_cond _ rfl (fun hc27 => ?_) (fun hc27 => ?_)
                  · (try simp only [cmpI, errD_nil, Bool.not_eq_true', Bool.not_eq_false', decide_eq_true_eq, decide_eq_false_iff_not] at hc27); have ht35 := hc27
                    refine awp_seq ?_
                    refine awp_region rfl ?_
                    refine sP (opp_as (v := .int _ _) rfl rfl) rfl rfl ?_
                    refine awp_ret ?_
                    repeat (first | refine athen_ret ?_ | refine ain_ret ?_)
                    first
                      | refine apost_ret (aend1 (r0 := .int _ _) (.tmp .nil) (.noN rfl rfl) ⟨Wk.v ?_, rfl, rfl⟩)
                      | refine apost_ret (aend1s (r0 := .int _ _) (.tmp .nil) shut rfl ⟨Wk.v ?_, rfl, rfl⟩)
                    have hk : c = 19 := by omega
                    subst hk; exact .refl
                  · (try simp only [cmpI, errD_nil, Bool.not_eq_true', Bool.not_eq_false', decide_eq_true_eq, decide_eq_false_iff_not] at hc27); have ht35 := hc27
                    refine awp_seq ?_
                    refine awp_region rfl ?_
                    refine sP (opp_mv (v := .err _) rfl rfl) rfl rfl ?_
                    refine sP (opp_loadF rfl (ev_glob hG21) ty29) rfl rfl ?_
                    refine sR (opr_call rfl rfl ent133 rfl (c133 c 20 (hall _ (by omega) h20) (hall _ (by omega) (by omega))) (AViews.refl _ rfl)) rfl rfl rfl ?_ -- d=42 t=4
                    refine sP (opp_as (v := .bool _) rfl rfl) rfl rfl ?_
                    refine awp_cond _ rfl (fun hc30 => ?_) (fun hc30 => ?_)
                    · (try simp only [cmpI, errD_nil, Bool.not_eq_true', Bool.not_eq_false', decide_eq_true_eq, decide_eq_false_iff_not] at hc30); have ht39 := hc30
                      refine awp_seq ?_
                      refine awp_region rfl ?_
                      refine sP (opp_as (v := .int _ _) rfl rfl) rfl rfl ?_
                      refine awp_ret ?_
                      repeat (first | refine athen_ret ?_ | refine ain_ret ?_)
                      first
                        | refine apost_ret (aend1 (r0 := .int _ _) (.tmp .nil) (.noN rfl rfl) ⟨Wk.v ?_, rfl, rfl⟩)
                        | refine apost_ret (aend1s (r0 := .int _ _) (.tmp .nil) shut rfl ⟨Wk.v ?_, rfl, rfl⟩)
                      have hk : c = 20 := by omega
                      subst hk; exact .refl
                    · (try simp only [cmpI, errD_nil, Bool.not_eq_true', Bool.not_eq_false', decide_eq_true_eq, decide_eq_false_iff_not] at hc30); have ht39 := hc30
                      refine awp_skip ?_
                      refine awp_seq ?_
                      refine awp_region rfl ?_
                      refine sP (opp_as (v := .int _ _) rfl rfl) rfl rfl ?_
                      refine awp_ret ?_
                      repeat (first | refine athen_ret ?_ | refine ain_ret ?_)
                      first
                        | refine apost_ret (aend1 (r0 := .int _ _) (.tmp .nil) (.noN rfl rfl) ⟨Wk.v ?_, rfl, rfl⟩)
                        | refine apost_ret (aend1s (r0 := .int _ _) (.tmp .nil) shut rfl ⟨Wk.v ?_, rfl, rfl⟩)
                      exfalso; omega
theorem c99 (c : Nat) (h1 : 1 ≤ c) (h20 : c ≤ 20) (hS : Sents cds gl) : APure (V ea cds gl) 99 [.err (.code c)] false (.int .i64 c) := by
  have hS0 := hS
  obtain ⟨hG0, hG11, hG12, hG8, hG1, hG9, hG4, hG13, hG3, hG5, hG6, hG2, hG15, hG7, hG16, hG17, hG18, hG19, hG20, hG21, hT, hall⟩ := hS
  refine acalls_of_body (N := 48) Tryd.func99 rfl rfl (Nat.le_of_ble_eq_true rfl) fun C hV hN hM hO => ?_
  obtain ⟨_, _, w0, G0, σ0, _, own0⟩ := C; dsimp only at hV hN hM hO; subst hV; subst hN; subst hM
  refine awp_seq ?_
  refine awp_region rfl ?_
  refine sP (opp_as (v := .int _ _) rfl rfl) rfl rfl ?_
  refine awp_seq ?_
  refine awp_block ?_
  refine awp_seq ?_
  refine awp_region rfl ?_
  refine sP (opp_mv (v := .err _) rfl rfl) rfl rfl ?_
  refine sP (opp_errNil rfl rfl rfl un29 (.inl ⟨rfl, rfl⟩)) rfl rfl ?_
  refine sP (opp_as (v := .bool _) rfl rfl) rfl rfl ?_
  refine awp_cond _ rfl (fun hc3 => ?_) (fun hc3 => ?_)
  · (try simp only [cmpI, errD_nil, Bool.not_eq_true', Bool.not_eq_false', decide_eq_true_eq, decide_eq_false_iff_not] at hc3); have ht3 := hc3
    cases ht3
  · (try simp only [cmpI, errD_nil, Bool.not_eq_true', Bool.not_eq_false', decide_eq_true_eq, decide_eq_false_iff_not] at hc3); have ht3 := hc3
    refine awp_seq ?_
    refine awp_region rfl ?_
    refine sP (opp_mv (v := .err _) rfl rfl) rfl rfl ?_
    refine sP (opp_loadF rfl (ev_glob hG0) ty29) rfl rfl ?_
    refine sR (opr_call rfl rfl ent133 rfl (c133 c 1 (hall _ (by omega) h20) (hall _ (by omega) (by omega))) (AViews.refl _ rfl)) rfl rfl rfl ?_ -- d=9 t=4
    refine sP (opp_as (v := .bool _) rfl rfl) rfl rfl ?_
    refine awp_cond _ rfl (fun hc5 => ?_) (fun hc5 => ?_)
    · (try simp only [cmpI, errD_nil, Bool.not_eq_true', Bool.not_eq_false', decide_eq_true_eq, decide_eq_false_iff_not] at hc5); have ht6 := hc5
      refine awp_seq ?_
      refine awp_region rfl ?_
      refine sP (opp_as (v := .int _ _) rfl rfl) rfl rfl ?_
      refine awp_ret ?_
      repeat (first | refine athen_ret ?_ | refine ain_ret ?_)
      first
        | refine apost_ret (aend1 (r0 := .int _ _) (.tmp .nil) (.noN rfl rfl) ⟨Wk.v ?_, rfl, rfl⟩)
        | refine apost_ret (aend1s (r0 := .int _ _) (.tmp .nil) shut rfl ⟨Wk.v ?_, rfl, rfl⟩)
      have hk : c = 1 := by omega
      subst hk; exact .refl
    · (try simp only [cmpI, errD_nil, Bool.not_eq_true', Bool.not_eq_false', decide_eq_true_eq, decide_eq_false_iff_not] at hc5); have ht6 := hc5
      refine awp_seq ?_
      refine awp_region rfl ?_
      refine sP (opp_mv (v := .err _) rfl rfl) rfl rfl ?_
      refine sP (opp_loadF rfl (ev_glob hG11) ty29) rfl rfl ?_
      refine sR (opr_call rfl rfl ent133 rfl (c133 c 2 (hall _ (by omega) h20) (hall _ (by omega) (by omega))) (AViews.refl _ rfl)) rfl rfl rfl ?_ -- d=13 t=4
      refine sP (opp_as (v := .bool _) rfl rfl) rfl rfl ?_
      refine awp_cond _ rfl (fun hc8 => ?_) (fun hc8 => ?_)
      · (try simp only [cmpI, errD_nil, Bool.not_eq_true', Bool.not_eq_false', decide_eq_true_eq, decide_eq_false_iff_not] at hc8); have ht10 := hc8
        refine awp_seq ?_
        refine awp_region rfl ?_
        refine sP (opp_as (v := .int _ _) rfl rfl) rfl rfl ?_
        refine awp_ret ?_
        repeat (first | refine athen_ret ?_ | refine ain_ret ?_)
        first
          | refine apost_ret (aend1 (r0 := .int _ _) (.tmp .nil) (.noN rfl rfl) ⟨Wk.v ?_, rfl, rfl⟩)
          | refine apost_ret (aend1s (r0 := .int _ _) (.tmp .nil) shut rfl ⟨Wk.v ?_, rfl, rfl⟩)
        have hk : c = 2 := by omega
        subst hk; exact .refl
      · (try simp only [cmpI, errD_nil, Bool.not_eq_true', Bool.not_eq_false', decide_eq_true_eq, decide_eq_false_iff_not] at hc8); have ht10 := hc8
        refine awp_seq ?_
        refine awp_region rfl ?_
        refine sP (opp_mv (v := .err _) rfl rfl) rfl rfl ?_
        refine sP (opp_loadF rfl (ev_glob hG12) ty29) rfl rfl ?_
        refine sR (opr_call rfl rfl ent133 rfl (c133 c 3 (hall _ (by omega) h20) (hall _ (by omega) (by omega))) (AViews.refl _ rfl)) rfl rfl rfl ?_ -- d=17 t=4
        refine sP (opp_as (v := .bool _) rfl rfl) rfl rfl ?_
        refine awp_cond _ rfl (fun hc11 => ?_) (fun hc11 => ?_)
        · (try simp only [cmpI, errD_nil, Bool.not_eq_true', Bool.not_eq_false', decide_eq_true_eq, decide_eq_false_iff_not] at hc11); have ht14 := hc11
          refine awp_seq ?_
          refine awp_region rfl ?_
          refine sP (opp_as (v := .int _ _) rfl rfl) rfl rfl ?_
          refine awp_ret ?_
          repeat (first | refine athen_ret ?_ | refine ain_ret ?_)
          first
            | refine apost_ret (aend1 (r0 := .int _ _) (.tmp .nil) (.noN rfl rfl) ⟨Wk.v ?_, rfl, rfl⟩)
            | refine apost_ret (aend1s (r0 := .int _ _) (.tmp .nil) shut rfl ⟨Wk.v ?_, rfl, rfl⟩)
          have hk : c = 3 := by omega
          subst hk; exact .refl
        · (try simp only [cmpI, errD_nil, Bool.not_eq_true', Bool.not_eq_false', decide_eq_true_eq, decide_eq_false_iff_not] at hc11); have ht14 := hc11
          refine awp_seq ?_
          refine awp_region rfl ?_
          refine sP (opp_mv (v := .err _) rfl rfl) rfl rfl ?_
          refine sP (opp_loadF rfl (ev_glob hG8) ty29) rfl rfl ?_
          refine sR (opr_call rfl rfl ent133 rfl (c133 c 4 (hall _ (by omega) h20) (hall _ (by omega) (by omega))) (AViews.refl _ rfl)) rfl rfl rfl ?_ -- d=21 t=4
          refine sP (opp_as (v := .bool _) rfl rfl) rfl rfl ?_
          refine awp_cond _ rfl (fun hc14 => ?_) (fun hc14 => ?_)
          · (try simp only [cmpI, errD_nil, Bool.not_eq_true', Bool.not_eq_false', decide_eq_true_eq, decide_eq_false_iff_not] at hc14); have ht18 := hc14
            refine awp_seq ?_
            refine awp_region rfl ?_
            refine sP (opp_as (v := .int _ _) rfl rfl) rfl rfl ?_
            refine awp_ret ?_
            repeat (first | refine athen_ret ?_ | refine ain_ret ?_)
            first
              | refine apost_ret (aend1 (r0 := .int _ _) (.tmp .nil) (.noN rfl rfl) ⟨Wk.v ?_, rfl, rfl⟩)
              | refine apost_ret (aend1s (r0 := .int _ _) (.tmp .nil) shut rfl ⟨Wk.v ?_, rfl, rfl⟩)
            have hk : c = 4 := by omega
            subst hk; exact .refl
          · (try simp only [cmpI, errD_nil, Bool.not_eq_true', Bool.not_eq_false', decide_eq_true_eq, decide_eq_false_iff_not] at hc14); have ht18 := hc14
            refine awp_seq ?_
            refine awp_region rfl ?_
            refine sP (opp_mv (v := .err _) rfl rfl) rfl rfl ?_
            refine sP (opp_loadF rfl (ev_glob hG1) ty29) rfl rfl ?_
            refine sR (opr_call rfl rfl ent133 rfl (c133 c 5 (hall _ (by omega) h20) (hall _ (by omega) (by omega))) (AViews.refl _ rfl)) rfl rfl rfl ?_ -- d=25 t=4
            refine sP (opp_as (v := .bool _) rfl rfl) rfl rfl ?_
            refine awp_cond _ rfl (fun hc17 => ?_) (fun hc17 => ?_)
            · (try simp only [cmpI, errD_nil, Bool.not_eq_true', Bool.not_eq_false', decide_eq_true_eq, decide_eq_false_iff_not] at hc17); have ht22 := hc17
              refine awp_seq ?_
              refine awp_region rfl ?_
              refine sP (opp_as (v := .int _ _) rfl rfl) rfl rfl ?_
              refine awp_ret ?_
              repeat (first | refine athen_ret ?_ | refine ain_ret ?_)
              first
                | refine apost_ret (aend1 (r0 := .int _ _) (.tmp .nil) (.noN rfl rfl) ⟨Wk.v ?_, rfl, rfl⟩)
                | refine apost_ret (aend1s (r0 := .int _ _) (.tmp .nil) shut rfl ⟨Wk.v ?_, rfl, rfl⟩)
              have hk : c = 5 := by omega
              subst hk; exact .refl
            · (try simp only [cmpI, errD_nil, Bool.not_eq_true', Bool.not_eq_false', decide_eq_true_eq, decide_eq_false_iff_not] at hc17); have ht22 := hc17
              refine awp_seq ?_
              refine awp_region rfl ?_
              refine sP (opp_mv (v := .err _) rfl rfl) rfl rfl ?_
              refine sP (opp_loadF rfl (ev_glob hG9) ty29) rfl rfl ?_
              refine sR (opr_call rfl rfl ent133 rfl (c133 c 6 (hall _ (by omega) h20) (hall _ (by omega) (by omega))) (AViews.refl _ rfl)) rfl rfl rfl ?_ -- d=29 t=4
              refine sP (opp_as (v := .bool _) rfl rfl) rfl rfl ?_
              refine awp_cond _ rfl (fun hc20 => ?_) (fun hc20 => ?_)
              · (try simp only [cmpI, errD_nil, Bool.not_eq_true', Bool.not_eq_false', decide_eq_true_eq, decide_eq_false_iff_not] at hc20); have ht26 := hc20
                refine awp_seq ?_
                refine awp_region rfl ?_
                refine sP (opp_as (v := .int _ _) rfl rfl) rfl rfl ?_
                refine awp_ret ?_
                repeat (first | refine athen_ret ?_ | refine ain_ret ?_)
                first
                  | refine apost_ret (aend1 (r0 := .int _ _) (.tmp .nil) (.noN rfl rfl) ⟨Wk.v ?_, rfl, rfl⟩)
                  | refine apost_ret (aend1s (r0 := .int _ _) (.tmp .nil) shut rfl ⟨Wk.v ?_, rfl, rfl⟩)
                have hk : c = 6 := by omega
                subst hk; exact .refl
              · (try simp only [cmpI, errD_nil, Bool.not_eq_true', Bool.not_eq_false', decide_eq_true_eq, decide_eq_false_iff_not] at hc20); have ht26 := hc20
                refine awp_seq ?_
                refine awp_region rfl ?_
                refine sP (opp_mv (v := .err _) rfl rfl) rfl rfl ?_
                refine sP (opp_loadF rfl (ev_glob hG4) ty29) rfl rfl ?_
                refine sR (opr_call rfl rfl ent133 rfl (c133 c 7 (hall _ (by omega) h20) (hall _ (by omega) (by omega))) (AViews.refl _ rfl)) rfl rfl rfl ?_ -- d=33 t=4
                refine sP (opp_as (v := .bool _) rfl rfl) rfl rfl ?_
                refine awp_cond _ rfl (fun hc23 => ?_) (fun hc23 => ?_)
                · (try simp only [cmpI, errD_nil, Bool.not_eq_true', Bool.not_eq_false', decide_eq_true_eq, decide_eq_false_iff_not] at hc23); have ht30 := hc23
                  refine awp_seq ?_
                  refine awp_region rfl ?_
                  refine sP (opp_as (v := .int _ _) rfl rfl) rfl rfl ?_
                  refine awp_ret ?_
                  repeat (first | refine athen_ret ?_ | refine ain_ret ?_)
                  first
                    | refine apost_ret (aend1 (r0 := .int _ _) (.tmp .nil) (.noN rfl rfl) ⟨Wk.v ?_, rfl, rfl⟩)
                    | refine apost_ret (aend1s (r0 := .int _ _) (.tmp .nil) shut rfl ⟨Wk.v ?_, rfl, rfl⟩)
                  have hk : c = 7 := by omega
                  subst hk; exact .refl
                · (try simp only [cmpI, errD_nil, Bool.not_eq_true', Bool.not_eq_false', decide_eq_true_eq, decide_eq_false_iff_not] at hc23); have ht30 := hc23
                  refine awp_seq ?_
                  refine awp_region rfl ?_
                  refine sP (opp_mv (v := .err _) rfl rfl) rfl rfl ?_
                  refine sP (opp_loadF rfl (ev_glob hG13) ty29) rfl rfl ?_
                  refine sR (opr_call rfl rfl ent133 rfl (c133 c 8 (hall _ (by omega) h20) (hall _ (by omega) (by omega))) (AViews.refl _ rfl)) rfl rfl rfl ?_ -- d=37 t=4
                  refine sP (opp_as (v := .bool _) rfl rfl) rfl rfl ?_
                  refine awp_cond _ rfl (fun hc26 => ?_) (fun hc26 => ?_)
                  · (try simp only [cmpI, errD_nil, Bool.not_eq_true', Bool.not_eq_false', decide_eq_true_eq, decide_eq_false_iff_not] at hc26); have ht34 := hc26
                    refine awp_seq ?_
                    refine awp_region rfl ?_
                    refine sP (opp_as (v := .int _ _) rfl rfl) rfl rfl ?_
                    refine awp_ret ?_
                    repeat (first | refine athen_ret ?_ | refine ain_ret ?_)
                    first
                      | refine apost_ret (aend1 (r0 := .int _ _) (.tmp .nil) (.noN rfl rfl) ⟨Wk.v ?_, rfl, rfl⟩)
                      | refine apost_ret (aend1s (r0 := .int _ _) (.tmp .nil) shut rfl ⟨Wk.v ?_, rfl, rfl⟩)
                    have hk : c = 8 := by omega
                    subst hk; exact .refl
                  · (try simp only [cmpI, errD_nil, Bool.not_eq_true', Bool.not_eq_false', decide_eq_true_eq, decide_eq_false_iff_not] at hc26); have ht34 := hc26
                    refine awp_seq ?_
                    refine awp_region rfl ?_
                    refine sP (opp_mv (v := .err _) rfl rfl) rfl rfl ?_
                    refine sP (opp_loadF rfl (ev_glob hG3) ty29) rfl rfl ?_
                    refine sR (opr_call rfl rfl ent133 rfl (c133 c 9 (hall _ (by omega) h20) (hall _ (by omega) (by omega))) (AViews.refl _ rfl)) rfl rfl rfl ?_ -- d=41 t=4
                    refine sP (opp_as (v := .bool _) rfl rfl) rfl rfl ?_
                    refine awp_cond _ rfl (fun hc29 => ?_) (fun hc29 => ?_)
                    · (try simp only [cmpI, errD_nil, Bool.not_eq_true', Bool.not_eq_false', decide_eq_true_eq, decide_eq_false_iff_not] at hc29); have ht38 := hc29
                      refine awp_seq ?_
                      refine awp_region rfl ?_
                      refine sP (opp_as (v := .int _ _) rfl rfl) rfl rfl ?_
                      refine awp_ret ?_
                      repeat (first | refine athen_ret ?_ | refine ain_ret ?_)
                      first
                        | refine apost_ret (aend1 (r0 := .int _ _) (.tmp .nil) (.noN rfl rfl) ⟨Wk.v ?_, rfl, rfl⟩)
                        | refine apost_ret (aend1s (r0 := .int _ _) (.tmp .nil) shut rfl ⟨Wk.v ?_, rfl, rfl⟩)
                      have hk : c = 9 := by omega
                      subst hk; exact .refl
                    · (try simp only [cmpI, errD_nil, Bool.not_eq_true', Bool.not_eq_false', decide_eq_true_eq, decide_eq_false_iff_not] at hc29); have ht38 := hc29
                      refine awp_seq ?_
                      refine awp_region rfl ?_
                      refine sP (opp_mv (v := .err _) rfl rfl) rfl rfl ?_
                      refine sP (opp_loadF rfl (ev_glob hG5) ty29) rfl rfl ?_
                      refine sR (opr_call rfl rfl ent133 rfl (c133 c 10 (hall _ (by omega) h20) (hall _ (by omega) (by omega))) (AViews.refl _ rfl)) rfl rfl rfl ?_ -- d=45 t=4
                      refine sP (opp_as (v := .bool _) rfl rfl) rfl rfl ?_
                      refine awp_cond _ rfl (fun hc32 => ?_) (fun hc32 => ?_)
                      · (try simp only [cmpI, errD_nil, Bool.not_eq_true', Bool.not_eq_false', decide_eq_true_eq, decide_eq_false_iff_not] at hc32); have ht42 := hc32
                        refine awp_seq ?_
                        refine awp_region rfl ?_
                        refine sP (opp_as (v := .int _ _) rfl rfl) rfl rfl ?_
                        refine awp_ret ?_
                        repeat (first | refine athen_ret ?_ | refine ain_ret ?_)
                        first
                          | refine apost_ret (aend1 (r0 := .int _ _) (.tmp .nil) (.noN rfl rfl) ⟨Wk.v ?_, rfl, rfl⟩)
                          | refine apost_ret (aend1s (r0 := .int _ _) (.tmp .nil) shut rfl ⟨Wk.v ?_, rfl, rfl⟩)
                        have hk : c = 10 := by omega
                        subst hk; exact .refl
                      · (try simp only [cmpI, errD_nil, Bool.not_eq_true', Bool.not_eq_false', decide_eq_true_eq, decide_eq_false_iff_not] at hc32); have ht42 := hc32
                        refine awp_skip ?_
                        refine awp_seq ?_
                        refine awp_region rfl ?_
                        refine sP (opp_mv (v := .err _) rfl rfl) rfl rfl ?_
                        refine sR (opr_call rfl rfl ent134 rfl (c134 c (by omega) h20 hS0) (AViews.refl _ rfl)) rfl rfl rfl ?_ -- d=47 t=3
                        refine sP (opp_as (v := .int _ _) rfl rfl) rfl rfl ?_
                        refine awp_ret ?_
                        repeat (first | refine athen_ret ?_ | refine ain_ret ?_)
                        first
                          | refine apost_ret (aend1 (r0 := .int _ _) (.tmp .nil) (.noN rfl rfl) ⟨Wk.v ?_, rfl, rfl⟩)
                          | refine apost_ret (aend1s (r0 := .int _ _) (.tmp .nil) shut rfl ⟨Wk.v ?_, rfl, rfl⟩)
                        exact .refl
theorem cn99 (hS : Sents cds gl) : APure (V ea cds gl) 99 [.err .nil] false (.int .i64 0) := by
  have hS0 := hS
  obtain ⟨hG0, hG11, hG12, hG8, hG1, hG9, hG4, hG13, hG3, hG5, hG6, hG2, hG15, hG7, hG16, hG17, hG18, hG19, hG20, hG21, hT, hall⟩ := hS
  refine acalls_of_body (N := 48) Tryd.func99 rfl rfl (Nat.le_of_ble_eq_true rfl) fun C hV hN hM hO => ?_
  obtain ⟨_, _, w0, G0, σ0, _, own0⟩ := C; dsimp only at hV hN hM hO; subst hV; subst hN; subst hM
  refine awp_seq ?_
  refine awp_region rfl ?_
  refine sP (opp_as (v := .int _ _) rfl rfl) rfl rfl ?_
  refine awp_seq ?_
  refine awp_block ?_
  refine awp_seq ?_
  refine awp_region rfl ?_
  refine sP (opp_mv (v := .err _) rfl rfl) rfl rfl ?_
  refine sP (opp_errNil rfl rfl rfl un29 (.inl ⟨rfl, rfl⟩)) rfl rfl ?_
  refine sP (opp_as (v := .bool _) rfl rfl) rfl rfl ?_
  refine awp_cond _ rfl (fun hc3 => ?_) (fun hc3 => ?_)
  · (try simp only [cmpI, errD_nil, Bool.not_eq_true', Bool.not_eq_false', decide_eq_true_eq, decide_eq_false_iff_not] at hc3); have ht3 := hc3
    refine awp_seq ?_
    refine awp_region rfl ?_
    refine sP (opp_as (v := .int _ _) rfl rfl) rfl rfl ?_
    refine awp_ret ?_
    repeat (first | refine athen_ret ?_ | refine ain_ret ?_)
    first
      | refine apost_ret (aend1 (r0 := .int _ _) (.tmp .nil) (.noN rfl rfl) ⟨Wk.v ?_, rfl, rfl⟩)
      | refine apost_ret (aend1s (r0 := .int _ _) (.tmp .nil) shut rfl ⟨Wk.v ?_, rfl, rfl⟩)
    exact .refl
  · (try simp only [cmpI, errD_nil, Bool.not_eq_true', Bool.not_eq_false', decide_eq_true_eq, decide_eq_false_iff_not] at hc3); have ht3 := hc3
    exfalso; simp [ErrD.isNil] at ht3
theorem ck99 (c : Nat) (hc : c ≤ 20) (hS : Sents cds gl) : APure (V ea cds gl) 99 [.err (errD c)] false (.int .i64 c) := by
  by_cases e : c = 0
  · subst e; exact cn99 hS
  · rw [show errD c = .code c from if_neg e]; exact c99 c (by omega) hc hS
end
end Go.Proofs.YtgaihhimkodmmaaDoor
/- Go's library: strings.Join (the shelf's contract); layer 20: the whole image (walks over this dump). -/
namespace Go.Proofs.YtgaihhimkodmmaaDoor
attribute [local irreducible] Tryd.prog
open Go.Fy Go.RowKit
set_option linter.unusedSimpArgs false
section
variable {ea : Nat → Addr} {cds : List Nat} {gl : Nat → Option AV}
end
end Go.Proofs.YtgaihhimkodmmaaDoor
/- Layer 22: an image on its way (walks over this dump). -/
namespace Go.Proofs.YtgaihhimkodmmaaDoor
attribute [local irreducible] Tryd.prog
open Go.Fy
set_option linter.unusedSimpArgs false
section
variable {ea : Nat → Addr} {cds : List Nat} {gl : Nat → Option AV}
end
end Go.Proofs.YtgaihhimkodmmaaDoor
/- Layer 22: what has come, whole; the law's fixed fact (walks over this dump). -/
namespace Go.Proofs.YtgaihhimkodmmaaDoor
attribute [local irreducible] Tryd.prog
open Go.Fy
set_option linter.unusedSimpArgs false
section
variable {ea : Nat → Addr} {cds : List Nat} {gl : Nat → Option AV}
end
end Go.Proofs.YtgaihhimkodmmaaDoor
/- The document's answers for layer 20: an image is cut; for layer 22: an image is started (walks over this dump). -/
namespace Go.Proofs.YtgaihhimkodmmaaDoor
attribute [local irreducible] Tryd.prog
open Go.Fy
set_option linter.unusedSimpArgs false
set_option linter.unusedVariables false
section
variable {ea : Nat → Addr} {cds : List Nat} {gl : Nat → Option AV}
theorem c104 (a : Int) : APure (V ea cds gl) 104 [.int .i64 a] false (.bool (Sp.goodPart a)) := by
  refine acalls_of_body (N := 9) Tryd.func104 rfl rfl (Nat.le_of_ble_eq_true rfl) fun C hV hN hM hO => ?_
  obtain ⟨_, _, w0, G0, σ0, _, own0⟩ := C; dsimp only at hV hN hM hO; subst hV; subst hN; subst hM
  refine awp_seq ?_
  refine awp_region rfl ?_
  refine sP (opp_as (v := .bool _) rfl rfl) rfl rfl ?_
  refine awp_seq ?_
  refine awp_region rfl ?_
  refine sP (opp_mv (v := .int _ _) rfl rfl) rfl rfl ?_
  refine sP (opp_cmp rfl rfl rfl rfl) rfl rfl ?_
  refine sP (opp_mv (v := .bool _) rfl rfl) rfl rfl ?_
  refine sG _ rfl rfl rfl rfl (fun hg => (And.intro gi (True.intro))) (fun hg => opp_mv (v := .int _ _) rfl rfl) ?_
  refine sG _ rfl rfl rfl rfl (fun hg => (And.intro gi (And.intro gi (True.intro)))) (fun hg => opp_cmp rfl rfl rfl rfl) ?_
  refine sPick rfl rfl rfl rfl (by exact True.intro) rfl rfl (fun hg => gi) (fun hg => gi) ?_
  refine sP (opp_as (v := .bool _) rfl rfl) rfl rfl ?_
  refine awp_ret ?_
  repeat (first | refine athen_ret ?_ | refine ain_ret ?_)
  first
    | refine apost_ret (aend1 (r0 := .bool _) (.tmp .nil) (.noN rfl rfl) ⟨Wk.v ?_, rfl, rfl⟩)
    | refine apost_ret (aend1s (r0 := .bool _) (.tmp .nil) shut rfl ⟨Wk.v ?_, rfl, rfl⟩)
  refine .of (congrArg AV.bool ?_)
  simp only [cmpI, Sp.goodPart, Sp.within]; by_cases h1 : 0 ≤ a <;> simp [h1]; omega
theorem c105 (x : Xid) : APure (V ea cds gl) 105 [xidAV x] false (.bool (Sp.goodXid x)) := by
  refine acalls_of_body (N := 31) Tryd.func105 rfl rfl (Nat.le_of_ble_eq_true rfl) fun C hV hN hM hO => ?_
  obtain ⟨_, _, w0, G0, σ0, _, own0⟩ := C; dsimp only at hV hN hM hO; subst hV; subst hN; subst hM
  refine awp_seq ?_
  refine awp_region rfl ?_
  refine sR (opr_box (y := .agg _) (n := 1) rfl rfl rfl) rfl rfl rfl ?_
  refine sP (opp_as (v := .bool _) rfl rfl) rfl rfl ?_
  refine awp_seq ?_
  refine awp_region rfl ?_
  first
    | refine sP (opp_fieldP rfl rfl fld23_0 rfl) rfl rfl ?_
    | refine sP (opp_fieldF rfl rfl rfl fld23_0 rfl rfl) rfl rfl ?_
  first
    | refine sP (opp_loadP rfl rfl rfl rfl bi rfl ty3) rfl rfl ?_
    | refine sP (opp_loadF rfl rfl ty3) rfl rfl ?_
  refine sP (opp_cmp rfl rfl rfl rfl) rfl rfl ?_
  refine sP (opp_mv (v := .bool _) rfl rfl) rfl rfl ?_
  first
    | refine sG _ rfl rfl rfl rfl (fun hg => (And.intro gi (True.intro))) (fun hg => opp_fieldP rfl rfl fld23_0 rfl) ?_
    | refine sG _ rfl rfl rfl rfl (fun hg => (And.intro gi (True.intro))) (fun hg => opp_fieldF rfl rfl rfl fld23_0 rfl rfl) ?_
  first
    | refine sG _ rfl rfl rfl rfl (fun hg => (And.intro gi (True.intro))) (fun hg => opp_loadP rfl rfl rfl rfl bi rfl ty3) ?_
    | refine sG _ rfl rfl rfl rfl (fun hg => (And.intro gi (True.intro))) (fun hg => opp_loadF rfl rfl ty3) ?_
  refine sG _ rfl rfl rfl rfl (fun hg => (And.intro gi (And.intro gi (True.intro)))) (fun hg => opp_cmp rfl rfl rfl rfl) ?_
  refine sPick rfl rfl rfl rfl (by exact True.intro) rfl rfl (fun hg => gi) (fun hg => gi) ?_
  refine sP (opp_mv (v := .bool _) rfl rfl) rfl rfl ?_
  first
    | refine sG _ rfl rfl rfl rfl (fun hg => (And.intro gi (True.intro))) (fun hg => opp_fieldP rfl rfl fld23_1 rfl) ?_
    | refine sG _ rfl rfl rfl rfl (fun hg => (And.intro gi (True.intro))) (fun hg => opp_fieldF rfl rfl rfl fld23_1 rfl rfl) ?_
  first
    | refine sG _ rfl rfl rfl rfl (fun hg => (And.intro gi (True.intro))) (fun hg => opp_loadP rfl rfl rfl rfl bi rfl ty3) ?_
    | refine sG _ rfl rfl rfl rfl (fun hg => (And.intro gi (True.intro))) (fun hg => opp_loadF rfl rfl ty3) ?_
  refine sG _ rfl rfl rfl rfl (fun hg => (And.intro gi (And.intro gi (True.intro)))) (fun hg => opp_cmp rfl rfl rfl rfl) ?_
  refine sPick rfl rfl rfl rfl (by exact True.intro) rfl rfl (fun hg => gi) (fun hg => gi) ?_
  refine sP (opp_mv (v := .bool _) rfl rfl) rfl rfl ?_
  first
    | refine sG _ rfl rfl rfl rfl (fun hg => (And.intro gi (True.intro))) (fun hg => opp_fieldP rfl rfl fld23_1 rfl) ?_
    | refine sG _ rfl rfl rfl rfl (fun hg => (And.intro gi (True.intro))) (fun hg => opp_fieldF rfl rfl rfl fld23_1 rfl rfl) ?_
  first
    | refine sG _ rfl rfl rfl rfl (fun hg => (And.intro gi (True.intro))) (fun hg => opp_loadP rfl rfl rfl rfl bi rfl ty3) ?_
    | refine sG _ rfl rfl rfl rfl (fun hg => (And.intro gi (True.intro))) (fun hg => opp_loadF rfl rfl ty3) ?_
  refine sG _ rfl rfl rfl rfl (fun hg => (And.intro gi (And.intro gi (True.intro)))) (fun hg => opp_cmp rfl rfl rfl rfl) ?_
  refine sPick rfl rfl rfl rfl (by exact True.intro) rfl rfl (fun hg => gi) (fun hg => gi) ?_
  refine sP (opp_mv (v := .bool _) rfl rfl) rfl rfl ?_
  first
    | refine sG _ rfl rfl rfl rfl (fun hg => (And.intro gi (True.intro))) (fun hg => opp_fieldP rfl rfl fld23_2 rfl) ?_
    | refine sG _ rfl rfl rfl rfl (fun hg => (And.intro gi (True.intro))) (fun hg => opp_fieldF rfl rfl rfl fld23_2 rfl rfl) ?_
  first
    | refine sG _ rfl rfl rfl rfl (fun hg => (And.intro gi (True.intro))) (fun hg => opp_loadP rfl rfl rfl rfl bi rfl ty3) ?_
    | refine sG _ rfl rfl rfl rfl (fun hg => (And.intro gi (True.intro))) (fun hg => opp_loadF rfl rfl ty3) ?_
  refine sG _ rfl rfl rfl rfl (fun hg => (And.intro gi (And.intro gi (True.intro)))) (fun hg => opp_cmp rfl rfl rfl rfl) ?_
  refine sPick rfl rfl rfl rfl (by exact True.intro) rfl rfl (fun hg => gi) (fun hg => gi) ?_
  refine sP (opp_mv (v := .bool _) rfl rfl) rfl rfl ?_
  first
    | refine sG _ rfl rfl rfl rfl (fun hg => (And.intro gi (True.intro))) (fun hg => opp_fieldP rfl rfl fld23_2 rfl) ?_
    | refine sG _ rfl rfl rfl rfl (fun hg => (And.intro gi (True.intro))) (fun hg => opp_fieldF rfl rfl rfl fld23_2 rfl rfl) ?_
  first
    | refine sG _ rfl rfl rfl rfl (fun hg => (And.intro gi (True.intro))) (fun hg => opp_loadP rfl rfl rfl rfl bi rfl ty3) ?_
    | refine sG _ rfl rfl rfl rfl (fun hg => (And.intro gi (True.intro))) (fun hg => opp_loadF rfl rfl ty3) ?_
  refine sG _ rfl rfl rfl rfl (fun hg => (And.intro gi (And.intro gi (True.intro)))) (fun hg => opp_cmp rfl rfl rfl rfl) ?_
  refine sPick rfl rfl rfl rfl (by exact True.intro) rfl rfl (fun hg => gi) (fun hg => gi) ?_
  refine sP (opp_as (v := .bool _) rfl rfl) rfl rfl ?_
  refine awp_ret ?_
  repeat (first | refine athen_ret ?_ | refine ain_ret ?_)
  first
    | refine apost_ret (aend1 (r0 := .bool _) (.tmp .nil) (.noN rfl rfl) ⟨Wk.v ?_, rfl, rfl⟩)
    | refine apost_ret (aend1s (r0 := .bool _) (.tmp .nil) shut rfl ⟨Wk.v ?_, rfl, rfl⟩)
  refine .of (congrArg AV.bool ?_)
  simp only [cmpI, Sp.goodXid, Sp.within]
  by_cases h1 : 1 ≤ x.boot <;> by_cases h2 : x.boot ≤ 2147483647 <;> by_cases h3 : 1 ≤ x.peer <;> by_cases h4 : x.peer ≤ 2147483647 <;> by_cases h5 : 1 ≤ x.num <;> by_cases h6 : x.num ≤ 2147483647 <;> simp [h1, h2, h3, h4, h5, h6]
/-- The first i pieces. -/
def notesTo (p : Int) (x : Xid) (st : Int) (im : List UInt8) (i : Nat) : List Note := (List.range i).map fun j => Sp.cutNote p x st im j j (Sp.total im)
end
end Go.Proofs.YtgaihhimkodmmaaDoor
/- Layer 22: the fixed fact of the layer's laws (walks over this dump). -/
namespace Go.Proofs.YtgaihhimkodmmaaDoor
attribute [local irreducible] Tryd.prog
open Go.Fy
set_option linter.unusedSimpArgs false
section
variable {ea : Nat → Addr} {cds : List Nat} {gl : Nat → Option AV}
section
variable (hG3 : gl 3 = some (.err (.code 9))) (hG4 : gl 4 = some (.err (.code 7))) (hG5 : gl 5 = some (.err (.code 10))) (hG2 : gl 2 = some (.err (.code 12))) (hG7 : gl 7 = some (.err (.code 14))) (hG8 : gl 8 = some (.err (.code 4))) (hG6 : gl 6 = some (.err (.code 11)))
include hG3 hG4 hG5 hG2 hG7 hG8
end
end
end Go.Proofs.YtgaihhimkodmmaaDoor
/- Layer 22: XferStarts: what Start answers is the document's answer: true (walks over this dump). -/
namespace Go.Proofs.YtgaihhimkodmmaaDoor
attribute [local irreducible] Tryd.prog
open Go.Fy
set_option linter.unusedSimpArgs false
set_option linter.unusedVariables false
section
variable {ea : Nat → Addr} {cds : List Nat} {gl : Nat → Option AV}
end
end Go.Proofs.YtgaihhimkodmmaaDoor
/- Layer 22: boundaries, acknowledgements (walks over this dump). -/
namespace Go.Proofs.YtgaihhimkodmmaaDoor
attribute [local irreducible] Tryd.prog
open Go.Fy
set_option linter.unusedSimpArgs false
section
variable {ea : Nat → Addr} {cds : List Nat} {gl : Nat → Option AV}
end
end Go.Proofs.YtgaihhimkodmmaaDoor
/- The document's answers for layers 20 and 22: a note in form; boundaries, acknowledgements (walks over this dump). -/
namespace Go.Proofs.YtgaihhimkodmmaaDoor
attribute [local irreducible] Tryd.prog
open Go.Fy
set_option linter.unusedSimpArgs false
set_option linter.unusedVariables false
section
variable {ea : Nat → Addr} {cds : List Nat} {gl : Nat → Option AV}
theorem c116 (i t n : Int) : APure (V ea cds gl) 116 [.int .i64 i, .int .i64 t, .int .i64 n] false (.bool (Sp.goodLenW n i t)) := by
  refine acalls_of_body (N := 19) Tryd.func116 rfl rfl (Nat.le_of_ble_eq_true rfl) fun C hV hN hM hO => ?_
  obtain ⟨_, _, w0, G0, σ0, _, own0⟩ := C; dsimp only at hV hN hM hO; subst hV; subst hN; subst hM
  refine awp_seq ?_
  refine awp_region rfl ?_
  refine sP (opp_as (v := .bool _) rfl rfl) rfl rfl ?_
  refine awp_seq ?_
  refine awp_seq ?_
  refine awp_region rfl ?_
  refine sP (opp_mv (v := .int _ _) rfl rfl) rfl rfl ?_
  refine sP (opp_mv (v := .int _ _) rfl rfl) rfl rfl ?_
  first
    | refine sP (opp_arith rfl rfl rfl (.inr <| .inl ⟨rfl, w64 (by omega)⟩)) rfl rfl ?_
    | refine sP (opp_arith rfl rfl rfl (.inr <| .inl ⟨rfl, rfl⟩)) rfl rfl ?_
  refine sP (opp_cmp rfl rfl rfl rfl) rfl rfl ?_
  refine awp_cond _ rfl (fun hc3 => ?_) (fun hc3 => ?_)
  · (try simp only [cmpI, errD_nil, Bool.not_eq_true', Bool.not_eq_false', decide_eq_true_eq, decide_eq_false_iff_not] at hc3); have ht10 := hc3
    refine awp_seq ?_
    refine awp_region rfl ?_
    refine sP (opp_mv (v := .int _ _) rfl rfl) rfl rfl ?_
    refine sP (opp_cmp rfl rfl rfl rfl) rfl rfl ?_
    refine sP (opp_mv (v := .bool _) rfl rfl) rfl rfl ?_
    refine sG _ rfl rfl rfl rfl (fun hg => (And.intro gi (True.intro))) (fun hg => opp_mv (v := .int _ _) rfl rfl) ?_
    refine sG _ rfl rfl rfl rfl (fun hg => (And.intro gi (And.intro gi (True.intro)))) (fun hg => opp_cmp rfl rfl rfl rfl) ?_
    refine sPick rfl rfl rfl rfl (by exact True.intro) rfl rfl (fun hg => gi) (fun hg => gi) ?_
    refine sP (opp_as (v := .bool _) rfl rfl) rfl rfl ?_
    refine awp_ret ?_
    repeat (first | refine athen_ret ?_ | refine ain_ret ?_)
    first
      | refine apost_ret (aend1 (r0 := .bool _) (.tmp .nil) (.noN rfl rfl) ⟨Wk.v ?_, rfl, rfl⟩)
      | refine apost_ret (aend1s (r0 := .bool _) (.tmp .nil) shut rfl ⟨Wk.v ?_, rfl, rfl⟩)
    refine .of (congrArg AV.bool ?_)
    rw [Sp.goodLenW, if_pos (by simpa using ht10)]; simp only [cmpI, Sp.within]; by_cases h1 : 1 ≤ n <;> simp [h1]
  · (try simp only [cmpI, errD_nil, Bool.not_eq_true', Bool.not_eq_false', decide_eq_true_eq, decide_eq_false_iff_not] at hc3); have ht10 := hc3
    refine awp_skip ?_
    refine awp_seq ?_
    refine awp_region rfl ?_
    refine sP (opp_mv (v := .int _ _) rfl rfl) rfl rfl ?_
    refine sP (opp_cmp rfl rfl rfl rfl) rfl rfl ?_
    refine sP (opp_as (v := .bool _) rfl rfl) rfl rfl ?_
    refine awp_ret ?_
    repeat (first | refine athen_ret ?_ | refine ain_ret ?_)
    first
      | refine apost_ret (aend1 (r0 := .bool _) (.tmp .nil) (.noN rfl rfl) ⟨Wk.v ?_, rfl, rfl⟩)
      | refine apost_ret (aend1s (r0 := .bool _) (.tmp .nil) shut rfl ⟨Wk.v ?_, rfl, rfl⟩)
    refine .of (congrArg AV.bool ?_)
    rw [Sp.goodLenW, if_neg (by simpa using ht10)]; simp [cmpI]
/-- Is a note of a right kind in form? -/
def rangesB (n : Note) : Bool := Sp.goodPart n.part && Sp.goodXid n.xid && (decide (n.sum = 0) || decide (n.kind = 2)) && (if Sp.staged n.kind then Sp.goodStage n.stage else decide (n.stage = 0)) && Sp.pieces n
theorem check_ranges {n : Note} : Sp.check n = if Sp.within n.kind 1 7 = false then 7 else if rangesB n = false then 4 else 0 := by
  unfold Sp.check
  split
  · rfl
  · congr 1
    rw [eq_iff_iff]
    unfold rangesB
    cases Sp.goodPart n.part <;> cases Sp.goodXid n.xid <;> cases Sp.pieces n <;> by_cases h1 : n.sum = 0 <;> by_cases h2 : n.kind = 2 <;> simp [h1, h2]
theorem c72 (n : Note) : APure (V ea cds gl) 72 [noteAV n] false (.bool (rangesB n)) := by
  refine acalls_of_body (N := 122) Tryd.func72 rfl rfl (Nat.le_of_ble_eq_true rfl) fun C hV hN hM hO => ?_
  obtain ⟨_, _, w0, G0, σ0, _, own0⟩ := C; dsimp only at hV hN hM hO; subst hV; subst hN; subst hM
  refine awp_seq ?_
  refine awp_region rfl ?_
  refine sR (opr_box (y := .agg _) (n := 1) rfl rfl rfl) rfl rfl rfl ?_
  refine sP (opp_as (v := .bool _) rfl rfl) rfl rfl ?_
  refine awp_seq ?_
  refine awp_region rfl ?_
  first
    | refine sP (opp_fieldP rfl rfl fld26_0 rfl) rfl rfl ?_
    | refine sP (opp_fieldF rfl rfl rfl fld26_0 rfl rfl) rfl rfl ?_
  first
    | refine sP (opp_loadP rfl rfl rfl rfl bi rfl ty3) rfl rfl ?_
    | refine sP (opp_loadF rfl rfl ty3) rfl rfl ?_
  refine sP (opp_cmp rfl rfl rfl rfl) rfl rfl ?_
  refine sP (opp_mv (v := .bool _) rfl rfl) rfl rfl ?_
  first
    | refine sG _ rfl rfl rfl rfl (fun hg => (And.intro gi (True.intro))) (fun hg => opp_fieldP rfl rfl fld26_0 rfl) ?_
    | refine sG _ rfl rfl rfl rfl (fun hg => (And.intro gi (True.intro))) (fun hg => opp_fieldF rfl rfl rfl fld26_0 rfl rfl) ?_
  first
    | refine sG _ rfl rfl rfl rfl (fun hg => (And.intro gi (True.intro))) (fun hg => opp_loadP rfl rfl rfl rfl bi rfl ty3) ?_
    | refine sG _ rfl rfl rfl rfl (fun hg => (And.intro gi (True.intro))) (fun hg => opp_loadF rfl rfl ty3) ?_
  refine sG _ rfl rfl rfl rfl (fun hg => (And.intro gi (And.intro gi (True.intro)))) (fun hg => opp_cmp rfl rfl rfl rfl) ?_
  refine sPick rfl rfl rfl rfl (by exact True.intro) rfl rfl (fun hg => gi) (fun hg => gi) ?_
  refine sP (opp_mv (v := .bool _) rfl rfl) rfl rfl ?_
  first
    | refine sG _ rfl rfl rfl rfl (fun hg => (And.intro gi (True.intro))) (fun hg => opp_fieldP rfl rfl fld26_0 rfl) ?_
    | refine sG _ rfl rfl rfl rfl (fun hg => (And.intro gi (True.intro))) (fun hg => opp_fieldF rfl rfl rfl fld26_0 rfl rfl) ?_
  first
    | refine sG _ rfl rfl rfl rfl (fun hg => (And.intro gi (True.intro))) (fun hg => opp_loadP rfl rfl rfl rfl bi rfl ty3) ?_
    | refine sG _ rfl rfl rfl rfl (fun hg => (And.intro gi (True.intro))) (fun hg => opp_loadF rfl rfl ty3) ?_
  refine sG _ rfl rfl rfl rfl (fun hg => (And.intro gi (And.intro gi (True.intro)))) (fun hg => opp_cmp rfl rfl rfl rfl) ?_
  refine sPick rfl rfl rfl rfl (by exact True.intro) rfl rfl (fun hg => gi) (fun hg => gi) ?_
  refine sP (opp_mv (v := .bool _) rfl rfl) rfl rfl ?_
  first
    | refine sG _ rfl rfl rfl rfl (fun hg => (And.intro gi (True.intro))) (fun hg => opp_fieldP rfl rfl fld26_0 rfl) ?_
    | refine sG _ rfl rfl rfl rfl (fun hg => (And.intro gi (True.intro))) (fun hg => opp_fieldF rfl rfl rfl fld26_0 rfl rfl) ?_
  first
    | refine sG _ rfl rfl rfl rfl (fun hg => (And.intro gi (True.intro))) (fun hg => opp_loadP rfl rfl rfl rfl bi rfl ty3) ?_
    | refine sG _ rfl rfl rfl rfl (fun hg => (And.intro gi (True.intro))) (fun hg => opp_loadF rfl rfl ty3) ?_
  refine sG _ rfl rfl rfl rfl (fun hg => (And.intro gi (And.intro gi (True.intro)))) (fun hg => opp_cmp rfl rfl rfl rfl) ?_
  refine sPick rfl rfl rfl rfl (by exact True.intro) rfl rfl (fun hg => gi) (fun hg => gi) ?_
  refine sP (opp_as (v := .bool _) rfl rfl) rfl rfl ?_
  refine awp_seq ?_
  refine awp_region rfl ?_
  first
    | refine sP (opp_fieldP rfl rfl fld26_0 rfl) rfl rfl ?_
    | refine sP (opp_fieldF rfl rfl rfl fld26_0 rfl rfl) rfl rfl ?_
  first
    | refine sP (opp_loadP rfl rfl rfl rfl bi rfl ty3) rfl rfl ?_
    | refine sP (opp_loadF rfl rfl ty3) rfl rfl ?_
  refine sP (opp_cmp rfl rfl rfl rfl) rfl rfl ?_
  refine sP (opp_mv (v := .bool _) rfl rfl) rfl rfl ?_
  first
    | refine sG _ rfl rfl rfl rfl (fun hg => (And.intro gi (True.intro))) (fun hg => opp_fieldP rfl rfl fld26_0 rfl) ?_
    | refine sG _ rfl rfl rfl rfl (fun hg => (And.intro gi (True.intro))) (fun hg => opp_fieldF rfl rfl rfl fld26_0 rfl rfl) ?_
  first
    | refine sG _ rfl rfl rfl rfl (fun hg => (And.intro gi (True.intro))) (fun hg => opp_loadP rfl rfl rfl rfl bi rfl ty3) ?_
    | refine sG _ rfl rfl rfl rfl (fun hg => (And.intro gi (True.intro))) (fun hg => opp_loadF rfl rfl ty3) ?_
  refine sG _ rfl rfl rfl rfl (fun hg => (And.intro gi (And.intro gi (True.intro)))) (fun hg => opp_cmp rfl rfl rfl rfl) ?_
  refine sPick rfl rfl rfl rfl (by exact True.intro) rfl rfl (fun hg => gi) (fun hg => gi) ?_
  refine sP (opp_as (v := .bool _) rfl rfl) rfl rfl ?_
  refine awp_seq ?_
  refine awp_seq ?_
  refine awp_region rfl ?_
  first
    | refine sP (opp_fieldP rfl rfl fld26_1 rfl) rfl rfl ?_
    | refine sP (opp_fieldF rfl rfl rfl fld26_1 rfl rfl) rfl rfl ?_
  first
    | refine sP (opp_loadP rfl rfl rfl rfl bi rfl ty3) rfl rfl ?_
    | refine sP (opp_loadF rfl rfl ty3) rfl rfl ?_
  refine sR (opr_call rfl rfl ent104 rfl (c104 _) (AViews.refl _ rfl)) rfl rfl rfl ?_ -- d=33 t=4
  refine sP (opp_not rfl rfl) rfl rfl ?_
  refine sP (opp_mv (v := .bool _) rfl rfl) rfl rfl ?_
  first
    | refine sG _ rfl rfl rfl rfl (fun hg => (And.intro gi (True.intro))) (fun hg => opp_fieldP rfl rfl fld26_2 rfl) ?_
    | refine sG _ rfl rfl rfl rfl (fun hg => (And.intro gi (True.intro))) (fun hg => opp_fieldF rfl rfl rfl fld26_2 rfl rfl) ?_
  first
    | refine sG _ rfl rfl rfl rfl (fun hg => (And.intro gi (True.intro))) (fun hg => opp_loadP rfl rfl rfl rfl bi rfl ty23) ?_
    | refine sG _ rfl rfl rfl rfl (fun hg => (And.intro gi (True.intro))) (fun hg => opp_loadF rfl rfl ty23) ?_
  refine sGR _ rfl rfl rfl rfl (fun hg => (And.intro gi (And.intro gi (True.intro)))) (fun hg => (opr_call rfl rfl ent105 rfl (c105 _) (AViews.refl _ rfl))) ?_
  refine sG _ rfl rfl rfl rfl (fun hg => (And.intro gi (True.intro))) (fun hg => opp_not rfl rfl) ?_
  refine sPick rfl rfl rfl rfl (by exact True.intro) rfl rfl (fun hg => gi) (fun hg => gi) ?_
  refine sP (opp_mv (v := .bool _) rfl rfl) rfl rfl ?_
  first
    | refine sG _ rfl rfl rfl rfl (fun hg => (And.intro gi (True.intro))) (fun hg => opp_fieldP rfl rfl fld26_6 rfl) ?_
    | refine sG _ rfl rfl rfl rfl (fun hg => (And.intro gi (True.intro))) (fun hg => opp_fieldF rfl rfl rfl fld26_6 rfl rfl) ?_
  first
    | refine sG _ rfl rfl rfl rfl (fun hg => (And.intro gi (True.intro))) (fun hg => opp_loadP rfl rfl rfl rfl bi rfl ty24) ?_
    | refine sG _ rfl rfl rfl rfl (fun hg => (And.intro gi (True.intro))) (fun hg => opp_loadF rfl rfl ty24) ?_
  refine sG _ rfl rfl rfl rfl (fun hg => (And.intro gi (And.intro gi (True.intro)))) (fun hg => opp_cmp rfl rfl rfl rfl) ?_
  refine sG _ rfl rfl rfl rfl (fun hg => (And.intro gi (True.intro))) (fun hg => opp_mv (v := .bool _) rfl rfl) ?_
  first
    | refine sG _ rfl rfl rfl rfl (fun hg => (And.intro gi (True.intro))) (fun hg => opp_fieldP rfl rfl fld26_0 rfl) ?_
    | refine sG _ rfl rfl rfl rfl (fun hg => (And.intro gi (True.intro))) (fun hg => opp_fieldF rfl rfl rfl fld26_0 rfl rfl) ?_
  first
    | refine sG _ rfl rfl rfl rfl (fun hg => (And.intro gi (True.intro))) (fun hg => opp_loadP rfl rfl rfl rfl bi rfl ty3) ?_
    | refine sG _ rfl rfl rfl rfl (fun hg => (And.intro gi (True.intro))) (fun hg => opp_loadF rfl rfl ty3) ?_
  refine sG _ rfl rfl rfl rfl (fun hg => (And.intro gi (And.intro gi (True.intro)))) (fun hg => opp_cmp rfl rfl rfl rfl) ?_
  refine sPickG _ rfl rfl rfl rfl rfl rfl (fun hg => by first | exact True.intro | exact And.intro hg True.intro | (refine And.intro ?_ True.intro; simp_all; done)) rfl rfl (fun h0 hg => g2) (fun h0 hg => g2) ?_
  refine sPick rfl rfl rfl rfl (by exact True.intro) rfl rfl (fun hg => gi) (fun hg => gi) ?_
  refine awp_cond _ rfl (fun hc5 => ?_) (fun hc5 => ?_)
  · (try simp only [cmpI, errD_nil, Bool.not_eq_true', Bool.not_eq_false', decide_eq_true_eq, decide_eq_false_iff_not] at hc5); have ht50 := hc5
    refine awp_seq ?_
    refine awp_region rfl ?_
    refine sP (opp_as (v := .bool _) rfl rfl) rfl rfl ?_
    refine awp_ret ?_
    repeat (first | refine athen_ret ?_ | refine ain_ret ?_)
    first
      | refine apost_ret (aend1 (r0 := .bool _) (.tmp .nil) (.noN rfl rfl) ⟨Wk.v ?_, rfl, rfl⟩)
      | refine apost_ret (aend1s (r0 := .bool _) (.tmp .nil) shut rfl ⟨Wk.v ?_, rfl, rfl⟩)
    refine .of (congrArg AV.bool ?_)
    symm; unfold rangesB; revert ht50; cases Sp.goodPart n.part <;> cases Sp.goodXid n.xid <;> by_cases h1 : n.sum = 0 <;> by_cases h2 : n.kind = 2 <;> simp [cmpI, h1, h2]
  · (try simp only [cmpI, errD_nil, Bool.not_eq_true', Bool.not_eq_false', decide_eq_true_eq, decide_eq_false_iff_not] at hc5); have ht50 := hc5
    refine awp_skip ?_
    refine awp_seq ?_
    refine awp_seq ?_
    have hA : Sp.goodPart n.part = true ∧ Sp.goodXid n.xid = true ∧ (decide (n.sum = 0) || decide (n.kind = 2)) = true := by
      revert ht50; cases Sp.goodPart n.part <;> cases Sp.goodXid n.xid <;> by_cases h1 : n.sum = 0 <;> by_cases h2 : n.kind = 2 <;> simp [cmpI, h1, h2]
    refine awp_region rfl ?_
    refine sP (opp_mv (v := .bool _) rfl rfl) rfl rfl ?_
    refine sP (opp_mv (v := .bool _) rfl rfl) rfl rfl ?_
    first
      | refine sG _ rfl rfl rfl rfl (fun hg => (And.intro gi (True.intro))) (fun hg => opp_fieldP rfl rfl fld26_3 rfl) ?_
      | refine sG _ rfl rfl rfl rfl (fun hg => (And.intro gi (True.intro))) (fun hg => opp_fieldF rfl rfl rfl fld26_3 rfl rfl) ?_
    first
      | refine sG _ rfl rfl rfl rfl (fun hg => (And.intro gi (True.intro))) (fun hg => opp_loadP rfl rfl rfl rfl bi rfl ty3) ?_
      | refine sG _ rfl rfl rfl rfl (fun hg => (And.intro gi (True.intro))) (fun hg => opp_loadF rfl rfl ty3) ?_
    refine sG _ rfl rfl rfl rfl (fun hg => (And.intro gi (And.intro gi (True.intro)))) (fun hg => opp_cmp rfl rfl rfl rfl) ?_
    refine sPick rfl rfl rfl rfl (by exact True.intro) rfl rfl (fun hg => gi) (fun hg => gi) ?_
    refine sP (opp_mv (v := .bool _) rfl rfl) rfl rfl ?_
    first
      | refine sG _ rfl rfl rfl rfl (fun hg => (And.intro gi (True.intro))) (fun hg => opp_fieldP rfl rfl fld26_3 rfl) ?_
      | refine sG _ rfl rfl rfl rfl (fun hg => (And.intro gi (True.intro))) (fun hg => opp_fieldF rfl rfl rfl fld26_3 rfl rfl) ?_
    first
      | refine sG _ rfl rfl rfl rfl (fun hg => (And.intro gi (True.intro))) (fun hg => opp_loadP rfl rfl rfl rfl bi rfl ty3) ?_
      | refine sG _ rfl rfl rfl rfl (fun hg => (And.intro gi (True.intro))) (fun hg => opp_loadF rfl rfl ty3) ?_
    refine sG _ rfl rfl rfl rfl (fun hg => (And.intro gi (And.intro gi (True.intro)))) (fun hg => opp_cmp rfl rfl rfl rfl) ?_
    refine sPick rfl rfl rfl rfl (by exact True.intro) rfl rfl (fun hg => gi) (fun hg => gi) ?_
    refine sP (opp_mv (v := .bool _) rfl rfl) rfl rfl ?_
    refine sG _ rfl rfl rfl rfl (fun hg => (And.intro gi (True.intro))) (fun hg => opp_mv (v := .bool _) rfl rfl) ?_
    refine sG _ rfl rfl rfl rfl (fun hg => (And.intro gi (True.intro))) (fun hg => opp_not rfl rfl) ?_
    refine sG _ rfl rfl rfl rfl (fun hg => (And.intro gi (True.intro))) (fun hg => opp_mv (v := .bool _) rfl rfl) ?_
    first
      | refine sG _ rfl rfl rfl rfl (fun hg => (And.intro gi (True.intro))) (fun hg => opp_fieldP rfl rfl fld26_3 rfl) ?_
      | refine sG _ rfl rfl rfl rfl (fun hg => (And.intro gi (True.intro))) (fun hg => opp_fieldF rfl rfl rfl fld26_3 rfl rfl) ?_
    first
      | refine sG _ rfl rfl rfl rfl (fun hg => (And.intro gi (True.intro))) (fun hg => opp_loadP rfl rfl rfl rfl bi rfl ty3) ?_
      | refine sG _ rfl rfl rfl rfl (fun hg => (And.intro gi (True.intro))) (fun hg => opp_loadF rfl rfl ty3) ?_
    refine sG _ rfl rfl rfl rfl (fun hg => (And.intro gi (And.intro gi (True.intro)))) (fun hg => opp_cmp rfl rfl rfl rfl) ?_
    refine sPickG _ rfl rfl rfl rfl rfl rfl (fun hg => by first | exact True.intro | exact And.intro hg True.intro | (refine And.intro ?_ True.intro; simp_all; done)) rfl rfl (fun h0 hg => g2) (fun h0 hg => g2) ?_
    refine sPick rfl rfl rfl rfl (by exact True.intro) rfl rfl (fun hg => gi) (fun hg => gi) ?_
    refine awp_cond _ rfl (fun hc8 => ?_) (fun hc8 => ?_)
    · (try simp only [cmpI, errD_nil, Bool.not_eq_true', Bool.not_eq_false', decide_eq_true_eq, decide_eq_false_iff_not] at hc8); have ht70 := hc8
      refine awp_seq ?_
      refine awp_region rfl ?_
      refine sP (opp_as (v := .bool _) rfl rfl) rfl rfl ?_
      refine awp_ret ?_
      repeat (first | refine athen_ret ?_ | refine ain_ret ?_)
      first
        | refine apost_ret (aend1 (r0 := .bool _) (.tmp .nil) (.noN rfl rfl) ⟨Wk.v ?_, rfl, rfl⟩)
        | refine apost_ret (aend1s (r0 := .bool _) (.tmp .nil) shut rfl ⟨Wk.v ?_, rfl, rfl⟩)
      refine .of (congrArg AV.bool ?_)
      have hB : (if Sp.staged n.kind then Sp.goodStage n.stage else decide (n.stage = 0)) = false := by
        revert ht70; unfold Sp.staged Sp.goodStage; by_cases h1 : n.kind = 1 <;> by_cases h2 : n.kind = 7 <;> by_cases h3 : n.kind = 2 <;> by_cases h4 : n.kind = 3 <;> by_cases h5 : n.stage = 1 <;> by_cases h6 : n.stage = 2 <;> by_cases h7 : n.stage = 0 <;> simp [cmpI, h1, h2, h3, h4, h5, h6, h7] <;> omega
      symm; unfold rangesB; rw [hB]; simp
    · (try simp only [cmpI, errD_nil, Bool.not_eq_true', Bool.not_eq_false', decide_eq_true_eq, decide_eq_false_iff_not] at hc8); have ht70 := hc8
      refine awp_skip ?_
      refine awp_seq ?_
      refine awp_seq ?_
      have hB : (if Sp.staged n.kind then Sp.goodStage n.stage else decide (n.stage = 0)) = true := by
        revert ht70; unfold Sp.staged Sp.goodStage; by_cases h1 : n.kind = 1 <;> by_cases h2 : n.kind = 7 <;> by_cases h3 : n.kind = 2 <;> by_cases h4 : n.kind = 3 <;> by_cases h5 : n.stage = 1 <;> by_cases h6 : n.stage = 2 <;> by_cases h7 : n.stage = 0 <;> simp [cmpI, h1, h2, h3, h4, h5, h6, h7] <;> omega
      refine awp_region rfl ?_
      refine sP (opp_mv (v := .bool _) rfl rfl) rfl rfl ?_
      refine sP (opp_mv (v := .bool _) rfl rfl) rfl rfl ?_
      first
        | refine sG _ rfl rfl rfl rfl (fun hg => (And.intro gi (True.intro))) (fun hg => opp_fieldP rfl rfl fld26_5 rfl) ?_
        | refine sG _ rfl rfl rfl rfl (fun hg => (And.intro gi (True.intro))) (fun hg => opp_fieldF rfl rfl rfl fld26_5 rfl rfl) ?_
      first
        | refine sG _ rfl rfl rfl rfl (fun hg => (And.intro gi (True.intro))) (fun hg => opp_loadP rfl rfl rfl rfl bi rfl ty3) ?_
        | refine sG _ rfl rfl rfl rfl (fun hg => (And.intro gi (True.intro))) (fun hg => opp_loadF rfl rfl ty3) ?_
      refine sG _ rfl rfl rfl rfl (fun hg => (And.intro gi (And.intro gi (True.intro)))) (fun hg => opp_cmp rfl rfl rfl rfl) ?_
      refine sG _ rfl rfl rfl rfl (fun hg => (And.intro gi (True.intro))) (fun hg => opp_mv (v := .bool _) rfl rfl) ?_
      first
        | refine sG _ rfl rfl rfl rfl (fun hg => (And.intro gi (True.intro))) (fun hg => opp_fieldP rfl rfl fld26_5 rfl) ?_
        | refine sG _ rfl rfl rfl rfl (fun hg => (And.intro gi (True.intro))) (fun hg => opp_fieldF rfl rfl rfl fld26_5 rfl rfl) ?_
      first
        | refine sG _ rfl rfl rfl rfl (fun hg => (And.intro gi (True.intro))) (fun hg => opp_loadP rfl rfl rfl rfl bi rfl ty3) ?_
        | refine sG _ rfl rfl rfl rfl (fun hg => (And.intro gi (True.intro))) (fun hg => opp_loadF rfl rfl ty3) ?_
      refine sG _ rfl rfl rfl rfl (fun hg => (And.intro gi (And.intro gi (True.intro)))) (fun hg => opp_cmp rfl rfl rfl rfl) ?_
      refine sPickG _ rfl rfl rfl rfl rfl rfl (fun hg => by first | exact True.intro | exact And.intro hg True.intro | (refine And.intro ?_ True.intro; simp_all; done)) rfl rfl (fun h0 hg => g2) (fun h0 hg => g2) ?_
      refine sG _ rfl rfl rfl rfl (fun hg => (And.intro gi (True.intro))) (fun hg => opp_mv (v := .bool _) rfl rfl) ?_
      first
        | refine sG _ rfl rfl rfl rfl (fun hg => (And.intro gi (True.intro))) (fun hg => opp_fieldP rfl rfl fld26_4 rfl) ?_
        | refine sG _ rfl rfl rfl rfl (fun hg => (And.intro gi (True.intro))) (fun hg => opp_fieldF rfl rfl rfl fld26_4 rfl rfl) ?_
      first
        | refine sG _ rfl rfl rfl rfl (fun hg => (And.intro gi (True.intro))) (fun hg => opp_loadP rfl rfl rfl rfl bi rfl ty3) ?_
        | refine sG _ rfl rfl rfl rfl (fun hg => (And.intro gi (True.intro))) (fun hg => opp_loadF rfl rfl ty3) ?_
      refine sG _ rfl rfl rfl rfl (fun hg => (And.intro gi (And.intro gi (True.intro)))) (fun hg => opp_cmp rfl rfl rfl rfl) ?_
      refine sPickG _ rfl rfl rfl rfl rfl rfl (fun hg => by first | exact True.intro | exact And.intro hg True.intro | (refine And.intro ?_ True.intro; simp_all; done)) rfl rfl (fun h0 hg => g2) (fun h0 hg => g2) ?_
      refine sG _ rfl rfl rfl rfl (fun hg => (And.intro gi (True.intro))) (fun hg => opp_mv (v := .bool _) rfl rfl) ?_
      first
        | refine sG _ rfl rfl rfl rfl (fun hg => (And.intro gi (True.intro))) (fun hg => opp_fieldP rfl rfl fld26_4 rfl) ?_
        | refine sG _ rfl rfl rfl rfl (fun hg => (And.intro gi (True.intro))) (fun hg => opp_fieldF rfl rfl rfl fld26_4 rfl rfl) ?_
      first
        | refine sG _ rfl rfl rfl rfl (fun hg => (And.intro gi (True.intro))) (fun hg => opp_loadP rfl rfl rfl rfl bi rfl ty3) ?_
        | refine sG _ rfl rfl rfl rfl (fun hg => (And.intro gi (True.intro))) (fun hg => opp_loadF rfl rfl ty3) ?_
      first
        | refine sG _ rfl rfl rfl rfl (fun hg => (And.intro gi (True.intro))) (fun hg => opp_fieldP rfl rfl fld26_5 rfl) ?_
        | refine sG _ rfl rfl rfl rfl (fun hg => (And.intro gi (True.intro))) (fun hg => opp_fieldF rfl rfl rfl fld26_5 rfl rfl) ?_
      first
        | refine sG _ rfl rfl rfl rfl (fun hg => (And.intro gi (True.intro))) (fun hg => opp_loadP rfl rfl rfl rfl bi rfl ty3) ?_
        | refine sG _ rfl rfl rfl rfl (fun hg => (And.intro gi (True.intro))) (fun hg => opp_loadF rfl rfl ty3) ?_
      refine sG _ rfl rfl rfl rfl (fun hg => (And.intro gi (And.intro gi (True.intro)))) (fun hg => opp_cmp rfl rfl rfl rfl) ?_
      refine sPickG _ rfl rfl rfl rfl rfl rfl (fun hg => by first | exact True.intro | exact And.intro hg True.intro | (refine And.intro ?_ True.intro; simp_all; done)) rfl rfl (fun h0 hg => g2) (fun h0 hg => g2) ?_
      refine sPick rfl rfl rfl rfl (by exact True.intro) rfl rfl (fun hg => gi) (fun hg => gi) ?_
      refine sP (opp_mv (v := .bool _) rfl rfl) rfl rfl ?_
      refine sG _ rfl rfl rfl rfl (fun hg => (And.intro gi (True.intro))) (fun hg => opp_mv (v := .bool _) rfl rfl) ?_
      refine sG _ rfl rfl rfl rfl (fun hg => (And.intro gi (True.intro))) (fun hg => opp_not rfl rfl) ?_
      refine sG _ rfl rfl rfl rfl (fun hg => (And.intro gi (True.intro))) (fun hg => opp_mv (v := .bool _) rfl rfl) ?_
      first
        | refine sG _ rfl rfl rfl rfl (fun hg => (And.intro gi (True.intro))) (fun hg => opp_fieldP rfl rfl fld26_5 rfl) ?_
        | refine sG _ rfl rfl rfl rfl (fun hg => (And.intro gi (True.intro))) (fun hg => opp_fieldF rfl rfl rfl fld26_5 rfl rfl) ?_
      first
        | refine sG _ rfl rfl rfl rfl (fun hg => (And.intro gi (True.intro))) (fun hg => opp_loadP rfl rfl rfl rfl bi rfl ty3) ?_
        | refine sG _ rfl rfl rfl rfl (fun hg => (And.intro gi (True.intro))) (fun hg => opp_loadF rfl rfl ty3) ?_
      refine sG _ rfl rfl rfl rfl (fun hg => (And.intro gi (And.intro gi (True.intro)))) (fun hg => opp_cmp rfl rfl rfl rfl) ?_
      refine sG _ rfl rfl rfl rfl (fun hg => (And.intro gi (True.intro))) (fun hg => opp_mv (v := .bool _) rfl rfl) ?_
      first
        | refine sG _ rfl rfl rfl rfl (fun hg => (And.intro gi (True.intro))) (fun hg => opp_fieldP rfl rfl fld26_4 rfl) ?_
        | refine sG _ rfl rfl rfl rfl (fun hg => (And.intro gi (True.intro))) (fun hg => opp_fieldF rfl rfl rfl fld26_4 rfl rfl) ?_
      first
        | refine sG _ rfl rfl rfl rfl (fun hg => (And.intro gi (True.intro))) (fun hg => opp_loadP rfl rfl rfl rfl bi rfl ty3) ?_
        | refine sG _ rfl rfl rfl rfl (fun hg => (And.intro gi (True.intro))) (fun hg => opp_loadF rfl rfl ty3) ?_
      refine sG _ rfl rfl rfl rfl (fun hg => (And.intro gi (And.intro gi (True.intro)))) (fun hg => opp_cmp rfl rfl rfl rfl) ?_
      refine sPickG _ rfl rfl rfl rfl rfl rfl (fun hg => by first | exact True.intro | exact And.intro hg True.intro | (refine And.intro ?_ True.intro; simp_all; done)) rfl rfl (fun h0 hg => g2) (fun h0 hg => g2) ?_
      refine sPickG _ rfl rfl rfl rfl rfl rfl (fun hg => by first | exact True.intro | exact And.intro hg True.intro | (refine And.intro ?_ True.intro; simp_all; done)) rfl rfl (fun h0 hg => g2) (fun h0 hg => g2) ?_
      refine sPick rfl rfl rfl rfl (by exact True.intro) rfl rfl (fun hg => gi) (fun hg => gi) ?_
      refine awp_cond _ rfl (fun hc11 => ?_) (fun hc11 => ?_)
      · (try simp only [cmpI, errD_nil, Bool.not_eq_true', Bool.not_eq_false', decide_eq_true_eq, decide_eq_false_iff_not] at hc11); have ht107 := hc11
        refine awp_seq ?_
        refine awp_region rfl ?_
        refine sP (opp_as (v := .bool _) rfl rfl) rfl rfl ?_
        refine awp_ret ?_
        repeat (first | refine athen_ret ?_ | refine ain_ret ?_)
        first
          | refine apost_ret (aend1 (r0 := .bool _) (.tmp .nil) (.noN rfl rfl) ⟨Wk.v ?_, rfl, rfl⟩)
          | refine apost_ret (aend1s (r0 := .bool _) (.tmp .nil) shut rfl ⟨Wk.v ?_, rfl, rfl⟩)
        refine .of (congrArg AV.bool ?_)
        have hC : Sp.pieces n = false := by
          revert ht107; unfold Sp.pieces Sp.within
          by_cases h1 : n.kind = 1
          · by_cases h5 : n.total < 1 <;> by_cases h6 : 32 < n.total <;> by_cases h7 : n.index < 0 <;> by_cases h8 : n.total ≤ n.index <;> simp [cmpI, h1, h5, h6, h7, h8] <;> omega
          · by_cases h2 : n.kind = 7
            · by_cases h5 : n.total < 1 <;> by_cases h6 : 32 < n.total <;> by_cases h7 : n.index < 0 <;> by_cases h8 : n.total ≤ n.index <;> simp [cmpI, h1, h2, h5, h6, h7, h8] <;> omega
            · by_cases h5 : n.total = 0 <;> by_cases h6 : n.index = 0 <;> simp [cmpI, h1, h2, h5, h6]
        symm; unfold rangesB; rw [hC]; simp
      · (try simp only [cmpI, errD_nil, Bool.not_eq_true', Bool.not_eq_false', decide_eq_true_eq, decide_eq_false_iff_not] at hc11); have ht107 := hc11
        refine awp_skip ?_
        refine awp_seq ?_
        refine awp_seq ?_
        have hC : if n.kind = 1 ∨ n.kind = 7 then 1 ≤ n.total ∧ n.total ≤ 32 ∧ 0 ≤ n.index ∧ n.index < n.total else n.total = 0 ∧ n.index = 0 := by
          revert ht107
          by_cases h1 : n.kind = 1
          · by_cases h5 : n.total < 1 <;> by_cases h6 : 32 < n.total <;> by_cases h7 : n.index < 0 <;> by_cases h8 : n.total ≤ n.index <;> simp [cmpI, h1, h5, h6, h7, h8] <;> omega
          · by_cases h2 : n.kind = 7
            · by_cases h5 : n.total < 1 <;> by_cases h6 : 32 < n.total <;> by_cases h7 : n.index < 0 <;> by_cases h8 : n.total ≤ n.index <;> simp [cmpI, h1, h2, h5, h6, h7, h8] <;> omega
            · by_cases h5 : n.total = 0 <;> by_cases h6 : n.index = 0 <;> simp [cmpI, h1, h2, h5, h6]
        refine awp_region rfl ?_
        first
          | refine sP (opp_fieldP rfl rfl fld26_0 rfl) rfl rfl ?_
          | refine sP (opp_fieldF rfl rfl rfl fld26_0 rfl rfl) rfl rfl ?_
        first
          | refine sP (opp_loadP rfl rfl rfl rfl bi rfl ty3) rfl rfl ?_
          | refine sP (opp_loadF rfl rfl ty3) rfl rfl ?_
        refine sP (opp_cmp rfl rfl rfl rfl) rfl rfl ?_
        refine awp_cond _ rfl (fun hc14 => ?_) (fun hc14 => ?_)
        · (try simp only [cmpI, errD_nil, Bool.not_eq_true', Bool.not_eq_false', decide_eq_true_eq, decide_eq_false_iff_not] at hc14); have ht110 := hc14
          refine awp_seq ?_
          refine awp_region rfl ?_
          first
            | refine sP (opp_fieldP rfl rfl fld26_4 rfl) rfl rfl ?_
            | refine sP (opp_fieldF rfl rfl rfl fld26_4 rfl rfl) rfl rfl ?_
          first
            | refine sP (opp_loadP rfl rfl rfl rfl bi rfl ty3) rfl rfl ?_
            | refine sP (opp_loadF rfl rfl ty3) rfl rfl ?_
          first
            | refine sP (opp_fieldP rfl rfl fld26_5 rfl) rfl rfl ?_
            | refine sP (opp_fieldF rfl rfl rfl fld26_5 rfl rfl) rfl rfl ?_
          first
            | refine sP (opp_loadP rfl rfl rfl rfl bi rfl ty3) rfl rfl ?_
            | refine sP (opp_loadF rfl rfl ty3) rfl rfl ?_
          first
            | refine sP (opp_fieldP rfl rfl fld26_7 rfl) rfl rfl ?_
            | refine sP (opp_fieldF rfl rfl rfl fld26_7 rfl rfl) rfl rfl ?_
          first
            | refine sP (opp_loadP rfl rfl rfl rfl bi rfl ty9) rfl rfl ?_
            | refine sP (opp_loadF rfl rfl ty9) rfl rfl ?_
          refine sP (opp_lenStr rfl rfl un9) rfl rfl ?_
          refine sR (opr_call rfl rfl ent116 rfl (c116 _ _ _) (AViews.refl _ rfl)) rfl rfl rfl ?_ -- d=118 t=4
          refine sP (opp_as (v := .bool _) rfl rfl) rfl rfl ?_
          refine awp_ret ?_
          repeat (first | refine athen_ret ?_ | refine ain_ret ?_)
          first
            | refine apost_ret (aend1 (r0 := .bool _) (.tmp .nil) (.noN rfl rfl) ⟨Wk.v ?_, rfl, rfl⟩)
            | refine apost_ret (aend1s (r0 := .bool _) (.tmp .nil) shut rfl ⟨Wk.v ?_, rfl, rfl⟩)
          refine .of (congrArg AV.bool ?_)
          have hk : n.kind = 1 := by simpa using ht110
          rw [if_pos (.inl hk)] at hC
          symm; unfold rangesB; rw [hA.1, hA.2.1, hA.2.2, hB, Sp.pieces, if_pos hk]
          have hw : Sp.goodLenW n.data.length n.index n.total = Sp.goodLen n.data.length n.index n.total := by unfold Sp.goodLenW Sp.goodLen; rw [w64 (by omega)]
          rw [hw]; simp [Sp.within, hC.1, hC.2.1, hC.2.2.1]; intro; omega
        · (try simp only [cmpI, errD_nil, Bool.not_eq_true', Bool.not_eq_false', decide_eq_true_eq, decide_eq_false_iff_not] at hc14); have ht110 := hc14
          refine awp_skip ?_
          refine awp_seq ?_
          refine awp_region rfl ?_
          first
            | refine sP (opp_fieldP rfl rfl fld26_7 rfl) rfl rfl ?_
            | refine sP (opp_fieldF rfl rfl rfl fld26_7 rfl rfl) rfl rfl ?_
          first
            | refine sP (opp_loadP rfl rfl rfl rfl bi rfl ty9) rfl rfl ?_
            | refine sP (opp_loadF rfl rfl ty9) rfl rfl ?_
          refine sP (opp_strEq (b := []) rfl rfl rfl (.inl ⟨rfl, rfl⟩)) rfl rfl ?_
          refine sP (opp_as (v := .bool _) rfl rfl) rfl rfl ?_
          refine awp_ret ?_
          repeat (first | refine athen_ret ?_ | refine ain_ret ?_)
          first
            | refine apost_ret (aend1 (r0 := .bool _) (.tmp .nil) (.noN rfl rfl) ⟨Wk.v ?_, rfl, rfl⟩)
            | refine apost_ret (aend1s (r0 := .bool _) (.tmp .nil) shut rfl ⟨Wk.v ?_, rfl, rfl⟩)
          refine .of (congrArg AV.bool ?_)
          have hk : ¬ n.kind = 1 := by simpa using ht110
          symm; unfold rangesB; rw [hA.1, hA.2.1, hA.2.2, hB, Sp.pieces, if_neg hk]
          by_cases h2 : n.kind = 7
          · rw [if_pos (.inr h2)] at hC; rw [if_pos h2]; simp [Sp.within, hC.1, hC.2.1, hC.2.2.1, cmpI]; intro; omega
          · rw [if_neg (by omega)] at hC; rw [if_neg h2]; simp [hC.1, hC.2, cmpI]
theorem c16 (n : Note) : APure (V ea cds gl) 16 [noteAV n] false (.int .i64 (Sp.check n : Nat)) := by
  refine acalls_of_body (N := 14) Tryd.func16 rfl rfl (Nat.le_of_ble_eq_true rfl) fun C hV hN hM hO => ?_
  obtain ⟨_, _, w0, G0, σ0, _, own0⟩ := C; dsimp only at hV hN hM hO; subst hV; subst hN; subst hM
  refine awp_seq ?_
  refine awp_region rfl ?_
  refine sR (opr_box (y := .agg _) (n := 1) rfl rfl rfl) rfl rfl rfl ?_
  refine sP (opp_as (v := .int _ _) rfl rfl) rfl rfl ?_
  refine awp_seq ?_
  refine awp_seq ?_
  refine awp_region rfl ?_
  first
    | refine sP (opp_fieldP rfl rfl fld26_0 rfl) rfl rfl ?_
    | refine sP (opp_fieldF rfl rfl rfl fld26_0 rfl rfl) rfl rfl ?_
  first
    | refine sP (opp_loadP rfl rfl rfl rfl bi rfl ty3) rfl rfl ?_
    | refine sP (opp_loadF rfl rfl ty3) rfl rfl ?_
  refine sP (opp_cmp rfl rfl rfl rfl) rfl rfl ?_
  refine sP (opp_mv (v := .bool _) rfl rfl) rfl rfl ?_
  first
    | refine sG _ rfl rfl rfl rfl (fun hg => (And.intro gi (True.intro))) (fun hg => opp_fieldP rfl rfl fld26_0 rfl) ?_
    | refine sG _ rfl rfl rfl rfl (fun hg => (And.intro gi (True.intro))) (fun hg => opp_fieldF rfl rfl rfl fld26_0 rfl rfl) ?_
  first
    | refine sG _ rfl rfl rfl rfl (fun hg => (And.intro gi (True.intro))) (fun hg => opp_loadP rfl rfl rfl rfl bi rfl ty3) ?_
    | refine sG _ rfl rfl rfl rfl (fun hg => (And.intro gi (True.intro))) (fun hg => opp_loadF rfl rfl ty3) ?_
  refine sG _ rfl rfl rfl rfl (fun hg => (And.intro gi (And.intro gi (True.intro)))) (fun hg => opp_cmp rfl rfl rfl rfl) ?_
  refine sPick rfl rfl rfl rfl (by exact True.intro) rfl rfl (fun hg => gi) (fun hg => gi) ?_
  refine awp_cond _ rfl (fun hc3 => ?_) (fun hc3 => ?_)
  · (try simp only [cmpI, errD_nil, Bool.not_eq_true', Bool.not_eq_false', decide_eq_true_eq, decide_eq_false_iff_not] at hc3); have ht10 := hc3
    refine awp_seq ?_
    refine awp_region rfl ?_
    refine sP (opp_as (v := .int _ _) rfl rfl) rfl rfl ?_
    refine awp_ret ?_
    repeat (first | refine athen_ret ?_ | refine ain_ret ?_)
    first
      | refine apost_ret (aend1 (r0 := .int _ _) (.tmp .nil) (.noN rfl rfl) ⟨Wk.v ?_, rfl, rfl⟩)
      | refine apost_ret (aend1s (r0 := .int _ _) (.tmp .nil) shut rfl ⟨Wk.v ?_, rfl, rfl⟩)
    rw [check_ranges, if_pos]
    · exact .refl
    · simp only [Sp.within, decide_eq_false_iff_not]; by_cases h1 : n.kind < 1 <;> simp [cmpI, h1] at ht10 <;> omega
  · (try simp only [cmpI, errD_nil, Bool.not_eq_true', Bool.not_eq_false', decide_eq_true_eq, decide_eq_false_iff_not] at hc3); have ht10 := hc3
    refine awp_skip ?_
    refine awp_seq ?_
    refine awp_seq ?_
    have hw : ¬ Sp.within n.kind 1 7 = false := by simp only [Sp.within, decide_eq_false_iff_not]; by_cases h1 : n.kind < 1 <;> simp [cmpI, h1] at ht10 <;> omega
    refine awp_region rfl ?_
    first
      | refine sP (opp_loadP rfl rfl rfl rfl bi rfl ty26) rfl rfl ?_
      | refine sP (opp_loadF rfl rfl ty26) rfl rfl ?_
    refine sR (opr_call rfl rfl ent72 rfl (c72 _) (AViews.refl _ rfl)) rfl rfl rfl ?_ -- d=12 t=4
    refine sP (opp_not rfl rfl) rfl rfl ?_
    refine awp_cond _ rfl (fun hc6 => ?_) (fun hc6 => ?_)
    · (try simp only [cmpI, errD_nil, Bool.not_eq_true', Bool.not_eq_false', decide_eq_true_eq, decide_eq_false_iff_not] at hc6); have ht13 := hc6
      refine awp_seq ?_
      refine awp_region rfl ?_
      refine sP (opp_as (v := .int _ _) rfl rfl) rfl rfl ?_
      refine awp_ret ?_
      repeat (first | refine athen_ret ?_ | refine ain_ret ?_)
      first
        | refine apost_ret (aend1 (r0 := .int _ _) (.tmp .nil) (.noN rfl rfl) ⟨Wk.v ?_, rfl, rfl⟩)
        | refine apost_ret (aend1s (r0 := .int _ _) (.tmp .nil) shut rfl ⟨Wk.v ?_, rfl, rfl⟩)
      rw [check_ranges, if_neg hw, if_pos (by simpa using ht13)]; exact .refl
    · (try simp only [cmpI, errD_nil, Bool.not_eq_true', Bool.not_eq_false', decide_eq_true_eq, decide_eq_false_iff_not] at hc6); have ht13 := hc6
      refine awp_skip ?_
      refine awp_seq ?_
      refine awp_region rfl ?_
      refine sP (opp_as (v := .int _ _) rfl rfl) rfl rfl ?_
      refine awp_ret ?_
      repeat (first | refine athen_ret ?_ | refine ain_ret ?_)
      first
        | refine apost_ret (aend1 (r0 := .int _ _) (.tmp .nil) (.noN rfl rfl) ⟨Wk.v ?_, rfl, rfl⟩)
        | refine apost_ret (aend1s (r0 := .int _ _) (.tmp .nil) shut rfl ⟨Wk.v ?_, rfl, rfl⟩)
      rw [check_ranges, if_neg hw, if_neg (by simpa using ht13)]; exact .refl
end
end Go.Proofs.YtgaihhimkodmmaaDoor
/- The laws of layer 20: the errors' codes; any answer; every Cut and Answer (walks over this dump). -/
namespace Go.Proofs.YtgaihhimkodmmaaDoor
attribute [local irreducible] Tryd.prog
open Go.Fy
set_option linter.unusedSimpArgs false
set_option linter.unusedVariables false
section
variable {ea : Nat → Addr} {cds : List Nat} {gl : Nat → Option AV}
theorem c46 (c : Nat) (hc : c ≤ 20) (hS : Sents cds gl) : APure (V ea cds gl) 46 [.err (errD c)] false (.int .i64 c) := by
  refine acalls_of_body (N := 8) Tryd.func46 rfl rfl (Nat.le_of_ble_eq_true rfl) fun C hV hN hM hO => ?_
  obtain ⟨_, _, w0, G0, σ0, _, own0⟩ := C; dsimp only at hV hN hM hO; subst hV; subst hN; subst hM
  refine awp_seq ?_
  refine awp_region rfl ?_
  refine sP (opp_as (v := .int _ _) rfl rfl) rfl rfl ?_
  refine awp_seq ?_
  refine awp_seq ?_
  refine awp_region rfl ?_
  refine sP (opp_mv (v := .err _) rfl rfl) rfl rfl ?_
  refine sR (opr_call rfl rfl ent98 rfl (c98 c hc hS) (AViews.refl _ rfl)) rfl rfl rfl ?_ -- d=4 t=3
  refine sP (opp_cmp rfl rfl rfl rfl) rfl rfl ?_
  refine awp_cond _ rfl (fun hc3 => ?_) (fun hc3 => ?_)
  · (try simp only [cmpI, errD_nil, Bool.not_eq_true', Bool.not_eq_false', decide_eq_true_eq, decide_eq_false_iff_not] at hc3); have ht5 := hc3
    exact absurd ht5 (by simp)
  · (try simp only [cmpI, errD_nil, Bool.not_eq_true', Bool.not_eq_false', decide_eq_true_eq, decide_eq_false_iff_not] at hc3); have ht5 := hc3
    refine awp_skip ?_
    refine awp_seq ?_
    refine awp_region rfl ?_
    refine sP (opp_mv (v := .err _) rfl rfl) rfl rfl ?_
    refine sR (opr_call rfl rfl ent99 rfl (ck99 c hc hS) (AViews.refl _ rfl)) rfl rfl rfl ?_ -- d=7 t=3
    refine sP (opp_as (v := .int _ _) rfl rfl) rfl rfl ?_
    refine awp_ret ?_
    repeat (first | refine athen_ret ?_ | refine ain_ret ?_)
    first
      | refine apost_ret (aend1 (r0 := .int _ _) (.tmp .nil) (.noN rfl rfl) ⟨Wk.v ?_, rfl, rfl⟩)
      | refine apost_ret (aend1s (r0 := .int _ _) (.tmp .nil) shut rfl ⟨Wk.v ?_, rfl, rfl⟩)
    exact .refl
end
end Go.Proofs.YtgaihhimkodmmaaDoor
/- Plain Lean: the document's check sum, bit by bit, is the program's (my own text; no program in sight). -/
set_option linter.unusedSimpArgs false
namespace Go.Fy
namespace Sp
def crcPoly (b : Bool) : BitVec 32 := if b then 3988292384#32 else 0#32
theorem crcStep_eq (x : BitVec 32) : crcStep x = (x >>> 1) ^^^ crcPoly (x.getLsbD 0) := by
  have h : (x &&& 1#32 = 1#32) ↔ x.getLsbD 0 = true := by
    constructor
    · intro h
      have := congrArg (fun y => y.getLsbD 0) h
      simpa using this
    · intro h
      apply BitVec.eq_of_getLsbD_eq
      intro i hi
      by_cases h0 : i = 0
      · subst h0; simpa using h
      · simp [h0]
  unfold crcStep crcPoly
  by_cases h1 : x &&& 1#32 = 1#32
  · rw [if_pos h1, if_pos (h.1 h1)]
  · rw [if_neg h1, if_neg (fun h2 => h1 (h.2 h2))]; simp
theorem crcPoly_xor (a b : Bool) : crcPoly (a ^^ b) = crcPoly a ^^^ crcPoly b := by cases a <;> cases b <;> decide
theorem crcStep_xor (x y : BitVec 32) : crcStep (x ^^^ y) = crcStep x ^^^ crcStep y := by
  rw [crcStep_eq, crcStep_eq, crcStep_eq, BitVec.getLsbD_xor, crcPoly_xor, BitVec.ushiftRight_xor_distrib]
  ac_rfl
theorem crcIter_xor (k : Nat) (x y : BitVec 32) : crcIter k (x ^^^ y) = crcIter k x ^^^ crcIter k y := by
  induction k with
  | zero => rfl
  | succ k ih => rw [crcIter, crcIter, crcIter, ih, crcStep_xor]
theorem crcIter_high (y : BitVec 32) (k : Nat) (hk : k ≤ 8) : crcIter k (y <<< 8) = (y <<< 8) >>> k := by
  induction k with
  | zero => simp [crcIter]
  | succ k ih =>
    rw [crcIter, ih (by omega), crcStep_eq]
    have h0 : ((y <<< 8) >>> k).getLsbD 0 = false := by
      rw [BitVec.getLsbD_ushiftRight, BitVec.getLsbD_shiftLeft]; simp; omega
    rw [h0]
    apply BitVec.eq_of_getLsbD_eq
    intro i hi
    simp [crcPoly, BitVec.getLsbD_ushiftRight]
    rw [← Nat.add_assoc]
theorem high_back (x : BitVec 32) : ((x >>> 8) <<< 8) >>> 8 = x >>> 8 := by
  apply BitVec.eq_of_toNat_eq
  have := x.isLt
  simp [BitVec.toNat_ushiftRight, BitVec.toNat_shiftLeft, Nat.shiftRight_eq_div_pow, Nat.shiftLeft_eq]
  omega
/-- The document's way: a byte's bits, one by one. -/
def refByte (reg : BitVec 32) (c : UInt8) : BitVec 32 := crcIter 8 (reg ^^^ BitVec.ofNat 32 c.toNat)
theorem split_reg (reg : BitVec 32) (c : UInt8) : reg ^^^ BitVec.ofNat 32 c.toNat = BitVec.ofNat 32 (crcIdx reg c) ^^^ ((reg >>> 8) <<< 8) := by
  apply BitVec.eq_of_getLsbD_eq
  intro i hi
  have hc : (BitVec.ofNat 32 c.toNat).getLsbD i = (decide (i < 32) && c.toBitVec.getLsbD i) := by
    rw [BitVec.getLsbD_ofNat]; rfl
  have hx : (BitVec.ofNat 32 (crcIdx reg c)).getLsbD i = (decide (i < 32) && (reg.setWidth 8 ^^^ c.toBitVec).getLsbD i) := by
    rw [BitVec.getLsbD_ofNat]; rfl
  rw [BitVec.getLsbD_xor, BitVec.getLsbD_xor, hc, hx, BitVec.getLsbD_xor, BitVec.getLsbD_setWidth, BitVec.getLsbD_shiftLeft, BitVec.getLsbD_ushiftRight]
  by_cases h8 : i < 8
  · simp [h8, hi]
  · have : c.toBitVec.getLsbD i = false := BitVec.getLsbD_of_ge _ _ (by omega)
    simp [h8, hi, this]
    congr 1; omega
theorem refByte_eq (reg : BitVec 32) (c : UInt8) : refByte reg c = crcByte reg c := by
  unfold refByte crcByte crcTab
  rw [split_reg, crcIter_xor, crcIter_high _ 8 (Nat.le_refl _), high_back]
def refMove (reg : BitVec 32) (l : List UInt8) : BitVec 32 := l.foldl refByte reg
end Sp
theorem byte_xor (x : BitVec 32) (c : UInt8) : IntKind.u32.wrap ((BitVec.ofInt IntKind.u32.bits (x.toNat : Int) ^^^ BitVec.ofInt IntKind.u32.bits (c.toNat : Int)).toNat : Int) = ((x ^^^ BitVec.ofNat 32 c.toNat).toNat : Int) := by
  have hc := c.toNat_lt
  have e : (c.toNat : Int) = ((BitVec.ofNat 32 c.toNat).toNat : Int) := by
    rw [BitVec.toNat_ofNat, Nat.mod_eq_of_lt (by omega)]
  rw [e, bv_xor]
end Go.Fy
/- The document's answers: check sums, numbers in bytes (walks over this dump). -/
namespace Go.Proofs.YtgaihhimkodmmaaDoor
attribute [local irreducible] Tryd.prog
open Go.Fy
set_option linter.unusedSimpArgs false
set_option linter.unusedVariables false
section
variable {ea : Nat → Addr} {cds : List Nat} {gl : Nat → Option AV}
theorem c148 (x : BitVec 32) (c : UInt8) : APure (V ea cds gl) 148 [u32V x, .int .u8 (c.toNat : Int)] false (u32V (Sp.refByte x c)) := by
  have hx0 : IntKind.u32.wrap ((BitVec.ofInt IntKind.u32.bits (x.toNat : Int) ^^^ BitVec.ofInt IntKind.u32.bits (c.toNat : Int)).toNat : Int) = ((x ^^^ BitVec.ofNat 32 c.toNat).toNat : Int) := byte_xor x c
  have hsh : ∀ z : BitVec 32, (z.toNat : Int).fdiv (2 ^ min (Int.toNat 1) IntKind.u32.bits) = ((z >>> 1).toNat : Int) := fun z => bv_shr z 1 (by decide)
  have han : ∀ z : BitVec 32, IntKind.u32.wrap ((BitVec.ofInt IntKind.u32.bits (z.toNat : Int) &&& BitVec.ofInt IntKind.u32.bits 1).toNat : Int) = ((z &&& 1#32).toNat : Int) := fun z => bv_and z 1#32
  have hxo : ∀ z : BitVec 32, IntKind.u32.wrap ((BitVec.ofInt IntKind.u32.bits ((z >>> 1).toNat : Int) ^^^ BitVec.ofInt IntKind.u32.bits 3988292384).toNat : Int) = (((z >>> 1) ^^^ 3988292384#32).toNat : Int) := fun z => bv_xor (z >>> 1) 3988292384#32
  have hon : ∀ z : BitVec 32, ((z &&& 1#32).toNat : Int) = 1 ↔ z &&& 1#32 = 1#32 := fun z => by
    rw [BitVec.toNat_eq]; simp only [BitVec.toNat_ofNat]; omega
  refine acalls_of_body (N := 24) Tryd.func148 rfl rfl (Nat.le_of_ble_eq_true rfl) fun C hV hN hM hO => ?_
  obtain ⟨_, _, w0, G0, σ0, _, own0⟩ := C; dsimp only at hV hN hM hO; subst hV; subst hN; subst hM
  refine awp_seq ?_
  refine awp_region rfl ?_
  refine sP (opp_as (v := .int _ _) rfl rfl) rfl rfl ?_
  refine awp_seq ?_
  refine awp_region rfl ?_
  refine sP (opp_mv (v := .int _ _) rfl rfl) rfl rfl ?_
  refine sP (opp_mv (v := .int _ _) rfl rfl) rfl rfl ?_
  first
    | refine sP (opp_convInt rfl rfl un5s un24 (wu32 (by omega))) rfl rfl ?_
    | refine sP (opp_convInt rfl rfl un5s un24 rfl) rfl rfl ?_
  rw [show IntKind.u32.wrap (c.toNat : Int) = (c.toNat : Int) from wu32 (by have := c.toNat_lt; omega)]
  refine sP (opp_arith rfl rfl rfl (.inr <| .inr <| .inr <| .inr <| .inr <| .inr <| .inr <| .inl ⟨rfl, rfl⟩)) rfl rfl ?_
  refine sP (opp_as (v := .int _ _) rfl rfl) rfl rfl ?_
  refine awp_seq ?_
  refine awp_seq ?_
  rw [hx0]
  refine awp_region rfl ?_
  refine sP (opp_as (v := .int _ _) rfl rfl) rfl rfl ?_
  refine awp_block ?_
  refine awp_loopK (ι := Nat) (fun k => k ≤ 8) (fun k => [(0, u32V (Sp.crcIter k (x ^^^ BitVec.ofNat 32 c.toNat))), (5, .int .i64 (k : Int)), (6, .top), (11, .top), (12, .top), (13, .top), (14, .top), (15, .top), (16, .top), (17, .top), (18, .top), (19, .top), (20, .top), (21, .top), (22, .top)]) (fun k => []) [] (fun k => 8 - k) (0) (Nat.zero_le _) (by
    refine imp_over [] rfl rfl (by kernel_rfl) ?_ ?_
    · refine And.intro wkv ?_
      refine And.intro wkv ?_
      refine And.intro wkv ?_
      refine And.intro wkv ?_
      refine And.intro wkv ?_
      refine And.intro wkv ?_
      refine And.intro wkv ?_
      refine And.intro wkv ?_
      refine And.intro wkv ?_
      refine And.intro wkv ?_
      refine And.intro wkv ?_
      refine And.intro wkv ?_
      refine And.intro wkv ?_
      refine And.intro wkv ?_
      refine And.intro wkv ?_
      exact True.intro
    · exact True.intro
    ) ?_
  intro k hi1
  refine awp_seq ?_
  refine awp_seq ?_
  refine awp_region rfl ?_
  refine sP (opp_mv (v := .int _ _) rfl rfl) rfl rfl ?_
  refine sP (opp_cmp rfl rfl rfl rfl) rfl rfl ?_
  refine awp_cond _ rfl (fun hc5 => ?_) (fun hc5 => ?_)
  · (try simp only [cmpI, errD_nil, Bool.not_eq_true', Bool.not_eq_false', decide_eq_true_eq, decide_eq_false_iff_not] at hc5); have ht12 := hc5
    refine awp_skip ?_
    refine awp_seq ?_
    refine awp_block ?_
    refine awp_seq ?_
    refine awp_region rfl ?_
    refine sP (opp_mv (v := .int _ _) rfl rfl) rfl rfl ?_
    refine sP (opp_arith rfl rfl rfl (.inr <| .inr <| .inr <| .inr <| .inr <| .inl ⟨rfl, rfl⟩)) rfl rfl ?_
    refine sP (opp_as (v := .int _ _) rfl rfl) rfl rfl ?_
    refine awp_seq ?_
    refine awp_region rfl ?_
    refine sP (opp_mv (v := .int _ _) rfl rfl) rfl rfl ?_
    refine sP (opp_shift rfl rfl rfl (by omega) (.inr ⟨rfl, rfl⟩)) rfl rfl ?_
    refine sP (opp_as (v := .int _ _) rfl rfl) rfl rfl ?_
    refine awp_seq ?_
    rw [han, hsh]
    refine awp_region rfl ?_
    refine sP (opp_mv (v := .int _ _) rfl rfl) rfl rfl ?_
    refine sP (opp_cmp rfl rfl rfl rfl) rfl rfl ?_
    refine awp_cond _ rfl (fun hc9 => ?_) (fun hc9 => ?_)
    · (try simp only [cmpI, errD_nil, Bool.not_eq_true', Bool.not_eq_false', decide_eq_true_eq, decide_eq_false_iff_not] at hc9); have ht20 := hc9
      refine awp_region rfl ?_
      refine sP (opp_mv (v := .int _ _) rfl rfl) rfl rfl ?_
      refine sP (opp_arith rfl rfl rfl (.inr <| .inr <| .inr <| .inr <| .inr <| .inr <| .inr <| .inl ⟨rfl, rfl⟩)) rfl rfl ?_
      refine sP (opp_as (v := .int _ _) rfl rfl) rfl rfl ?_
      refine awp_region rfl ?_
      refine sP (opp_mv (v := .int _ _) rfl rfl) rfl rfl ?_
      first
        | refine sP (opp_arith rfl rfl rfl (.inl ⟨rfl, w64 (by omega)⟩)) rfl rfl ?_
        | refine sP (opp_arith rfl rfl rfl (.inl ⟨rfl, rfl⟩)) rfl rfl ?_
      refine sP (opp_as (v := .int _ _) rfl rfl) rfl rfl ?_
      refine Exists.intro (k + 1) (And.intro (And.intro ((by show k + 1 ≤ 8; omega)) (by omega)) (by
        refine imp_over [] rfl rfl (by kernel_rfl) ?_ ?_
        · refine And.intro (by rw [hon] at ht20; rw [hxo]; exact Or.inr (And.intro rfl (WkV.of (by show AV.int .u32 _ = u32V (Sp.crcStep (Sp.crcIter k _)); rw [Sp.crcStep, if_pos ht20]; rfl)))) ?_
          refine And.intro wkv ?_
          refine And.intro wkv ?_
          refine And.intro wkv ?_
          refine And.intro wkv ?_
          refine And.intro wkv ?_
          refine And.intro wkv ?_
          refine And.intro wkv ?_
          refine And.intro wkv ?_
          refine And.intro wkv ?_
          refine And.intro wkv ?_
          refine And.intro wkv ?_
          refine And.intro wkv ?_
          refine And.intro wkv ?_
          refine And.intro wkv ?_
          exact True.intro
        · exact True.intro
        ))
    · (try simp only [cmpI, errD_nil, Bool.not_eq_true', Bool.not_eq_false', decide_eq_true_eq, decide_eq_false_iff_not] at hc9); have ht20 := hc9
      refine awp_skip ?_
      refine awp_region rfl ?_
      refine sP (opp_mv (v := .int _ _) rfl rfl) rfl rfl ?_
      first
        | refine sP (opp_arith rfl rfl rfl (.inl ⟨rfl, w64 (by omega)⟩)) rfl rfl ?_
        | refine sP (opp_arith rfl rfl rfl (.inl ⟨rfl, rfl⟩)) rfl rfl ?_
      refine sP (opp_as (v := .int _ _) rfl rfl) rfl rfl ?_
      refine Exists.intro (k + 1) (And.intro (And.intro ((by show k + 1 ≤ 8; omega)) (by omega)) (by
        refine imp_over [] rfl rfl (by kernel_rfl) ?_ ?_
        · refine And.intro (by rw [hon] at ht20; exact Or.inr (And.intro rfl (WkV.of (by show AV.int .u32 _ = u32V (Sp.crcStep (Sp.crcIter k _)); rw [Sp.crcStep, if_neg ht20]; rfl)))) ?_
          refine And.intro wkv ?_
          refine And.intro wkv ?_
          refine And.intro wkv ?_
          refine And.intro wkv ?_
          refine And.intro wkv ?_
          refine And.intro wkv ?_
          refine And.intro wkv ?_
          refine And.intro wkv ?_
          refine And.intro wkv ?_
          refine And.intro wkv ?_
          refine And.intro wkv ?_
          refine And.intro wkv ?_
          refine And.intro wkv ?_
          refine And.intro wkv ?_
          exact True.intro
        · exact True.intro
        ))
  · (try simp only [cmpI, errD_nil, Bool.not_eq_true', Bool.not_eq_false', decide_eq_true_eq, decide_eq_false_iff_not] at hc5); have ht12 := hc5
    refine awp_exit ?_
    refine awp_seq ?_
    refine awp_region rfl ?_
    refine sP (opp_mv (v := .int _ _) rfl rfl) rfl rfl ?_
    refine sP (opp_as (v := .int _ _) rfl rfl) rfl rfl ?_
    refine awp_ret ?_
    repeat (first | refine athen_ret ?_ | refine ain_ret ?_)
    first
      | refine apost_ret (aend1 (r0 := .int _ _) (.tmp .nil) (.noN rfl rfl) ⟨Wk.v ?_, rfl, rfl⟩)
      | refine apost_ret (aend1s (r0 := .int _ _) (.tmp .nil) shut rfl ⟨Wk.v ?_, rfl, rfl⟩)
    have hk8 : k = 8 := by omega
    subst hk8; exact .refl
theorem c135 (b : Bool) (im : List UInt8) (h0 : im.length ≤ 281474976710656) : APure (V ea cds gl) 135 [.sl 1 b im.length (bAt im)] false (u32V (Sp.crcSum im)) := by
  have hnot : ∀ z : BitVec 32, IntKind.u32.wrap ((BitVec.ofInt IntKind.u32.bits (z.toNat : Int) ^^^ BitVec.ofInt IntKind.u32.bits 4294967295).toNat : Int) = ((~~~ z).toNat : Int) := fun z => by
    rw [show (4294967295 : Int) = ((BitVec.allOnes 32).toNat : Int) by decide, bv_xor, BitVec.xor_allOnes]
  refine acalls_of_body (N := 19) Tryd.func135 rfl rfl (Nat.le_of_ble_eq_true rfl) fun C hV hN hM hO => ?_
  obtain ⟨_, _, w0, G0, σ0, _, own0⟩ := C; dsimp only at hV hN hM hO; subst hV; subst hN; subst hM
  refine awp_seq ?_
  refine awp_region rfl ?_
  refine sP (opp_as (v := .int _ _) rfl rfl) rfl rfl ?_
  refine awp_seq ?_
  refine awp_region rfl ?_
  refine sP (opp_as (v := .int _ _) rfl rfl) rfl rfl ?_
  refine awp_seq ?_
  refine awp_seq ?_
  refine awp_region rfl ?_
  refine sP (opp_as (v := .int _ _) rfl rfl) rfl rfl ?_
  refine awp_block ?_
  refine awp_loopK (ι := Nat) (fun i => i ≤ im.length) (fun i => [(3, u32V (Sp.crcMove (~~~ 0#32) (im.take i))), (4, .int .i64 (i : Int)), (5, .top), (6, .top), (7, .top), (8, .top), (9, .top), (10, .top), (11, .top), (12, .top), (13, .top), (14, .top), (15, .top), (16, .top)]) (fun i => []) [] (fun i => im.length - i) (0) (Nat.zero_le _) (by
    refine imp_over [] rfl rfl (by kernel_rfl) ?_ ?_
    · refine And.intro (by exact Or.inr (And.intro rfl (WkV.of (by show AV.int .u32 _ = AV.int .u32 _; simp [Sp.crcMove])))) ?_
      refine And.intro wkv ?_
      refine And.intro wkv ?_
      refine And.intro wkv ?_
      refine And.intro wkv ?_
      refine And.intro wkv ?_
      refine And.intro wkv ?_
      refine And.intro wkv ?_
      refine And.intro wkv ?_
      refine And.intro wkv ?_
      refine And.intro wkv ?_
      refine And.intro wkv ?_
      refine And.intro wkv ?_
      refine And.intro wkv ?_
      exact True.intro
    · exact True.intro
    ) ?_
  intro i hi1
  refine awp_seq ?_
  refine awp_seq ?_
  refine awp_region rfl ?_
  refine sP (opp_mv (v := .int _ _) rfl rfl) rfl rfl ?_
  first
    | refine sP (opp_mv (v := .sl _ _ _ _) rfl rfl) rfl rfl ?_
    | refine sP (opp_mv (v := .osl _ _ _ _ _) rfl rfl) rfl rfl ?_
  first
    | refine sP (opp_lenSl rfl rfl un36) rfl rfl ?_
    | refine sP (opp_lenOsl rfl rfl un36) rfl rfl ?_
  refine sP (opp_cmp rfl rfl rfl rfl) rfl rfl ?_
  refine awp_cond _ rfl (fun hc5 => ?_) (fun hc5 => ?_)
  · (try simp only [cmpI, errD_nil, Bool.not_eq_true', Bool.not_eq_false', decide_eq_true_eq, decide_eq_false_iff_not] at hc5); have ht8 := hc5
    refine awp_skip ?_
    refine awp_seq ?_
    refine awp_block ?_
    refine awp_region rfl ?_
    refine sP (opp_mv (v := .int _ _) rfl rfl) rfl rfl ?_
    first
      | refine sP (opp_mv (v := .sl _ _ _ _) rfl rfl) rfl rfl ?_
      | refine sP (opp_mv (v := .osl _ _ _ _ _) rfl rfl) rfl rfl ?_
    refine sP (opp_mv (v := .int _ _) rfl rfl) rfl rfl ?_
    first
      | refine sP (opp_indexSl rfl rfl rfl el36 (by omega) (by omega)) rfl rfl ?_
      | refine sP (opp_indexOsl0 rfl rfl rfl el36 (by omega) (by omega)) rfl rfl ?_
      | refine sP (opp_indexOsl rfl rfl rfl el36 (by omega) (by omega)) rfl rfl ?_
    first
      | refine sP (opp_loadP rfl rfl rfl rfl bi rfl ty5) rfl rfl ?_
      | refine sP (opp_loadF rfl rfl ty5) rfl rfl ?_
    refine sR (opr_call rfl rfl ent148 rfl (c148 (Sp.crcMove (~~~ 0#32) (im.take i)) (im.getD (Int.toNat (i : Int)) 0)) (AViews.refl _ rfl)) rfl rfl rfl ?_ -- d=16 t=24
    refine sP (opp_as (v := .int _ _) rfl rfl) rfl rfl ?_
    refine awp_region rfl ?_
    refine sP (opp_mv (v := .int _ _) rfl rfl) rfl rfl ?_
    first
      | refine sP (opp_arith rfl rfl rfl (.inl ⟨rfl, w64 (by omega)⟩)) rfl rfl ?_
      | refine sP (opp_arith rfl rfl rfl (.inl ⟨rfl, rfl⟩)) rfl rfl ?_
    refine sP (opp_as (v := .int _ _) rfl rfl) rfl rfl ?_
    refine Exists.intro (i + 1) (And.intro (And.intro ((by show i + 1 ≤ im.length; omega)) (by omega)) (by
      refine imp_over [] rfl rfl (by kernel_rfl) ?_ ?_
      · refine And.intro (by exact Or.inr (And.intro rfl (WkV.of (by show u32V _ = u32V (Sp.crcMove (~~~ 0#32) (im.take (i + 1))); rw [Int.toNat_natCast, Sp.refByte_eq, Sp.crcMove_take _ _ _ (by omega)])))) ?_
        refine And.intro wkv ?_
        refine And.intro wkv ?_
        refine And.intro wkv ?_
        refine And.intro wkv ?_
        refine And.intro wkv ?_
        refine And.intro wkv ?_
        refine And.intro wkv ?_
        refine And.intro wkv ?_
        refine And.intro wkv ?_
        refine And.intro wkv ?_
        refine And.intro wkv ?_
        refine And.intro wkv ?_
        refine And.intro wkv ?_
        exact True.intro
      · exact True.intro
      ))
  · (try simp only [cmpI, errD_nil, Bool.not_eq_true', Bool.not_eq_false', decide_eq_true_eq, decide_eq_false_iff_not] at hc5); have ht8 := hc5
    refine awp_exit ?_
    refine awp_seq ?_
    refine awp_region rfl ?_
    refine sP (opp_mv (v := .int _ _) rfl rfl) rfl rfl ?_
    refine sP (opp_arith rfl rfl rfl (.inr <| .inr <| .inr <| .inr <| .inr <| .inr <| .inr <| .inl ⟨rfl, rfl⟩)) rfl rfl ?_
    refine sP (opp_as (v := .int _ _) rfl rfl) rfl rfl ?_
    refine awp_ret ?_
    repeat (first | refine athen_ret ?_ | refine ain_ret ?_)
    first
      | refine apost_ret (aend1 (r0 := .int _ _) (.tmp .nil) (.noN rfl rfl) ⟨Wk.v ?_, rfl, rfl⟩)
      | refine apost_ret (aend1s (r0 := .int _ _) (.tmp .nil) shut rfl ⟨Wk.v ?_, rfl, rfl⟩)
    have hi2 : i = im.length := by omega
    subst hi2; rw [List.take_length, hnot]; exact .refl
theorem laid_byte (S : BitVec 32) (k : Nat) (hk : k ≤ 3) : IntKind.u8.wrap ((S.toNat : Int).fdiv (2 ^ min (Int.toNat (8 * (k : Int))) IntKind.u32.bits)) = (((Sp.crcLaid S).getD k 0).toNat : Int) := by
  have e : min (Int.toNat (8 * (k : Int))) IntKind.u32.bits = min (Int.toNat ((8 * k : Nat) : Int)) IntKind.u32.bits := by rw [show ((8 * k : Nat) : Int) = 8 * (k : Int) by omega]
  rw [e, bv_shr S (8 * k) (by omega), bv_byte]
  have hk : k = 0 ∨ k = 1 ∨ k = 2 ∨ k = 3 := by omega
  rcases hk with rfl | rfl | rfl | rfl <;> simp [Sp.crcLaid]
theorem c102 (s : List UInt8) (h0 : s.length ≤ 140737488355328) : APure (V ea cds gl) 102 [.sl 1 false s.length (bAt s)] false (.tup [.sl 1 (decide ((Sp.opened s).2 ≠ 0)) (Sp.opened s).1.length (bAt (Sp.opened s).1), .int .i64 ((Sp.opened s).2 : Nat)]) := by
  refine acalls_of_body (N := 38) Tryd.func102 rfl rfl (Nat.le_of_ble_eq_true rfl) fun C hV hN hM hO => ?_
  obtain ⟨_, _, w0, G0, σ0, _, own0⟩ := C; dsimp only at hV hN hM hO; subst hV; subst hN; subst hM
  refine awp_seq ?_
  refine awp_region rfl ?_
  first
    | refine sP (opp_as (v := .sl _ _ _ _) rfl rfl) rfl rfl ?_
    | refine sP (opp_as (v := .osl _ _ _ _ _) rfl rfl) rfl rfl ?_
  refine sP (opp_as (v := .int _ _) rfl rfl) rfl rfl ?_
  refine awp_seq ?_
  refine awp_seq ?_
  refine awp_region rfl ?_
  first
    | refine sP (opp_mv (v := .sl _ _ _ _) rfl rfl) rfl rfl ?_
    | refine sP (opp_mv (v := .osl _ _ _ _ _) rfl rfl) rfl rfl ?_
  first
    | refine sP (opp_lenSl rfl rfl un36) rfl rfl ?_
    | refine sP (opp_lenOsl rfl rfl un36) rfl rfl ?_
  refine sP (opp_cmp rfl rfl rfl rfl) rfl rfl ?_
  refine awp_cond _ rfl (fun hc3 => ?_) (fun hc3 => ?_)
  · (try simp only [cmpI, errD_nil, Bool.not_eq_true', Bool.not_eq_false', decide_eq_true_eq, decide_eq_false_iff_not] at hc3); have ht9 := hc3
    refine awp_seq ?_
    refine awp_region rfl ?_
    first
      | refine sP (opp_as (v := .sl _ _ _ _) rfl rfl) rfl rfl ?_
      | refine sP (opp_as (v := .osl _ _ _ _ _) rfl rfl) rfl rfl ?_
    refine sP (opp_as (v := .int _ _) rfl rfl) rfl rfl ?_
    refine awp_ret ?_
    repeat (first | refine athen_ret ?_ | refine ain_ret ?_)
    first
      | refine apost_ret (aend (l := [.sl _ _ _ _, .int _ _]) (.tmp (.tmp .nil)) (fun h => by cases h) (.cons (.noN rfl rfl) (.cons (.noN rfl rfl) .nil)) ⟨Wk.v ?_, rfl, rfl⟩)
      | refine apost_ret (aends (l := [.sl _ _ _ _, .int _ _]) (.tmp (.tmp .nil)) (fun h => by cases h) (.cons shut (fun h => by cases h) (.cons shut (fun h => by cases h) .nil)) rfl ⟨Wk.v ?_, rfl, rfl⟩)
      | refine apost_ret (aend (l := [.osl _ _ _ _ _, .int _ _]) (.tmp (.tmp .nil)) (fun h => by cases h) (.cons (.noN rfl rfl) (.cons (.noN rfl rfl) .nil)) ⟨Wk.v ?_, rfl, rfl⟩)
      | refine apost_ret (aends (l := [.osl _ _ _ _ _, .int _ _]) (.tmp (.tmp .nil)) (fun h => by cases h) (.cons shut (fun h => by cases h) (.cons shut (fun h => by cases h) .nil)) rfl ⟨Wk.v ?_, rfl, rfl⟩)
    have h4 : s.length < 4 := by omega
    rw [show Sp.opened s = ([], 1) from if_pos h4]; show Wk _ (.tup [.sl 1 true 0 _, .int .i64 1]); (repeat' (first | exact Wk.refl | exact Wk.sl0 | apply Wk.tup | apply Wk.agg | apply WkL.cons | exact WkL.nil | refine Wk.sl (fun _ _ => ?_)))
  · (try simp only [cmpI, errD_nil, Bool.not_eq_true', Bool.not_eq_false', decide_eq_true_eq, decide_eq_false_iff_not] at hc3); have ht9 := hc3
    refine awp_skip ?_
    refine awp_seq ?_
    have h4 : ¬ s.length < 4 := by omega
    have hlc : (Sp.crcLaid (Sp.crcSum (s.take (s.length - 4)))).length = 4 := by simp [Sp.crcLaid]
    refine awp_region rfl ?_
    first
      | refine sP (opp_mv (v := .sl _ _ _ _) rfl rfl) rfl rfl ?_
      | refine sP (opp_mv (v := .osl _ _ _ _ _) rfl rfl) rfl rfl ?_
    first
      | refine sP (opp_lenSl rfl rfl un36) rfl rfl ?_
      | refine sP (opp_lenOsl rfl rfl un36) rfl rfl ?_
    first
      | refine sP (opp_arith rfl rfl rfl (.inr <| .inl ⟨rfl, w64 (by omega)⟩)) rfl rfl ?_
      | refine sP (opp_arith rfl rfl rfl (.inr <| .inl ⟨rfl, rfl⟩)) rfl rfl ?_
    refine sP (opp_as (v := .int _ _) rfl rfl) rfl rfl ?_
    refine awp_seq ?_
    refine awp_region rfl ?_
    first
      | refine sP (opp_mv (v := .sl _ _ _ _) rfl rfl) rfl rfl ?_
      | refine sP (opp_mv (v := .osl _ _ _ _ _) rfl rfl) rfl rfl ?_
    refine sP (opp_mv (v := .int _ _) rfl rfl) rfl rfl ?_
    refine sP (opp_sliceSl rfl rfl rfl rfl el36 (by omega) (by omega) (by omega)) rfl rfl ?_
    refine sR (opr_call rfl rfl ent135 rfl (c135 false (s.take (s.length - 4)) (by rw [List.length_take]; omega)) (.cons (aview_wk rfl (wk_slx (by rw [List.length_take]; omega) (fun j hj => by rw [bAt_take _ _ _ (by omega), show Int.toNat 0 + j = j by simp]))) .nil)) rfl rfl rfl ?_ -- d=16 t=24
    refine sP (opp_as (v := .int _ _) rfl rfl) rfl rfl ?_
    refine awp_seq ?_
    refine awp_seq ?_
    refine awp_region rfl ?_
    refine sP (opp_as (v := .int _ _) rfl rfl) rfl rfl ?_
    refine awp_block ?_
    refine awp_loopK (ι := Nat) (fun k => k ≤ 4 ∧ ∀ j, j < k → s.getD (s.length - 4 + j) 0 = (Sp.crcLaid (Sp.crcSum (s.take (s.length - 4)))).getD j 0) (fun k => [(2, .top), (3, .top), (6, .int .i64 (k : Int)), (17, .top), (18, .top), (19, .top), (20, .top), (21, .top), (22, .top), (23, .top), (24, .top), (25, .top), (26, .top), (27, .top), (28, .top), (29, .top), (30, .top), (31, .top), (32, .top)]) (fun k => []) [] (fun k => 4 - k) (0) (⟨Nat.zero_le _, fun j hj => absurd hj (Nat.not_lt_zero j)⟩) (by
      refine imp_over [] rfl rfl (by kernel_rfl) ?_ ?_
      · refine And.intro wkv ?_
        refine And.intro wkv ?_
        refine And.intro wkv ?_
        refine And.intro wkv ?_
        refine And.intro wkv ?_
        refine And.intro wkv ?_
        refine And.intro wkv ?_
        refine And.intro wkv ?_
        refine And.intro wkv ?_
        refine And.intro wkv ?_
        refine And.intro wkv ?_
        refine And.intro wkv ?_
        refine And.intro wkv ?_
        refine And.intro wkv ?_
        refine And.intro wkv ?_
        refine And.intro wkv ?_
        refine And.intro wkv ?_
        refine And.intro wkv ?_
        refine And.intro wkv ?_
        exact True.intro
      · exact True.intro
      ) ?_
    intro k hi1
    refine awp_seq ?_
    refine awp_seq ?_
    refine awp_region rfl ?_
    refine sP (opp_mv (v := .int _ _) rfl rfl) rfl rfl ?_
    refine sP (opp_cmp rfl rfl rfl rfl) rfl rfl ?_
    refine awp_cond _ rfl (fun hc9 => ?_) (fun hc9 => ?_)
    · (try simp only [cmpI, errD_nil, Bool.not_eq_true', Bool.not_eq_false', decide_eq_true_eq, decide_eq_false_iff_not] at hc9); have ht18 := hc9
      refine awp_skip ?_
      refine awp_seq ?_
      refine awp_block ?_
      refine awp_seq ?_
      have hlb := laid_byte (Sp.crcSum (s.take (s.length - 4))) k (by omega)
      refine awp_draw hmix rfl (by kernel_rfl) ?_
      first
        | refine dP (fun _ => false) (opp_mv (v := .sl _ _ _ _) rfl rfl) rfl rfl ?_
        | refine dP (fun _ => false) (opp_mv (v := .osl _ _ _ _ _) rfl rfl) rfl rfl ?_
      refine dP (fun _ => false) (opp_mv (v := .int _ _) rfl rfl) rfl rfl ?_
      refine dP (fun _ => false) (opp_mv (v := .int _ _) rfl rfl) rfl rfl ?_
      first
        | refine dP (fun _ => false) (opp_arith rfl rfl rfl (.inl ⟨rfl, w64 (by omega)⟩)) rfl rfl ?_
        | refine dP (fun _ => false) (opp_arith rfl rfl rfl (.inl ⟨rfl, rfl⟩)) rfl rfl ?_
      first
        | refine dP (fun _ => false) (opp_indexSl rfl rfl rfl el36 (by omega) (by omega)) rfl rfl ?_
        | refine dP (fun _ => false) (opp_indexOsl0 rfl rfl rfl el36 (by omega) (by omega)) rfl rfl ?_
        | refine dP (fun _ => false) (opp_indexOsl rfl rfl rfl el36 (by omega) (by omega)) rfl rfl ?_
      first
        | refine dP (fun n => !([31] : List Nat).contains n) (opp_loadP rfl rfl rfl rfl bi rfl ty5) rfl rfl ?_
        | refine dP (fun n => !([31] : List Nat).contains n) (opp_loadF rfl rfl ty5) rfl rfl ?_
      refine dP (fun _ => false) (opp_mv (v := .int _ _) rfl rfl) rfl rfl ?_
      refine dP (fun _ => false) (opp_mv (v := .int _ _) rfl rfl) rfl rfl ?_
      first
        | refine dP (fun _ => false) (opp_arith rfl rfl rfl (.inr <| .inr <| .inl ⟨rfl, w64 (by omega)⟩)) rfl rfl ?_
        | refine dP (fun _ => false) (opp_arith rfl rfl rfl (.inr <| .inr <| .inl ⟨rfl, rfl⟩)) rfl rfl ?_
      refine dP (fun _ => false) (opp_shift rfl rfl rfl (by omega) (.inr ⟨rfl, rfl⟩)) rfl rfl ?_
      first
        | refine dP (fun n => !([] : List Nat).contains n) (opp_convInt rfl rfl un24s un5 (wu8 (by omega))) rfl rfl ?_
        | refine dP (fun n => !([] : List Nat).contains n) (opp_convInt rfl rfl un24s un5 rfl) rfl rfl ?_
      rw [show ((s.length : Int) - 4 + (k : Int)).toNat = s.length - 4 + k by omega]
      refine dP (fun _ => false) (opp_cmp rfl rfl rfl rfl) rfl rfl ?_
      refine And.intro (by kernel_rfl) ?_
      refine awp_cond _ rfl (fun hc11 => ?_) (fun hc11 => ?_)
      · (try simp only [cmpI, errD_nil, Bool.not_eq_true', Bool.not_eq_false', decide_eq_true_eq, decide_eq_false_iff_not] at hc11); have ht32 := hc11
        refine awp_seq ?_
        refine awp_region rfl ?_
        first
          | refine sP (opp_as (v := .sl _ _ _ _) rfl rfl) rfl rfl ?_
          | refine sP (opp_as (v := .osl _ _ _ _ _) rfl rfl) rfl rfl ?_
        refine sP (opp_as (v := .int _ _) rfl rfl) rfl rfl ?_
        refine awp_ret ?_
        repeat (first | refine athen_ret ?_ | refine ain_ret ?_)
        first
          | refine apost_ret (aend (l := [.sl _ _ _ _, .int _ _]) (.tmp (.tmp .nil)) (fun h => by cases h) (.cons (.noN rfl rfl) (.cons (.noN rfl rfl) .nil)) ⟨Wk.v ?_, rfl, rfl⟩)
          | refine apost_ret (aends (l := [.sl _ _ _ _, .int _ _]) (.tmp (.tmp .nil)) (fun h => by cases h) (.cons shut (fun h => by cases h) (.cons shut (fun h => by cases h) .nil)) rfl ⟨Wk.v ?_, rfl, rfl⟩)
          | refine apost_ret (aend (l := [.osl _ _ _ _ _, .int _ _]) (.tmp (.tmp .nil)) (fun h => by cases h) (.cons (.noN rfl rfl) (.cons (.noN rfl rfl) .nil)) ⟨Wk.v ?_, rfl, rfl⟩)
          | refine apost_ret (aends (l := [.osl _ _ _ _ _, .int _ _]) (.tmp (.tmp .nil)) (fun h => by cases h) (.cons shut (fun h => by cases h) (.cons shut (fun h => by cases h) .nil)) rfl ⟨Wk.v ?_, rfl, rfl⟩)
        have hq : Sp.crcLaid (Sp.crcSum (s.take (s.length - 4))) ≠ s.drop (s.length - 4) := fun e => by
          refine ht32 ?_
          rw [hlb, e, List.getD_eq_getElem?_getD, List.getD_eq_getElem?_getD, List.getElem?_drop]
        rw [show Sp.opened s = ([], 6) by rw [Sp.opened, if_neg h4, if_pos hq]]; show Wk _ (.tup [.sl 1 true 0 _, .int .i64 6]); (repeat' (first | exact Wk.refl | exact Wk.sl0 | apply Wk.tup | apply Wk.agg | apply WkL.cons | exact WkL.nil | refine Wk.sl (fun _ _ => ?_)))
      · (try simp only [cmpI, errD_nil, Bool.not_eq_true', Bool.not_eq_false', decide_eq_true_eq, decide_eq_false_iff_not] at hc11); have ht32 := hc11
        refine awp_skip ?_
        refine awp_region rfl ?_
        refine sP (opp_mv (v := .int _ _) rfl rfl) rfl rfl ?_
        first
          | refine sP (opp_arith rfl rfl rfl (.inl ⟨rfl, w64 (by omega)⟩)) rfl rfl ?_
          | refine sP (opp_arith rfl rfl rfl (.inl ⟨rfl, rfl⟩)) rfl rfl ?_
        refine sP (opp_as (v := .int _ _) rfl rfl) rfl rfl ?_
        have he : s.getD (s.length - 4 + k) 0 = (Sp.crcLaid (Sp.crcSum (s.take (s.length - 4)))).getD k 0 := by
          have := ht32
          rw [hlb] at this
          apply UInt8.toNat_inj.1
          omega
        refine Exists.intro (k + 1) (And.intro (And.intro (⟨by omega, fun j hj => by by_cases e : j = k; (subst e; exact he); exact hi1.2 j (by omega)⟩) (by omega)) (by
          refine imp_over [] rfl rfl (by kernel_rfl) ?_ ?_
          · refine And.intro wkv ?_
            refine And.intro wkv ?_
            refine And.intro wkv ?_
            refine And.intro wkv ?_
            refine And.intro wkv ?_
            refine And.intro wkv ?_
            refine And.intro wkv ?_
            refine And.intro wkv ?_
            refine And.intro wkv ?_
            refine And.intro wkv ?_
            refine And.intro wkv ?_
            refine And.intro wkv ?_
            refine And.intro wkv ?_
            refine And.intro wkv ?_
            refine And.intro wkv ?_
            refine And.intro wkv ?_
            refine And.intro wkv ?_
            refine And.intro wkv ?_
            refine And.intro wkv ?_
            exact True.intro
          · exact True.intro
          ))
    · (try simp only [cmpI, errD_nil, Bool.not_eq_true', Bool.not_eq_false', decide_eq_true_eq, decide_eq_false_iff_not] at hc9); have ht18 := hc9
      refine awp_exit ?_
      refine awp_seq ?_
      refine awp_region rfl ?_
      refine sR (opr_buildSlice (n := 33) (g := fun _ => .int .u8 0) rfl eb36 z5 (by decide) rfl rfl) rfl rfl rfl ?_
      first
        | refine sP (opp_mv (v := .sl _ _ _ _) rfl rfl) rfl rfl ?_
        | refine sP (opp_mv (v := .osl _ _ _ _ _) rfl rfl) rfl rfl ?_
      refine sP (opp_mv (v := .int _ _) rfl rfl) rfl rfl ?_
      refine sP (opp_sliceSl rfl rfl rfl rfl el36 (by omega) (by omega) (by omega)) rfl rfl ?_
      first
        | refine sR (opr_append (d := 37) rfl rfl rfl (by omega) (.osl0 rfl (by omega)) eb36 z5 (by omega) (by omega)) rfl rfl rfl ?_
        | refine sR (opr_append (d := 37) rfl rfl rfl (by omega) .sl eb36 z5 (by omega) (by omega)) rfl rfl rfl ?_
        | refine sR (opr_append (d := 37) rfl rfl rfl (by omega) (.osl rfl (by omega) (fun _ _ => rfl)) eb36 z5 (by omega) (by omega)) rfl rfl rfl ?_
        | refine sR (opr_appendNil (d := 37) rfl rfl (.osl0 rfl (by omega)) eb36 z5 (by omega) (by omega) (by omega)) rfl rfl rfl ?_
        | refine sR (opr_appendNil (d := 37) rfl rfl .sl eb36 z5 (by omega) (by omega) (by omega)) rfl rfl rfl ?_
        | refine sR (opr_appendNil (d := 37) rfl rfl (.osl rfl (by omega) (fun _ _ => rfl)) eb36 z5 (by omega) (by omega) (by omega)) rfl rfl rfl ?_
      first
        | refine sP (opp_as (v := .sl _ _ _ _) rfl rfl) rfl rfl ?_
        | refine sP (opp_as (v := .osl _ _ _ _ _) rfl rfl) rfl rfl ?_
      refine sP (opp_as (v := .int _ _) rfl rfl) rfl rfl ?_
      refine awp_ret ?_
      repeat (first | refine athen_ret ?_ | refine ain_ret ?_)
      first
        | refine apost_ret (aend (l := [.sl _ _ _ _, .int _ _]) (.tmp (.tmp .nil)) (fun h => by cases h) (.cons (.noN rfl rfl) (.cons (.noN rfl rfl) .nil)) ⟨Wk.v ?_, rfl, rfl⟩)
        | refine apost_ret (aends (l := [.sl _ _ _ _, .int _ _]) (.tmp (.tmp .nil)) (fun h => by cases h) (.cons shut (fun h => by cases h) (.cons shut (fun h => by cases h) .nil)) rfl ⟨Wk.v ?_, rfl, rfl⟩)
        | refine apost_ret (aend (l := [.osl _ _ _ _ _, .int _ _]) (.tmp (.tmp .nil)) (fun h => by cases h) (.cons (.noN rfl rfl) (.cons (.noN rfl rfl) .nil)) ⟨Wk.v ?_, rfl, rfl⟩)
        | refine apost_ret (aends (l := [.osl _ _ _ _ _, .int _ _]) (.tmp (.tmp .nil)) (fun h => by cases h) (.cons shut (fun h => by cases h) (.cons shut (fun h => by cases h) .nil)) rfl ⟨Wk.v ?_, rfl, rfl⟩)
      have hq : ¬ Sp.crcLaid (Sp.crcSum (s.take (s.length - 4))) ≠ s.drop (s.length - 4) := not_not_intro (by
        apply List.ext_getElem?
        intro j
        by_cases hj : j < 4
        · have := hi1.2 j (by omega)
          rw [List.getElem?_drop, List.getElem?_eq_getElem (by omega), List.getElem?_eq_getElem (by omega)]
          simp only [List.getD_eq_getElem?_getD, List.getElem?_eq_getElem (show j < (Sp.crcLaid (Sp.crcSum (s.take (s.length - 4)))).length by omega), List.getElem?_eq_getElem (show s.length - 4 + j < s.length by omega), Option.getD_some] at this
          rw [this]
        · rw [List.getElem?_eq_none (by omega), List.getElem?_eq_none (by rw [List.length_drop]; omega)])
      rw [show Sp.opened s = (s.take (s.length - 4), 0) by rw [Sp.opened, if_neg h4, if_neg hq]]
      exact .tup (.cons (wk_slx (by rw [List.length_take]; omega) (fun j hj => by rw [if_neg (by omega), bAt_take _ _ _ (by omega)]; simp)) (.cons .refl .nil))
theorem laid_take (S : BitVec 32) (k : Nat) (hk : k < 4) : (Sp.crcLaid S).take (k + 1) = (Sp.crcLaid S).take k ++ [(Sp.crcLaid S).getD k 0] := by
  have : k = 0 ∨ k = 1 ∨ k = 2 ∨ k = 3 := by omega
  rcases this with rfl | rfl | rfl | rfl <;> rfl
theorem c131 (b : Bool) (im : List UInt8) (h0 : im.length ≤ 1099511627776) : APure (V ea cds gl) 131 [.sl 1 b im.length (bAt im)] false (.sl 1 false (Sp.crcSeal im).length (bAt (Sp.crcSeal im))) := by
  refine acalls_of_body (N := 24) Tryd.func131 rfl rfl (Nat.le_of_ble_eq_true rfl) fun C hV hN hM hO => ?_
  obtain ⟨_, _, w0, G0, σ0, _, own0⟩ := C; dsimp only at hV hN hM hO; subst hV; subst hN; subst hM
  refine awp_seq ?_
  refine awp_region rfl ?_
  first
    | refine sP (opp_as (v := .sl _ _ _ _) rfl rfl) rfl rfl ?_
    | refine sP (opp_as (v := .osl _ _ _ _ _) rfl rfl) rfl rfl ?_
  refine awp_seq ?_
  refine awp_region rfl ?_
  refine sR (opr_buildSlice (n := 6) (g := fun _ => .int .u8 0) rfl eb36 z5 (by decide) rfl rfl) rfl rfl rfl ?_
  first
    | refine sP (opp_mv (v := .sl _ _ _ _) rfl rfl) rfl rfl ?_
    | refine sP (opp_mv (v := .osl _ _ _ _ _) rfl rfl) rfl rfl ?_
  first
    | refine sR (opr_append (d := 8) rfl rfl rfl (by omega) (.osl0 rfl (by omega)) eb36 z5 (by omega) (by omega)) rfl rfl rfl ?_
    | refine sR (opr_append (d := 8) rfl rfl rfl (by omega) .sl eb36 z5 (by omega) (by omega)) rfl rfl rfl ?_
    | refine sR (opr_append (d := 8) rfl rfl rfl (by omega) (.osl rfl (by omega) (fun _ _ => rfl)) eb36 z5 (by omega) (by omega)) rfl rfl rfl ?_
    | refine sR (opr_appendNil (d := 8) rfl rfl (.osl0 rfl (by omega)) eb36 z5 (by omega) (by omega) (by omega)) rfl rfl rfl ?_
    | refine sR (opr_appendNil (d := 8) rfl rfl .sl eb36 z5 (by omega) (by omega) (by omega)) rfl rfl rfl ?_
    | refine sR (opr_appendNil (d := 8) rfl rfl (.osl rfl (by omega) (fun _ _ => rfl)) eb36 z5 (by omega) (by omega) (by omega)) rfl rfl rfl ?_
  first
    | refine sP (opp_as (v := .sl _ _ _ _) rfl rfl) rfl rfl ?_
    | refine sP (opp_as (v := .osl _ _ _ _ _) rfl rfl) rfl rfl ?_
  refine awp_seq ?_
  refine awp_region rfl ?_
  first
    | refine sP (opp_mv (v := .sl _ _ _ _) rfl rfl) rfl rfl ?_
    | refine sP (opp_mv (v := .osl _ _ _ _ _) rfl rfl) rfl rfl ?_
  refine sR (opr_call rfl rfl ent135 rfl (c135 b im (by omega)) (AViews.refl _ rfl)) rfl rfl rfl ?_ -- d=10 t=24
  refine sP (opp_as (v := .int _ _) rfl rfl) rfl rfl ?_
  refine awp_seq ?_
  refine awp_seq ?_
  refine awp_region rfl ?_
  refine sP (opp_as (v := .int _ _) rfl rfl) rfl rfl ?_
  refine awp_block ?_
  refine awp_loopK (ι := Nat) (fun k => k ≤ 4) (fun k => [(3, .osl 1008 1 0 (im ++ (Sp.crcLaid (Sp.crcSum im)).take k).length (im ++ (Sp.crcLaid (Sp.crcSum im)).take k).length), (5, .int .i64 (k : Int)), (11, .top), (12, .top), (13, .top), (14, .top), (15, .top), (16, .top), (17, .top), (18, .top), (19, .top), (20, .top), (21, .top), (22, .top)]) (fun k => [(1008, some (.arr 1 (im ++ (Sp.crcLaid (Sp.crcSum im)).take k).length (bAt (im ++ (Sp.crcLaid (Sp.crcSum im)).take k)))), (8, none)]) [1008] (fun k => 4 - k) (0) (Nat.zero_le _) (by
    refine imp_over [(1008, 8)] rfl rfl (by kernel_rfl) ?_ ?_
    · refine And.intro (by exact Or.inr (And.intro rfl (WkV.of (by show AV.osl 8 1 0 _ _ = AV.osl 8 1 0 _ _; simp)))) ?_
      refine And.intro wkv ?_
      refine And.intro wkv ?_
      refine And.intro wkv ?_
      refine And.intro wkv ?_
      refine And.intro wkv ?_
      refine And.intro wkv ?_
      refine And.intro wkv ?_
      refine And.intro wkv ?_
      refine And.intro wkv ?_
      refine And.intro wkv ?_
      refine And.intro wkv ?_
      refine And.intro wkv ?_
      refine And.intro wkv ?_
      exact True.intro
    · refine And.intro (And.intro rfl (And.intro rfl (Exists.intro _ (And.intro rfl (by show WkC (AV.arr 1 _ _) (AV.arr 1 _ _); rw [List.take_zero, List.append_nil, Nat.zero_add]; exact WkC.arr (fun j hj => by simp)))))) ?_
      exact True.intro
    ) ?_
  intro k hi1
  refine awp_seq ?_
  refine awp_seq ?_
  refine awp_region rfl ?_
  refine sP (opp_mv (v := .int _ _) rfl rfl) rfl rfl ?_
  refine sP (opp_cmp rfl rfl rfl rfl) rfl rfl ?_
  refine awp_cond _ rfl (fun hc6 => ?_) (fun hc6 => ?_)
  · (try simp only [cmpI, errD_nil, Bool.not_eq_true', Bool.not_eq_false', decide_eq_true_eq, decide_eq_false_iff_not] at hc6); have ht12 := hc6
    refine awp_skip ?_
    refine awp_seq ?_
    refine awp_block ?_
    have hlen : (im ++ (Sp.crcLaid (Sp.crcSum im)).take k).length ≤ im.length + 4 := by rw [List.length_append, List.length_take]; omega
    refine awp_region rfl ?_
    first
      | refine sP (opp_mv (v := .sl _ _ _ _) rfl rfl) rfl rfl ?_
      | refine sP (opp_mv (v := .osl _ _ _ _ _) rfl rfl) rfl rfl ?_
    refine sP (opp_mv (v := .int _ _) rfl rfl) rfl rfl ?_
    refine sP (opp_mv (v := .int _ _) rfl rfl) rfl rfl ?_
    first
      | refine sP (opp_arith rfl rfl rfl (.inr <| .inr <| .inl ⟨rfl, w64 (by omega)⟩)) rfl rfl ?_
      | refine sP (opp_arith rfl rfl rfl (.inr <| .inr <| .inl ⟨rfl, rfl⟩)) rfl rfl ?_
    refine sP (opp_shift rfl rfl rfl (by omega) (.inr ⟨rfl, rfl⟩)) rfl rfl ?_
    first
      | refine sP (opp_convInt rfl rfl un24s un5 (wu8 (by omega))) rfl rfl ?_
      | refine sP (opp_convInt rfl rfl un24s un5 rfl) rfl rfl ?_
    refine sR (opr_buildSlice (n := 21) (g := fun j => if j = 0 then .int _ _ else .int .u8 0) rfl eb36 z5 (by decide) rfl rfl) rfl rfl rfl ?_
    first
      | refine sR (opr_append (d := 22) rfl rfl rfl (by omega) (.osl0 rfl (by omega)) eb36 z5 (by omega) (by omega)) rfl rfl rfl ?_
      | refine sR (opr_append (d := 22) rfl rfl rfl (by omega) .sl eb36 z5 (by omega) (by omega)) rfl rfl rfl ?_
      | refine sR (opr_append (d := 22) rfl rfl rfl (by omega) (.osl rfl (by omega) (fun _ _ => rfl)) eb36 z5 (by omega) (by omega)) rfl rfl rfl ?_
      | refine sR (opr_appendNil (d := 22) rfl rfl (.osl0 rfl (by omega)) eb36 z5 (by omega) (by omega) (by omega)) rfl rfl rfl ?_
      | refine sR (opr_appendNil (d := 22) rfl rfl .sl eb36 z5 (by omega) (by omega) (by omega)) rfl rfl rfl ?_
      | refine sR (opr_appendNil (d := 22) rfl rfl (.osl rfl (by omega) (fun _ _ => rfl)) eb36 z5 (by omega) (by omega) (by omega)) rfl rfl rfl ?_
    first
      | refine sP (opp_as (v := .sl _ _ _ _) rfl rfl) rfl rfl ?_
      | refine sP (opp_as (v := .osl _ _ _ _ _) rfl rfl) rfl rfl ?_
    refine awp_region rfl ?_
    refine sP (opp_mv (v := .int _ _) rfl rfl) rfl rfl ?_
    first
      | refine sP (opp_arith rfl rfl rfl (.inl ⟨rfl, w64 (by omega)⟩)) rfl rfl ?_
      | refine sP (opp_arith rfl rfl rfl (.inl ⟨rfl, rfl⟩)) rfl rfl ?_
    refine sP (opp_as (v := .int _ _) rfl rfl) rfl rfl ?_
    refine Exists.intro (k + 1) (And.intro (And.intro (by omega) (by omega)) (by
      refine imp_over [(1008, 22)] rfl rfl (by kernel_rfl) ?_ ?_
      · refine And.intro (by exact Or.inr (And.intro rfl (WkV.of (by show AV.osl 22 1 0 _ _ = AV.osl 22 1 0 _ _; rw [laid_take _ k (by omega)]; simp [List.append_assoc]; omega)))) ?_
        refine And.intro wkv ?_
        refine And.intro wkv ?_
        refine And.intro wkv ?_
        refine And.intro wkv ?_
        refine And.intro wkv ?_
        refine And.intro wkv ?_
        refine And.intro wkv ?_
        refine And.intro wkv ?_
        refine And.intro wkv ?_
        refine And.intro wkv ?_
        refine And.intro wkv ?_
        refine And.intro wkv ?_
        refine And.intro wkv ?_
        exact True.intro
      · refine And.intro (And.intro rfl (And.intro rfl (Exists.intro _ (And.intro rfl (by show WkC (AV.arr 1 _ _) (AV.arr 1 _ _); have e := laid_byte (Sp.crcSum im) k (by omega); rw [laid_take _ k (by omega), ← List.append_assoc]; exact row_put _ _ _ e))))) ?_
        exact True.intro
      ))
  · (try simp only [cmpI, errD_nil, Bool.not_eq_true', Bool.not_eq_false', decide_eq_true_eq, decide_eq_false_iff_not] at hc6); have ht12 := hc6
    refine awp_exit ?_
    refine awp_seq ?_
    refine awp_region rfl ?_
    first
      | refine sP (opp_mv (v := .sl _ _ _ _) rfl rfl) rfl rfl ?_
      | refine sP (opp_mv (v := .osl _ _ _ _ _) rfl rfl) rfl rfl ?_
    first
      | refine sP (opp_as (v := .sl _ _ _ _) rfl rfl) rfl rfl ?_
      | refine sP (opp_as (v := .osl _ _ _ _ _) rfl rfl) rfl rfl ?_
    refine awp_ret ?_
    repeat (first | refine athen_ret ?_ | refine ain_ret ?_)
    first
      | refine apost_ret (aend1 (r0 := .sl _ _ _ _) (.tmp .nil) (.noN rfl rfl) ⟨Wk.v ?_, rfl, rfl⟩)
      | refine apost_ret (aend1s (r0 := .sl _ _ _ _) (.tmp .nil) shut rfl ⟨Wk.v ?_, rfl, rfl⟩)
      | refine apost_ret (aend1 (r0 := .osl _ _ _ _ _) (.tmp .nil) (.noN rfl rfl) ⟨Wk.v ?_, rfl, rfl⟩)
      | refine apost_ret (aend1s (r0 := .osl _ _ _ _ _) (.tmp .nil) shut rfl ⟨Wk.v ?_, rfl, rfl⟩)
    rw [show k = 4 by omega, List.take_of_length_le (show (Sp.crcLaid (Sp.crcSum im)).length ≤ 4 by simp [Sp.crcLaid])]; exact .refl
theorem div_next (n k : Nat) (hn : n < 4611686018427387904) : IntKind.i64.wrap (((n / 256 ^ k : Nat) : Int).tdiv 256) = ((n / 256 ^ (k + 1) : Nat) : Int) := by
  have h1 : n / 256 ^ k ≤ n := Nat.div_le_self _ _
  rw [Nat.pow_succ, ← Nat.div_div_eq_div_mul]
  generalize n / 256 ^ k = m at h1 ⊢
  rw [Int.tdiv_eq_ediv_of_nonneg (by omega), w64 (by omega)]; omega
theorem num_row (n w k j : Nat) (hk : k < w) (hj : j < w) : (if j = ((w : Int) - 1 - (k : Int)).toNat then AV.int .u8 (IntKind.u8.wrap (((n / 256 ^ k : Nat) : Int).tmod 256)) else AV.int .u8 (if w - k ≤ j then (((Sp.be n w).getD j 0).toNat : Int) else 0)) = AV.int .u8 (if w - (k + 1) ≤ j then (((Sp.be n w).getD j 0).toNat : Int) else 0) := by
  have e : ((w : Int) - 1 - (k : Int)).toNat = w - 1 - k := by omega
  rw [e]
  by_cases h : j = w - 1 - k
  · rw [if_pos h, if_pos (by omega), Sp.be_getD n w j hj, show w - 1 - j = k by omega]
    generalize n / 256 ^ k = m
    rw [Int.tmod_eq_emod_of_nonneg (by omega), show (m : Int) % 256 = ((m % 256 : Nat) : Int) by omega, u8_wrap]
  · rw [if_neg h]
    by_cases h2 : w - k ≤ j
    · rw [if_pos h2, if_pos (by omega)]
    · rw [if_neg h2, if_neg (by omega)]
theorem co130 (n w : Nat) (hw : w ≤ 4) (hn : n < 4611686018427387904) : AOwn (V ea cds gl) 130 [.int .i64 (n : Int), .int .i64 (w : Int)] false (.osl 8 1 0 w w) [(8, some (.arr 1 w (bAt (Sp.be n w))))] := by
  refine aown_of_body (N := 24) Tryd.func130 rfl rfl (Nat.le_of_ble_eq_true rfl) fun C hV hN hM hO => ?_
  obtain ⟨_, _, w0, G0, σ0, _, own0⟩ := C; dsimp only at hV hN hM hO; subst hV; subst hN; subst hM
  refine awp_seq ?_
  refine awp_region rfl ?_
  first
    | refine sP (opp_as (v := .sl _ _ _ _) rfl rfl) rfl rfl ?_
    | refine sP (opp_as (v := .osl _ _ _ _ _) rfl rfl) rfl rfl ?_
  refine awp_seq ?_
  refine awp_region rfl ?_
  refine sP (opp_mv (v := .int _ _) rfl rfl) rfl rfl ?_
  refine sR (opr_make (n := 8) rfl rfl rfl eb36 z5 (by omega) (by omega) (by omega) (by omega)) rfl rfl rfl ?_
  first
    | refine sP (opp_as (v := .sl _ _ _ _) rfl rfl) rfl rfl ?_
    | refine sP (opp_as (v := .osl _ _ _ _ _) rfl rfl) rfl rfl ?_
  refine awp_seq ?_
  refine awp_seq ?_
  refine awp_region rfl ?_
  refine sP (opp_mv (v := .int _ _) rfl rfl) rfl rfl ?_
  first
    | refine sP (opp_arith rfl rfl rfl (.inr <| .inl ⟨rfl, w64 (by omega)⟩)) rfl rfl ?_
    | refine sP (opp_arith rfl rfl rfl (.inr <| .inl ⟨rfl, rfl⟩)) rfl rfl ?_
  refine sP (opp_as (v := .int _ _) rfl rfl) rfl rfl ?_
  refine awp_block ?_
  refine awp_loopK (ι := Nat) (fun k => k ≤ w) (fun k => [(0, .int .i64 ((n / 256 ^ k : Nat) : Int)), (6, .int .i64 ((w : Int) - 1 - k)), (11, .top), (12, .top), (13, .top), (14, .top), (15, .top), (16, .top), (17, .top), (18, .top), (19, .top), (20, .top), (21, .top), (22, .top)]) (fun k => [(8, some (.arr 1 w (fun j => .int .u8 (if w - k ≤ j then (((Sp.be n w).getD j 0).toNat : Int) else 0))))]) [] (fun k => w - k) (0) (Nat.zero_le _) (by
    refine imp_over [] rfl rfl (by kernel_rfl) ?_ ?_
    · refine And.intro (by exact Or.inr (And.intro rfl (WkV.of (by show AV.int .i64 _ = AV.int .i64 _; simp)))) ?_
      refine And.intro (by exact Or.inr (And.intro rfl (WkV.of (by show AV.int .i64 _ = AV.int .i64 _; simp)))) ?_
      refine And.intro wkv ?_
      refine And.intro wkv ?_
      refine And.intro wkv ?_
      refine And.intro wkv ?_
      refine And.intro wkv ?_
      refine And.intro wkv ?_
      refine And.intro wkv ?_
      refine And.intro wkv ?_
      refine And.intro wkv ?_
      refine And.intro wkv ?_
      refine And.intro wkv ?_
      refine And.intro wkv ?_
      exact True.intro
    · refine And.intro (And.intro rfl (And.intro rfl (Exists.intro _ (And.intro rfl (by exact WkC.arr (fun j hj => by rw [if_neg (by omega)])))))) ?_
      exact True.intro
    ) ?_
  intro k hi1
  refine awp_seq ?_
  refine awp_seq ?_
  refine awp_region rfl ?_
  refine sP (opp_mv (v := .int _ _) rfl rfl) rfl rfl ?_
  refine sP (opp_cmp rfl rfl rfl rfl) rfl rfl ?_
  refine awp_cond _ rfl (fun hc5 => ?_) (fun hc5 => ?_)
  · (try simp only [cmpI, errD_nil, Bool.not_eq_true', Bool.not_eq_false', decide_eq_true_eq, decide_eq_false_iff_not] at hc5); have ht12 := hc5
    refine awp_skip ?_
    refine awp_seq ?_
    refine awp_block ?_
    refine awp_seq ?_
    refine awp_region rfl ?_
    first
      | refine sP (opp_mv (v := .sl _ _ _ _) rfl rfl) rfl rfl ?_
      | refine sP (opp_mv (v := .osl _ _ _ _ _) rfl rfl) rfl rfl ?_
    refine sP (opp_mv (v := .int _ _) rfl rfl) rfl rfl ?_
    refine sP (opp_mv (v := .int _ _) rfl rfl) rfl rfl ?_
    refine sP (opp_arith rfl rfl rfl (.inr <| .inr <| .inr <| .inr <| .inl ⟨rfl, by omega, rfl⟩)) rfl rfl ?_
    first
      | refine sP (opp_convInt rfl rfl un3s un5 (wu8 (by omega))) rfl rfl ?_
      | refine sP (opp_convInt rfl rfl un3s un5 rfl) rfl rfl ?_
    first
      | refine sP (opp_indexSl rfl rfl rfl el36 (by omega) (by omega)) rfl rfl ?_
      | refine sP (opp_indexOsl0 rfl rfl rfl el36 (by omega) (by omega)) rfl rfl ?_
      | refine sP (opp_indexOsl rfl rfl rfl el36 (by omega) (by omega)) rfl rfl ?_
    refine sR0 (opr_storeA (v := .int _ _) rfl rfl rfl (by omega) (by first | rfl | omega) rfl rfl rfl rfl ty5) rfl rfl rfl ?_
    refine awp_region rfl ?_
    refine sP (opp_mv (v := .int _ _) rfl rfl) rfl rfl ?_
    refine sP (opp_arith rfl rfl rfl (.inr <| .inr <| .inr <| .inl ⟨rfl, by omega, rfl⟩)) rfl rfl ?_
    refine sP (opp_as (v := .int _ _) rfl rfl) rfl rfl ?_
    refine awp_region rfl ?_
    refine sP (opp_mv (v := .int _ _) rfl rfl) rfl rfl ?_
    first
      | refine sP (opp_arith rfl rfl rfl (.inr <| .inl ⟨rfl, w64 (by omega)⟩)) rfl rfl ?_
      | refine sP (opp_arith rfl rfl rfl (.inr <| .inl ⟨rfl, rfl⟩)) rfl rfl ?_
    refine sP (opp_as (v := .int _ _) rfl rfl) rfl rfl ?_
    refine Exists.intro (k + 1) (And.intro (And.intro (by omega) (by omega)) (by
      refine imp_over [] rfl rfl (by kernel_rfl) ?_ ?_
      · refine And.intro (by exact Or.inr (And.intro rfl (WkV.of (by show AV.int .i64 _ = AV.int .i64 _; rw [div_next n k hn])))) ?_
        refine And.intro (by exact Or.inr (And.intro rfl (WkV.of (by show AV.int .i64 _ = AV.int .i64 _; simp; omega)))) ?_
        refine And.intro wkv ?_
        refine And.intro wkv ?_
        refine And.intro wkv ?_
        refine And.intro wkv ?_
        refine And.intro wkv ?_
        refine And.intro wkv ?_
        refine And.intro wkv ?_
        refine And.intro wkv ?_
        refine And.intro wkv ?_
        refine And.intro wkv ?_
        refine And.intro wkv ?_
        refine And.intro wkv ?_
        exact True.intro
      · refine And.intro (And.intro rfl (And.intro rfl (Exists.intro _ (And.intro rfl (by exact WkC.arr (fun j hj => num_row n w k j (by omega) hj)))))) ?_
        exact True.intro
      ))
  · (try simp only [cmpI, errD_nil, Bool.not_eq_true', Bool.not_eq_false', decide_eq_true_eq, decide_eq_false_iff_not] at hc5); have ht12 := hc5
    refine awp_exit ?_
    refine awp_seq ?_
    refine awp_region rfl ?_
    first
      | refine sP (opp_mv (v := .sl _ _ _ _) rfl rfl) rfl rfl ?_
      | refine sP (opp_mv (v := .osl _ _ _ _ _) rfl rfl) rfl rfl ?_
    first
      | refine sP (opp_as (v := .sl _ _ _ _) rfl rfl) rfl rfl ?_
      | refine sP (opp_as (v := .osl _ _ _ _ _) rfl rfl) rfl rfl ?_
    refine awp_ret ?_
    repeat (first | refine athen_ret ?_ | refine ain_ret ?_)
    first
      | refine opost_ret (oend1 (r0 := .sl _ _ _ _) (.tmp .nil) shut rfl ?_ (And.intro (Exists.intro _ (Exists.intro _ (And.intro rfl (And.intro shut (And.intro (fun h => by cases h) (And.intro ?_ rfl)))))) True.intro))
      | refine opost_ret (oend1 (r0 := .osl _ _ _ _ _) (.tmp .nil) shut rfl ?_ (And.intro (Exists.intro _ (Exists.intro _ (And.intro rfl (And.intro shut (And.intro (fun h => by cases h) (And.intro ?_ rfl)))))) True.intro))
    · exact .refl
    · exact .arr (fun j hj => by rw [if_pos (by omega)]; rfl)
theorem c103 (s : List UInt8) (a n : Nat) (h : a + n ≤ s.length) (h0 : s.length ≤ 140737488355328) (hn : n ≤ 4) : APure (V ea cds gl) 103 [.str s, .int .i64 (a : Int), .int .i64 (n : Int)] false (.int .i64 (Sp.fld s a n : Nat)) := by
  refine acalls_of_body (N := 24) Tryd.func103 rfl rfl (Nat.le_of_ble_eq_true rfl) fun C hV hN hM hO => ?_
  obtain ⟨_, _, w0, G0, σ0, _, own0⟩ := C; dsimp only at hV hN hM hO; subst hV; subst hN; subst hM
  refine awp_seq ?_
  refine awp_region rfl ?_
  refine sP (opp_as (v := .int _ _) rfl rfl) rfl rfl ?_
  refine awp_seq ?_
  refine awp_region rfl ?_
  refine sP (opp_as (v := .int _ _) rfl rfl) rfl rfl ?_
  refine awp_seq ?_
  refine awp_seq ?_
  refine awp_region rfl ?_
  refine sP (opp_as (v := .int _ _) rfl rfl) rfl rfl ?_
  refine awp_block ?_
  refine awp_loopK (ι := Nat) (fun i => i ≤ n) (fun i => [(7, .int .i64 (Sp.fld s a i : Nat)), (8, .int .i64 (i : Int)), (9, .top), (10, .top), (11, .top), (12, .top), (13, .top), (14, .top), (15, .top), (16, .top), (17, .top), (18, .top), (19, .top), (20, .top), (21, .top), (22, .top)]) (fun i => []) [] (fun i => n - i) (0) (Nat.zero_le _) (by
    refine imp_over [] rfl rfl (by kernel_rfl) ?_ ?_
    · refine And.intro wkv ?_
      refine And.intro wkv ?_
      refine And.intro wkv ?_
      refine And.intro wkv ?_
      refine And.intro wkv ?_
      refine And.intro wkv ?_
      refine And.intro wkv ?_
      refine And.intro wkv ?_
      refine And.intro wkv ?_
      refine And.intro wkv ?_
      refine And.intro wkv ?_
      refine And.intro wkv ?_
      refine And.intro wkv ?_
      refine And.intro wkv ?_
      refine And.intro wkv ?_
      refine And.intro wkv ?_
      exact True.intro
    · exact True.intro
    ) ?_
  intro i hi1
  refine awp_seq ?_
  refine awp_seq ?_
  refine awp_region rfl ?_
  refine sP (opp_mv (v := .int _ _) rfl rfl) rfl rfl ?_
  refine sP (opp_mv (v := .int _ _) rfl rfl) rfl rfl ?_
  refine sP (opp_cmp rfl rfl rfl rfl) rfl rfl ?_
  refine awp_cond _ rfl (fun hc5 => ?_) (fun hc5 => ?_)
  · (try simp only [cmpI, errD_nil, Bool.not_eq_true', Bool.not_eq_false', decide_eq_true_eq, decide_eq_false_iff_not] at hc5); have ht11 := hc5
    refine awp_skip ?_
    refine awp_seq ?_
    refine awp_block ?_
    have hf := fld_lt s a i
    have h3 : 256 ^ i ≤ 256 ^ 3 := Nat.pow_le_pow_right (by decide) (by omega)
    refine awp_region rfl ?_
    refine sP (opp_mv (v := .int _ _) rfl rfl) rfl rfl ?_
    first
      | refine sP (opp_arith rfl rfl rfl (.inr <| .inr <| .inl ⟨rfl, w64 (by omega)⟩)) rfl rfl ?_
      | refine sP (opp_arith rfl rfl rfl (.inr <| .inr <| .inl ⟨rfl, rfl⟩)) rfl rfl ?_
    refine sP (opp_mv (v := .str _) rfl rfl) rfl rfl ?_
    refine sP (opp_mv (v := .int _ _) rfl rfl) rfl rfl ?_
    refine sP (opp_mv (v := .int _ _) rfl rfl) rfl rfl ?_
    first
      | refine sP (opp_arith rfl rfl rfl (.inl ⟨rfl, w64 (by omega)⟩)) rfl rfl ?_
      | refine sP (opp_arith rfl rfl rfl (.inl ⟨rfl, rfl⟩)) rfl rfl ?_
    refine sP (opp_indexStr rfl rfl rfl un9 (by omega) (by omega)) rfl rfl ?_
    first
      | refine sP (opp_convInt rfl rfl un5s un3 (w64 (by omega))) rfl rfl ?_
      | refine sP (opp_convInt rfl rfl un5s un3 rfl) rfl rfl ?_
    first
      | refine sP (opp_arith rfl rfl rfl (.inl ⟨rfl, w64 (by omega)⟩)) rfl rfl ?_
      | refine sP (opp_arith rfl rfl rfl (.inl ⟨rfl, rfl⟩)) rfl rfl ?_
    refine sP (opp_as (v := .int _ _) rfl rfl) rfl rfl ?_
    refine awp_region rfl ?_
    refine sP (opp_mv (v := .int _ _) rfl rfl) rfl rfl ?_
    first
      | refine sP (opp_arith rfl rfl rfl (.inl ⟨rfl, w64 (by omega)⟩)) rfl rfl ?_
      | refine sP (opp_arith rfl rfl rfl (.inl ⟨rfl, rfl⟩)) rfl rfl ?_
    refine sP (opp_as (v := .int _ _) rfl rfl) rfl rfl ?_
    refine Exists.intro (i + 1) (And.intro (And.intro (by omega) (by omega)) (by
      refine imp_over [] rfl rfl (by kernel_rfl) ?_ ?_
      · refine And.intro (by exact Or.inr (And.intro rfl (WkV.of (by show AV.int .i64 _ = AV.int .i64 _; rw [fld_succ s a i (by omega), show ((a : Int) + (i : Int)).toNat = a + i by omega]; have hc := (s.getD (a + i) 0).toNat_lt; rw [w64 (n := ((s.getD (a + i) 0).toNat : Int)) (by omega), w64 (by omega)]; congr 1; omega)))) ?_
        refine And.intro wkv ?_
        refine And.intro wkv ?_
        refine And.intro wkv ?_
        refine And.intro wkv ?_
        refine And.intro wkv ?_
        refine And.intro wkv ?_
        refine And.intro wkv ?_
        refine And.intro wkv ?_
        refine And.intro wkv ?_
        refine And.intro wkv ?_
        refine And.intro wkv ?_
        refine And.intro wkv ?_
        refine And.intro wkv ?_
        refine And.intro wkv ?_
        refine And.intro wkv ?_
        exact True.intro
      · exact True.intro
      ))
  · (try simp only [cmpI, errD_nil, Bool.not_eq_true', Bool.not_eq_false', decide_eq_true_eq, decide_eq_false_iff_not] at hc5); have ht11 := hc5
    refine awp_exit ?_
    refine awp_seq ?_
    refine awp_region rfl ?_
    refine sP (opp_mv (v := .int _ _) rfl rfl) rfl rfl ?_
    refine sP (opp_as (v := .int _ _) rfl rfl) rfl rfl ?_
    refine awp_ret ?_
    repeat (first | refine athen_ret ?_ | refine ain_ret ?_)
    first
      | refine apost_ret (aend1 (r0 := .int _ _) (.tmp .nil) (.noN rfl rfl) ⟨Wk.v ?_, rfl, rfl⟩)
      | refine apost_ret (aend1s (r0 := .int _ _) (.tmp .nil) shut rfl ⟨Wk.v ?_, rfl, rfl⟩)
    rw [show i = n by omega]; exact .refl
end
end Go.Proofs.YtgaihhimkodmmaaDoor
/- The document's answers for layer 20: a note's bytes, the note of bytes (walks over this dump). -/
namespace Go.Proofs.YtgaihhimkodmmaaDoor
attribute [local irreducible] Tryd.prog
open Go.Fy
set_option linter.unusedSimpArgs false
set_option linter.unusedVariables false
theorem lits2 (x y j : Nat) : (if j = 1 then AV.int .u8 (IntKind.u8.wrap (y : Int)) else if j = 0 then AV.int .u8 (IntKind.u8.wrap (x : Int)) else AV.int .u8 0) = bAt (Sp.be x 1 ++ Sp.be y 1) j := by
  rcases j with _ | _ | j
  · simp [bAt, Sp.be, u8_wrap]
  · simp [bAt, Sp.be, u8_wrap]
  · simp [bAt, Sp.be]
theorem lits3 (x y z j : Nat) : (if j = 2 then AV.int .u8 (IntKind.u8.wrap (z : Int)) else if j = 1 then AV.int .u8 (IntKind.u8.wrap (y : Int)) else if j = 0 then AV.int .u8 (IntKind.u8.wrap (x : Int)) else AV.int .u8 0) = bAt (Sp.be x 1 ++ (Sp.be y 1 ++ Sp.be z 1)) j := by
  rcases j with _ | _ | _ | j
  · simp [bAt, Sp.be, u8_wrap]
  · simp [bAt, Sp.be, u8_wrap]
  · simp [bAt, Sp.be, u8_wrap]
  · simp [bAt, Sp.be]
theorem lay_head (n k p j : Nat) : (if j < 2 then bAt (Sp.be n 2) j else if j - 2 = 1 then AV.int .u8 (IntKind.u8.wrap (p : Int)) else if j - 2 = 0 then AV.int .u8 (IntKind.u8.wrap (k : Int)) else AV.int .u8 0) = bAt (Sp.be n 2 ++ (Sp.be k 1 ++ Sp.be p 1)) j := by
  rw [lits2, ← bAt_append (Sp.be n 2), Sp.be_length]
theorem lay_row (B d : List UInt8) (st ix to su j : Nat) : (if j < B.length + 3 + 4 then if j < B.length + 3 then if j < B.length then bAt B j else if j - B.length = 2 then AV.int .u8 (IntKind.u8.wrap (to : Int)) else if j - B.length = 1 then AV.int .u8 (IntKind.u8.wrap (ix : Int)) else if j - B.length = 0 then AV.int .u8 (IntKind.u8.wrap (st : Int)) else AV.int .u8 0
    else bAt (Sp.be su 4) (j - (B.length + 3)) else bAt d (j - (B.length + 3 + 4))) = bAt (B ++ (Sp.be st 1 ++ (Sp.be ix 1 ++ Sp.be to 1)) ++ Sp.be su 4 ++ d) j := by
  rw [lits3, ← bAt_append _ d, ← bAt_append _ (Sp.be su 4), ← bAt_append B]
  simp only [List.length_append, Sp.be_length]
theorem row_app (B X : List UInt8) (k : Nat) (h : X.length = k) : WkC (.arr 1 (B.length + k) fun j => if j < B.length then bAt B j else bAt X (j - B.length)) (.arr 1 (B ++ X).length (bAt (B ++ X))) := by
  subst h; rw [List.length_append]; exact WkC.arr (fun j hj => bAt_append B X j)
section
variable {ea : Nat → Addr} {cds : List Nat} {gl : Nat → Option AV}
theorem c97 (k p bo pe nu st ix to su : Nat) (d : List UInt8) (hc : Sp.check ⟨k, p, ⟨bo, pe, nu⟩, st, ix, to, su, d⟩ = 0) (hs : su ≤ 4294967295) :
    APure (V ea cds gl) 97 [noteAV ⟨k, p, ⟨bo, pe, nu⟩, st, ix, to, su, d⟩] false (.str (Sp.crcSeal (Sp.noteBytes ⟨k, p, ⟨bo, pe, nu⟩, st, ix, to, su, d⟩))) := by
  have hb := Sp.check_bounds hc
  dsimp only at hb
  refine acalls_of_body (N := 66) Tryd.func97 rfl rfl (Nat.le_of_ble_eq_true rfl) fun C hV hN hM hO => ?_
  obtain ⟨_, _, w0, G0, σ0, _, own0⟩ := C; dsimp only at hV hN hM hO; subst hV; subst hN; subst hM
  refine awp_seq ?_
  refine awp_region rfl ?_
  refine sR (opr_box (y := .agg _) (n := 1) rfl rfl rfl) rfl rfl rfl ?_
  refine sP (opp_as (v := .str _) rfl rfl) rfl rfl ?_
  refine awp_seq ?_
  refine awp_region rfl ?_
  first
    | refine sP (opp_fieldP rfl rfl fld26_7 rfl) rfl rfl ?_
    | refine sP (opp_fieldF rfl rfl rfl fld26_7 rfl rfl) rfl rfl ?_
  first
    | refine sP (opp_loadP rfl rfl rfl rfl bi rfl ty9) rfl rfl ?_
    | refine sP (opp_loadF rfl rfl ty9) rfl rfl ?_
  refine sP (opp_lenStr rfl rfl un9) rfl rfl ?_
  first
    | refine sP (opp_arith rfl rfl rfl (.inl ⟨rfl, w64 (by omega)⟩)) rfl rfl ?_
    | refine sP (opp_arith rfl rfl rfl (.inl ⟨rfl, rfl⟩)) rfl rfl ?_
  rw [show IntKind.i64.wrap (27 + (d.length : Int)) = ((27 + d.length : Nat) : Int) by rw [w64 (by omega)]; omega]
  first
      | refine sR (opr_callO (rl := [(8, 10)]) (r1 := .osl _ _ _ _ _) (H1 := [(10, some (.arr _ _ _))]) (n1 := [10]) rfl rfl ent130 rfl (co130 (27 + d.length) 2 (by omega) (by omega)) (AViews.refl _ rfl) rfl rfl rfl rfl) rfl rfl rfl ?_
      | refine sR (opr_callO (rl := [(8, 10)]) (r1 := .sl _ _ _ _) (H1 := [(10, some (.arr _ _ _))]) (n1 := [10]) rfl rfl ent130 rfl (co130 (27 + d.length) 2 (by omega) (by omega)) (AViews.refl _ rfl) rfl rfl rfl rfl) rfl rfl rfl ?_
  first
    | refine sP (opp_as (v := .sl _ _ _ _) rfl rfl) rfl rfl ?_
    | refine sP (opp_as (v := .osl _ _ _ _ _) rfl rfl) rfl rfl ?_
  refine awp_seq ?_
  refine awp_region rfl ?_
  first
    | refine sP (opp_mv (v := .sl _ _ _ _) rfl rfl) rfl rfl ?_
    | refine sP (opp_mv (v := .osl _ _ _ _ _) rfl rfl) rfl rfl ?_
  first
    | refine sP (opp_fieldP rfl rfl fld26_0 rfl) rfl rfl ?_
    | refine sP (opp_fieldF rfl rfl rfl fld26_0 rfl rfl) rfl rfl ?_
  first
    | refine sP (opp_loadP rfl rfl rfl rfl bi rfl ty3) rfl rfl ?_
    | refine sP (opp_loadF rfl rfl ty3) rfl rfl ?_
  first
    | refine sP (opp_convInt rfl rfl un3s un5 (wu8 (by omega))) rfl rfl ?_
    | refine sP (opp_convInt rfl rfl un3s un5 rfl) rfl rfl ?_
  first
    | refine sP (opp_fieldP rfl rfl fld26_1 rfl) rfl rfl ?_
    | refine sP (opp_fieldF rfl rfl rfl fld26_1 rfl rfl) rfl rfl ?_
  first
    | refine sP (opp_loadP rfl rfl rfl rfl bi rfl ty3) rfl rfl ?_
    | refine sP (opp_loadF rfl rfl ty3) rfl rfl ?_
  first
    | refine sP (opp_convInt rfl rfl un3s un5 (wu8 (by omega))) rfl rfl ?_
    | refine sP (opp_convInt rfl rfl un3s un5 rfl) rfl rfl ?_
  refine sR (opr_buildSlice (n := 18) (g := fun j => if j = 1 then .int _ _ else if j = 0 then .int _ _ else .int .u8 0) rfl eb36 z5 (by decide) rfl rfl) rfl rfl rfl ?_
  first
    | refine sR (opr_append (d := 19) rfl rfl rfl (by omega) (.osl0 rfl (by omega)) eb36 z5 (by omega) (by omega)) rfl rfl rfl ?_
    | refine sR (opr_append (d := 19) rfl rfl rfl (by omega) .sl eb36 z5 (by omega) (by omega)) rfl rfl rfl ?_
    | refine sR (opr_append (d := 19) rfl rfl rfl (by omega) (.osl rfl (by omega) (fun _ _ => rfl)) eb36 z5 (by omega) (by omega)) rfl rfl rfl ?_
    | refine sR (opr_appendNil (d := 19) rfl rfl (.osl0 rfl (by omega)) eb36 z5 (by omega) (by omega) (by omega)) rfl rfl rfl ?_
    | refine sR (opr_appendNil (d := 19) rfl rfl .sl eb36 z5 (by omega) (by omega) (by omega)) rfl rfl rfl ?_
    | refine sR (opr_appendNil (d := 19) rfl rfl (.osl rfl (by omega) (fun _ _ => rfl)) eb36 z5 (by omega) (by omega) (by omega)) rfl rfl rfl ?_
  first
    | refine sP (opp_as (v := .sl _ _ _ _) rfl rfl) rfl rfl ?_
    | refine sP (opp_as (v := .osl _ _ _ _ _) rfl rfl) rfl rfl ?_
  refine awp_seq ?_
  refine awp_seq ?_
  refine awp_region rfl ?_
  first
    | refine sP (opp_fieldP rfl rfl fld26_2 rfl) rfl rfl ?_
    | refine sP (opp_fieldF rfl rfl rfl fld26_2 rfl rfl) rfl rfl ?_
  first
    | refine sP (opp_fieldP rfl rfl fld23_0 rfl) rfl rfl ?_
    | refine sP (opp_fieldF rfl rfl rfl fld23_0 rfl rfl) rfl rfl ?_
  first
    | refine sP (opp_loadP rfl rfl rfl rfl bi rfl ty3) rfl rfl ?_
    | refine sP (opp_loadF rfl rfl ty3) rfl rfl ?_
  first
    | refine sP (opp_fieldP rfl rfl fld26_2 rfl) rfl rfl ?_
    | refine sP (opp_fieldF rfl rfl rfl fld26_2 rfl rfl) rfl rfl ?_
  first
    | refine sP (opp_fieldP rfl rfl fld23_1 rfl) rfl rfl ?_
    | refine sP (opp_fieldF rfl rfl rfl fld23_1 rfl rfl) rfl rfl ?_
  first
    | refine sP (opp_loadP rfl rfl rfl rfl bi rfl ty3) rfl rfl ?_
    | refine sP (opp_loadF rfl rfl ty3) rfl rfl ?_
  first
    | refine sP (opp_fieldP rfl rfl fld26_2 rfl) rfl rfl ?_
    | refine sP (opp_fieldF rfl rfl rfl fld26_2 rfl rfl) rfl rfl ?_
  first
    | refine sP (opp_fieldP rfl rfl fld23_2 rfl) rfl rfl ?_
    | refine sP (opp_fieldF rfl rfl rfl fld23_2 rfl rfl) rfl rfl ?_
  first
    | refine sP (opp_loadP rfl rfl rfl rfl bi rfl ty3) rfl rfl ?_
    | refine sP (opp_loadF rfl rfl ty3) rfl rfl ?_
  refine sR (opr_buildSlice (n := 29) (g := fun j => if j = 2 then .int _ _ else if j = 1 then .int _ _ else if j = 0 then .int _ _ else .int .i64 0) rfl eb42 z3 (by decide) rfl rfl) rfl rfl rfl ?_
  first
    | refine sP (opp_lenSl rfl rfl un42) rfl rfl ?_
    | refine sP (opp_lenOsl rfl rfl un42) rfl rfl ?_
  refine sP (opp_mv (v := .int _ _) rfl rfl) rfl rfl ?_
  refine awp_block ?_
  refine awp_loopK (ι := Nat) (fun i => i ≤ 3) (fun i => [(3, .osl 1100 1 0 (Sp.be (27 + d.length) 2 ++ (Sp.be k 1 ++ Sp.be p 1) ++ Sp.bes 4 ([bo, pe, nu].take i)).length (Sp.be (27 + d.length) 2 ++ (Sp.be k 1 ++ Sp.be p 1) ++ Sp.bes 4 ([bo, pe, nu].take i)).length), (5, .top), (31, .int .i64 (i : Int)), (32, .top), (33, .top), (34, .top), (35, .top), (36, .top), (37, .top), (38, .top), (39, .top)]) (fun i => [(1100, some (.arr 1 (Sp.be (27 + d.length) 2 ++ (Sp.be k 1 ++ Sp.be p 1) ++ Sp.bes 4 ([bo, pe, nu].take i)).length (bAt (Sp.be (27 + d.length) 2 ++ (Sp.be k 1 ++ Sp.be p 1) ++ Sp.bes 4 ([bo, pe, nu].take i))))), (29, some (.arr 1 3 (fun j => .int .i64 ((([bo, pe, nu] : List Nat).getD j 0 : Nat) : Int)))), (19, none)]) [1100] (fun i => 3 - i) (0) (Nat.zero_le _) (by
    refine imp_over [(1100, 19)] rfl rfl (by kernel_rfl) ?_ ?_
    · refine And.intro (by exact Or.inr (And.intro rfl (WkV.of (by show AV.osl 19 1 0 _ _ = AV.osl 19 1 0 _ _; simp [Sp.bes, Sp.be_length])))) ?_
      refine And.intro wkv ?_
      refine And.intro wkv ?_
      refine And.intro wkv ?_
      refine And.intro wkv ?_
      refine And.intro wkv ?_
      refine And.intro wkv ?_
      refine And.intro wkv ?_
      refine And.intro wkv ?_
      refine And.intro wkv ?_
      refine And.intro wkv ?_
      exact True.intro
    · refine And.intro (And.intro rfl (And.intro rfl (Exists.intro _ (And.intro rfl (by show WkC (AV.arr 1 _ _) (AV.arr 1 _ _); rw [show Sp.bes 4 (List.take 0 [bo, pe, nu]) = [] from rfl, List.append_nil]; exact WkC.arr (fun j hj => lay_head _ _ _ _)))))) ?_
      refine And.intro (And.intro rfl (And.intro rfl (Exists.intro _ (And.intro rfl (by exact WkC.arr (fun j hj => nums3 _ _ _ j hj _)))))) ?_
      exact True.intro
    ) ?_
  intro i hi1
  refine awp_seq ?_
  refine awp_region rfl ?_
  refine sP (opp_cmp rfl rfl rfl rfl) rfl rfl ?_
  refine awp_seq ?_
  refine awp_cond _ rfl (fun hc6 => ?_) (fun hc6 => ?_)
  · (try simp only [cmpI, errD_nil, Bool.not_eq_true', Bool.not_eq_false', decide_eq_true_eq, decide_eq_false_iff_not] at hc6); have ht32 := hc6
    refine awp_skip ?_
    refine awp_seq ?_
    refine awp_block ?_
    refine awp_seq ?_
    have hlen : (Sp.be (27 + d.length) 2 ++ (Sp.be k 1 ++ Sp.be p 1) ++ Sp.bes 4 ([bo, pe, nu].take i)).length ≤ 16 := by simp only [List.length_append, Sp.be_length, Sp.bes_length, List.length_take, List.length_cons, List.length_nil]; omega
    have hx : (([bo, pe, nu] : List Nat).getD i 0) < 4294967296 := by
      have : i = 0 ∨ i = 1 ∨ i = 2 := by omega
      rcases this with rfl | rfl | rfl <;> simp <;> omega
    refine awp_region rfl ?_
    first
      | refine sP (opp_indexSl rfl rfl rfl el42 (by omega) (by omega)) rfl rfl ?_
      | refine sP (opp_indexOsl0 rfl rfl rfl el42 (by omega) (by omega)) rfl rfl ?_
      | refine sP (opp_indexOsl rfl rfl rfl el42 (by omega) (by omega)) rfl rfl ?_
    first
      | refine sP (opp_loadP rfl rfl rfl rfl bi rfl ty3) rfl rfl ?_
      | refine sP (opp_loadF rfl rfl ty3) rfl rfl ?_
    refine sP (opp_as (v := .int _ _) rfl rfl) rfl rfl ?_
    refine awp_region rfl ?_
    first
      | refine sP (opp_mv (v := .sl _ _ _ _) rfl rfl) rfl rfl ?_
      | refine sP (opp_mv (v := .osl _ _ _ _ _) rfl rfl) rfl rfl ?_
    refine sP (opp_mv (v := .int _ _) rfl rfl) rfl rfl ?_
    first
        | refine sR (opr_callO (rl := [(8, 37)]) (r1 := .osl _ _ _ _ _) (H1 := [(37, some (.arr _ _ _))]) (n1 := [37]) rfl rfl ent130 rfl (co130 (([bo, pe, nu] : List Nat).getD i 0) 4 (by omega) (by omega)) (AViews.refl _ rfl) rfl rfl rfl rfl) rfl rfl rfl ?_
        | refine sR (opr_callO (rl := [(8, 37)]) (r1 := .sl _ _ _ _) (H1 := [(37, some (.arr _ _ _))]) (n1 := [37]) rfl rfl ent130 rfl (co130 (([bo, pe, nu] : List Nat).getD i 0) 4 (by omega) (by omega)) (AViews.refl _ rfl) rfl rfl rfl rfl) rfl rfl rfl ?_
    first
      | refine sR (opr_append (d := 38) rfl rfl rfl (by omega) (.osl0 rfl (by omega)) eb36 z5 (by omega) (by omega)) rfl rfl rfl ?_
      | refine sR (opr_append (d := 38) rfl rfl rfl (by omega) .sl eb36 z5 (by omega) (by omega)) rfl rfl rfl ?_
      | refine sR (opr_append (d := 38) rfl rfl rfl (by omega) (.osl rfl (by omega) (fun _ _ => rfl)) eb36 z5 (by omega) (by omega)) rfl rfl rfl ?_
      | refine sR (opr_appendNil (d := 38) rfl rfl (.osl0 rfl (by omega)) eb36 z5 (by omega) (by omega) (by omega)) rfl rfl rfl ?_
      | refine sR (opr_appendNil (d := 38) rfl rfl .sl eb36 z5 (by omega) (by omega) (by omega)) rfl rfl rfl ?_
      | refine sR (opr_appendNil (d := 38) rfl rfl (.osl rfl (by omega) (fun _ _ => rfl)) eb36 z5 (by omega) (by omega) (by omega)) rfl rfl rfl ?_
    first
      | refine sP (opp_as (v := .sl _ _ _ _) rfl rfl) rfl rfl ?_
      | refine sP (opp_as (v := .osl _ _ _ _ _) rfl rfl) rfl rfl ?_
    refine awp_region rfl ?_
    first
      | refine sP (opp_arith rfl rfl rfl (.inl ⟨rfl, w64 (by omega)⟩)) rfl rfl ?_
      | refine sP (opp_arith rfl rfl rfl (.inl ⟨rfl, rfl⟩)) rfl rfl ?_
    refine sP (opp_mv (v := .int _ _) rfl rfl) rfl rfl ?_
    refine Exists.intro (i + 1) (And.intro (And.intro (by omega) (by omega)) (by
      refine imp_over [(1100, 38)] rfl rfl (by kernel_rfl) ?_ ?_
      · refine And.intro (by exact Or.inr (And.intro rfl (WkV.of (by show AV.osl 38 1 0 _ _ = AV.osl 38 1 0 _ _; rw [Sp.bes_take 4 [bo, pe, nu] i (by show i < 3; omega)]; simp only [List.length_append, Sp.be_length]; congr 1 <;> omega)))) ?_
        refine And.intro wkv ?_
        refine And.intro wkv ?_
        refine And.intro wkv ?_
        refine And.intro wkv ?_
        refine And.intro wkv ?_
        refine And.intro wkv ?_
        refine And.intro wkv ?_
        refine And.intro wkv ?_
        refine And.intro wkv ?_
        refine And.intro wkv ?_
        exact True.intro
      · refine And.intro (And.intro rfl (And.intro rfl (Exists.intro _ (And.intro rfl (by show WkC (AV.arr 1 _ _) (AV.arr 1 _ _); rw [Sp.bes_take 4 [bo, pe, nu] i (by show i < 3; omega), ← List.append_assoc (Sp.be (27 + d.length) 2 ++ (Sp.be k 1 ++ Sp.be p 1)) (Sp.bes 4 (List.take i [bo, pe, nu]))]; exact row_app _ _ 4 (Sp.be_length _ _)))))) ?_
        refine And.intro (And.intro rfl (And.intro rfl (Exists.intro _ (And.intro rfl wkc)))) ?_
        exact True.intro
      ))
  · (try simp only [cmpI, errD_nil, Bool.not_eq_true', Bool.not_eq_false', decide_eq_true_eq, decide_eq_false_iff_not] at hc6); have ht32 := hc6
    refine awp_exit ?_
    refine awp_seq ?_
    obtain rfl : i = 3 := by omega
    have hBl : (Sp.be (27 + d.length) 2 ++ (Sp.be k 1 ++ Sp.be p 1) ++ Sp.bes 4 (List.take 3 [bo, pe, nu])).length = 16 := by simp only [List.length_append, Sp.be_length, Sp.bes_length, List.length_take, List.length_cons, List.length_nil]; omega
    have hBe : (Sp.be (27 + d.length) 2 ++ (Sp.be k 1 ++ Sp.be p 1) ++ Sp.bes 4 (List.take 3 [bo, pe, nu])) ++ (Sp.be st 1 ++ (Sp.be ix 1 ++ Sp.be to 1)) ++ Sp.be su 4 ++ d = Sp.noteBytes ⟨k, p, ⟨bo, pe, nu⟩, st, ix, to, su, d⟩ := by simp [Sp.noteBytes, Sp.bes]
    generalize (Sp.be (27 + d.length) 2 ++ (Sp.be k 1 ++ Sp.be p 1) ++ Sp.bes 4 (List.take 3 [bo, pe, nu])) = B at hBl hBe ⊢
    refine awp_region rfl ?_
    first
      | refine sP (opp_mv (v := .sl _ _ _ _) rfl rfl) rfl rfl ?_
      | refine sP (opp_mv (v := .osl _ _ _ _ _) rfl rfl) rfl rfl ?_
    first
      | refine sP (opp_fieldP rfl rfl fld26_3 rfl) rfl rfl ?_
      | refine sP (opp_fieldF rfl rfl rfl fld26_3 rfl rfl) rfl rfl ?_
    first
      | refine sP (opp_loadP rfl rfl rfl rfl bi rfl ty3) rfl rfl ?_
      | refine sP (opp_loadF rfl rfl ty3) rfl rfl ?_
    first
      | refine sP (opp_convInt rfl rfl un3s un5 (wu8 (by omega))) rfl rfl ?_
      | refine sP (opp_convInt rfl rfl un3s un5 rfl) rfl rfl ?_
    first
      | refine sP (opp_fieldP rfl rfl fld26_4 rfl) rfl rfl ?_
      | refine sP (opp_fieldF rfl rfl rfl fld26_4 rfl rfl) rfl rfl ?_
    first
      | refine sP (opp_loadP rfl rfl rfl rfl bi rfl ty3) rfl rfl ?_
      | refine sP (opp_loadF rfl rfl ty3) rfl rfl ?_
    first
      | refine sP (opp_convInt rfl rfl un3s un5 (wu8 (by omega))) rfl rfl ?_
      | refine sP (opp_convInt rfl rfl un3s un5 rfl) rfl rfl ?_
    first
      | refine sP (opp_fieldP rfl rfl fld26_5 rfl) rfl rfl ?_
      | refine sP (opp_fieldF rfl rfl rfl fld26_5 rfl rfl) rfl rfl ?_
    first
      | refine sP (opp_loadP rfl rfl rfl rfl bi rfl ty3) rfl rfl ?_
      | refine sP (opp_loadF rfl rfl ty3) rfl rfl ?_
    first
      | refine sP (opp_convInt rfl rfl un3s un5 (wu8 (by omega))) rfl rfl ?_
      | refine sP (opp_convInt rfl rfl un3s un5 rfl) rfl rfl ?_
    refine sR (opr_buildSlice (n := 50) (g := fun j => if j = 2 then .int _ _ else if j = 1 then .int _ _ else if j = 0 then .int _ _ else .int .u8 0) rfl eb36 z5 (by decide) rfl rfl) rfl rfl rfl ?_
    first
      | refine sR (opr_append (d := 51) rfl rfl rfl (by omega) (.osl0 rfl (by omega)) eb36 z5 (by omega) (by omega)) rfl rfl rfl ?_
      | refine sR (opr_append (d := 51) rfl rfl rfl (by omega) .sl eb36 z5 (by omega) (by omega)) rfl rfl rfl ?_
      | refine sR (opr_append (d := 51) rfl rfl rfl (by omega) (.osl rfl (by omega) (fun _ _ => rfl)) eb36 z5 (by omega) (by omega)) rfl rfl rfl ?_
      | refine sR (opr_appendNil (d := 51) rfl rfl (.osl0 rfl (by omega)) eb36 z5 (by omega) (by omega) (by omega)) rfl rfl rfl ?_
      | refine sR (opr_appendNil (d := 51) rfl rfl .sl eb36 z5 (by omega) (by omega) (by omega)) rfl rfl rfl ?_
      | refine sR (opr_appendNil (d := 51) rfl rfl (.osl rfl (by omega) (fun _ _ => rfl)) eb36 z5 (by omega) (by omega) (by omega)) rfl rfl rfl ?_
    first
      | refine sP (opp_as (v := .sl _ _ _ _) rfl rfl) rfl rfl ?_
      | refine sP (opp_as (v := .osl _ _ _ _ _) rfl rfl) rfl rfl ?_
    refine awp_seq ?_
    refine awp_region rfl ?_
    first
      | refine sP (opp_mv (v := .sl _ _ _ _) rfl rfl) rfl rfl ?_
      | refine sP (opp_mv (v := .osl _ _ _ _ _) rfl rfl) rfl rfl ?_
    first
      | refine sP (opp_fieldP rfl rfl fld26_6 rfl) rfl rfl ?_
      | refine sP (opp_fieldF rfl rfl rfl fld26_6 rfl rfl) rfl rfl ?_
    first
      | refine sP (opp_loadP rfl rfl rfl rfl bi rfl ty24) rfl rfl ?_
      | refine sP (opp_loadF rfl rfl ty24) rfl rfl ?_
    first
      | refine sP (opp_convInt rfl rfl un24s un3 (w64 (by omega))) rfl rfl ?_
      | refine sP (opp_convInt rfl rfl un24s un3 rfl) rfl rfl ?_
    rw [show IntKind.i64.wrap (su : Int) = (su : Int) from w64 (by omega)]
    first
        | refine sR (opr_callO (rl := [(8, 56)]) (r1 := .osl _ _ _ _ _) (H1 := [(56, some (.arr _ _ _))]) (n1 := [56]) rfl rfl ent130 rfl (co130 su 4 (by omega) (by omega)) (AViews.refl _ rfl) rfl rfl rfl rfl) rfl rfl rfl ?_
        | refine sR (opr_callO (rl := [(8, 56)]) (r1 := .sl _ _ _ _) (H1 := [(56, some (.arr _ _ _))]) (n1 := [56]) rfl rfl ent130 rfl (co130 su 4 (by omega) (by omega)) (AViews.refl _ rfl) rfl rfl rfl rfl) rfl rfl rfl ?_
    first
      | refine sR (opr_append (d := 57) rfl rfl rfl (by omega) (.osl0 rfl (by omega)) eb36 z5 (by omega) (by omega)) rfl rfl rfl ?_
      | refine sR (opr_append (d := 57) rfl rfl rfl (by omega) .sl eb36 z5 (by omega) (by omega)) rfl rfl rfl ?_
      | refine sR (opr_append (d := 57) rfl rfl rfl (by omega) (.osl rfl (by omega) (fun _ _ => rfl)) eb36 z5 (by omega) (by omega)) rfl rfl rfl ?_
      | refine sR (opr_appendNil (d := 57) rfl rfl (.osl0 rfl (by omega)) eb36 z5 (by omega) (by omega) (by omega)) rfl rfl rfl ?_
      | refine sR (opr_appendNil (d := 57) rfl rfl .sl eb36 z5 (by omega) (by omega) (by omega)) rfl rfl rfl ?_
      | refine sR (opr_appendNil (d := 57) rfl rfl (.osl rfl (by omega) (fun _ _ => rfl)) eb36 z5 (by omega) (by omega) (by omega)) rfl rfl rfl ?_
    first
      | refine sP (opp_as (v := .sl _ _ _ _) rfl rfl) rfl rfl ?_
      | refine sP (opp_as (v := .osl _ _ _ _ _) rfl rfl) rfl rfl ?_
    refine awp_seq ?_
    refine awp_region rfl ?_
    first
      | refine sP (opp_mv (v := .sl _ _ _ _) rfl rfl) rfl rfl ?_
      | refine sP (opp_mv (v := .osl _ _ _ _ _) rfl rfl) rfl rfl ?_
    first
      | refine sP (opp_fieldP rfl rfl fld26_7 rfl) rfl rfl ?_
      | refine sP (opp_fieldF rfl rfl rfl fld26_7 rfl rfl) rfl rfl ?_
    first
      | refine sP (opp_loadP rfl rfl rfl rfl bi rfl ty9) rfl rfl ?_
      | refine sP (opp_loadF rfl rfl ty9) rfl rfl ?_
    refine sR (opr_strBytes (n := 61) rfl rfl un9 un36 unu8) rfl rfl rfl ?_
    have hd2 : (Note.data ⟨(k : Int), (p : Int), ⟨(bo : Int), (pe : Int), (nu : Int)⟩, (st : Int), (ix : Int), (to : Int), (su : Int), d⟩).length ≤ 128 := by show d.length ≤ 128; omega
    first
      | refine sR (opr_append (d := 62) rfl rfl rfl (by omega) (.osl0 rfl (by omega)) eb36 z5 (by omega) (by omega)) rfl rfl rfl ?_
      | refine sR (opr_append (d := 62) rfl rfl rfl (by omega) .sl eb36 z5 (by omega) (by omega)) rfl rfl rfl ?_
      | refine sR (opr_append (d := 62) rfl rfl rfl (by omega) (.osl rfl (by omega) (fun _ _ => rfl)) eb36 z5 (by omega) (by omega)) rfl rfl rfl ?_
      | refine sR (opr_appendNil (d := 62) rfl rfl (.osl0 rfl (by omega)) eb36 z5 (by omega) (by omega) (by omega)) rfl rfl rfl ?_
      | refine sR (opr_appendNil (d := 62) rfl rfl .sl eb36 z5 (by omega) (by omega) (by omega)) rfl rfl rfl ?_
      | refine sR (opr_appendNil (d := 62) rfl rfl (.osl rfl (by omega) (fun _ _ => rfl)) eb36 z5 (by omega) (by omega) (by omega)) rfl rfl rfl ?_
    first
      | refine sP (opp_as (v := .sl _ _ _ _) rfl rfl) rfl rfl ?_
      | refine sP (opp_as (v := .osl _ _ _ _ _) rfl rfl) rfl rfl ?_
    refine awp_seq ?_
    refine awp_region rfl ?_
    first
      | refine sP (opp_mv (v := .sl _ _ _ _) rfl rfl) rfl rfl ?_
      | refine sP (opp_mv (v := .osl _ _ _ _ _) rfl rfl) rfl rfl ?_
    refine al_sh [(63, .sl 1 false (B.length + 3 + 4 + d.length) (bAt (B ++ (Sp.be st 1 ++ (Sp.be ix 1 ++ Sp.be to 1)) ++ Sp.be su 4 ++ d)))] [(62, none)] hO rfl (And.intro (Shut.row rfl rfl (by omega) (fun j hj => by rw [Nat.zero_add]; exact (lay_row B d st ix to su j).symm) frow) True.intro) True.intro ?_
    rw [hBe]
    refine sR (opr_call rfl rfl ent131 rfl (c131 false (Sp.noteBytes ⟨k, p, ⟨bo, pe, nu⟩, st, ix, to, su, d⟩) (by rw [Sp.noteBytes_length]; show 23 + d.length ≤ _; omega)) (.cons (aview_wk rfl (wk_slx (by rw [Sp.noteBytes_length]; show _ = 23 + d.length; omega) (fun j hj => rfl))) .nil)) rfl rfl rfl ?_ -- d=64 t=36
    first
      | refine sP (opp_bytesStr rfl rfl _ rfl (fun j hj => rfl) un36 unu8 un9) rfl rfl ?_
      | refine sP (opp_bytesStrR rfl (.osl0 rfl (Nat.le_refl _)) _ rfl (fun j hj => rfl) un36 unu8 un9) rfl rfl ?_
    refine sP (opp_as (v := .str _) rfl rfl) rfl rfl ?_
    refine awp_ret ?_
    repeat (first | refine athen_ret ?_ | refine ain_ret ?_)
    first
      | refine apost_ret (aend1 (r0 := .str _) (.tmp .nil) (.noN rfl rfl) ⟨Wk.v ?_, rfl, rfl⟩)
      | refine apost_ret (aend1s (r0 := .str _) (.tmp .nil) shut rfl ⟨Wk.v ?_, rfl, rfl⟩)
    exact .refl
theorem cfine45 (k p bo pe nu st ix to su : Nat) (d : List UInt8) (hc : Sp.check ⟨k, p, ⟨bo, pe, nu⟩, st, ix, to, su, d⟩ = 0) (hs : su ≤ 4294967295) :
    APure (V ea cds gl) 45 [noteAV ⟨k, p, ⟨bo, pe, nu⟩, st, ix, to, su, d⟩] false (.tup [.str (Sp.crcSeal (Sp.noteBytes ⟨k, p, ⟨bo, pe, nu⟩, st, ix, to, su, d⟩)), .int .i64 0]) := by
  refine acalls_of_body (N := 12) Tryd.func45 rfl rfl (Nat.le_of_ble_eq_true rfl) fun C hV hN hM hO => ?_
  obtain ⟨_, _, w0, G0, σ0, _, own0⟩ := C; dsimp only at hV hN hM hO; subst hV; subst hN; subst hM
  refine awp_seq ?_
  refine awp_region rfl ?_
  refine sR (opr_box (y := .agg _) (n := 1) rfl rfl rfl) rfl rfl rfl ?_
  refine sP (opp_as (v := .str _) rfl rfl) rfl rfl ?_
  refine sP (opp_as (v := .int _ _) rfl rfl) rfl rfl ?_
  refine awp_seq ?_
  refine awp_region rfl ?_
  first
    | refine sP (opp_loadP rfl rfl rfl rfl bi rfl ty26) rfl rfl ?_
    | refine sP (opp_loadF rfl rfl ty26) rfl rfl ?_
  refine sR (opr_call rfl rfl ent16 rfl (c16 ⟨k, p, ⟨bo, pe, nu⟩, st, ix, to, su, d⟩) (AViews.refl _ rfl)) rfl rfl rfl ?_ -- d=6 t=3
  refine sP (opp_as (v := .int _ _) rfl rfl) rfl rfl ?_
  refine awp_seq ?_
  refine awp_seq ?_
  refine awp_region rfl ?_
  refine sP (opp_mv (v := .int _ _) rfl rfl) rfl rfl ?_
  refine sP (opp_cmp rfl rfl rfl rfl) rfl rfl ?_
  refine awp_cond _ rfl (fun hc4 => ?_) (fun hc4 => ?_)
  · (try simp only [cmpI, errD_nil, Bool.not_eq_true', Bool.not_eq_false', decide_eq_true_eq, decide_eq_false_iff_not] at hc4); have ht8 := hc4
    exfalso; exact ht8 (by rw [hc]; rfl)
  · (try simp only [cmpI, errD_nil, Bool.not_eq_true', Bool.not_eq_false', decide_eq_true_eq, decide_eq_false_iff_not] at hc4); have ht8 := hc4
    refine awp_skip ?_
    refine awp_seq ?_
    refine awp_region rfl ?_
    first
      | refine sP (opp_loadP rfl rfl rfl rfl bi rfl ty26) rfl rfl ?_
      | refine sP (opp_loadF rfl rfl ty26) rfl rfl ?_
    refine sR (opr_call rfl rfl ent97 rfl (c97 k p bo pe nu st ix to su d hc hs) (AViews.refl _ rfl)) rfl rfl rfl ?_ -- d=11 t=9
    refine sP (opp_as (v := .str _) rfl rfl) rfl rfl ?_
    refine sP (opp_as (v := .int _ _) rfl rfl) rfl rfl ?_
    refine awp_ret ?_
    repeat (first | refine athen_ret ?_ | refine ain_ret ?_)
    first
      | refine apost_ret (aend (l := [.str _, .int _ _]) (.tmp (.tmp .nil)) (fun h => by cases h) (.cons (.noN rfl rfl) (.cons (.noN rfl rfl) .nil)) ⟨Wk.v ?_, rfl, rfl⟩)
      | refine apost_ret (aends (l := [.str _, .int _ _]) (.tmp (.tmp .nil)) (fun h => by cases h) (.cons shut (fun h => by cases h) (.cons shut (fun h => by cases h) .nil)) rfl ⟨Wk.v ?_, rfl, rfl⟩)
    exact .refl
theorem cbad45 (n : Note) (hc : Sp.check n ≠ 0) : APure (V ea cds gl) 45 [noteAV n] false (.tup [.str [], .int .i64 (Sp.check n : Nat)]) := by
  refine acalls_of_body (N := 12) Tryd.func45 rfl rfl (Nat.le_of_ble_eq_true rfl) fun C hV hN hM hO => ?_
  obtain ⟨_, _, w0, G0, σ0, _, own0⟩ := C; dsimp only at hV hN hM hO; subst hV; subst hN; subst hM
  refine awp_seq ?_
  refine awp_region rfl ?_
  refine sR (opr_box (y := .agg _) (n := 1) rfl rfl rfl) rfl rfl rfl ?_
  refine sP (opp_as (v := .str _) rfl rfl) rfl rfl ?_
  refine sP (opp_as (v := .int _ _) rfl rfl) rfl rfl ?_
  refine awp_seq ?_
  refine awp_region rfl ?_
  first
    | refine sP (opp_loadP rfl rfl rfl rfl bi rfl ty26) rfl rfl ?_
    | refine sP (opp_loadF rfl rfl ty26) rfl rfl ?_
  refine sR (opr_call rfl rfl ent16 rfl (c16 n) (AViews.refl _ rfl)) rfl rfl rfl ?_ -- d=6 t=3
  refine sP (opp_as (v := .int _ _) rfl rfl) rfl rfl ?_
  refine awp_seq ?_
  refine awp_seq ?_
  refine awp_region rfl ?_
  refine sP (opp_mv (v := .int _ _) rfl rfl) rfl rfl ?_
  refine sP (opp_cmp rfl rfl rfl rfl) rfl rfl ?_
  refine awp_cond _ rfl (fun hc4 => ?_) (fun hc4 => ?_)
  · (try simp only [cmpI, errD_nil, Bool.not_eq_true', Bool.not_eq_false', decide_eq_true_eq, decide_eq_false_iff_not] at hc4); have ht8 := hc4
    refine awp_seq ?_
    refine awp_region rfl ?_
    refine sP (opp_mv (v := .int _ _) rfl rfl) rfl rfl ?_
    refine sP (opp_as (v := .str _) rfl rfl) rfl rfl ?_
    refine sP (opp_as (v := .int _ _) rfl rfl) rfl rfl ?_
    refine awp_ret ?_
    repeat (first | refine athen_ret ?_ | refine ain_ret ?_)
    first
      | refine apost_ret (aend (l := [.str _, .int _ _]) (.tmp (.tmp .nil)) (fun h => by cases h) (.cons (.noN rfl rfl) (.cons (.noN rfl rfl) .nil)) ⟨Wk.v ?_, rfl, rfl⟩)
      | refine apost_ret (aends (l := [.str _, .int _ _]) (.tmp (.tmp .nil)) (fun h => by cases h) (.cons shut (fun h => by cases h) (.cons shut (fun h => by cases h) .nil)) rfl ⟨Wk.v ?_, rfl, rfl⟩)
    exact .refl
  · (try simp only [cmpI, errD_nil, Bool.not_eq_true', Bool.not_eq_false', decide_eq_true_eq, decide_eq_false_iff_not] at hc4); have ht8 := hc4
    exfalso; exact hc (by omega)
theorem c45 (n : Note) (hs : 0 ≤ n.sum ∧ n.sum ≤ 4294967295) : APure (V ea cds gl) 45 [noteAV n] false (.tup [.str (Sp.put n).1, .int .i64 ((Sp.put n).2 : Nat)]) := by
  by_cases hc : Sp.check n = 0
  · have hb := Sp.check_bounds hc
    obtain ⟨kind, part, ⟨boot, peer, num⟩, stage, index, total, sum, data⟩ := n
    dsimp only at hb hs
    obtain ⟨k, rfl⟩ := Int.eq_ofNat_of_zero_le (show 0 ≤ kind by omega)
    obtain ⟨p, rfl⟩ := Int.eq_ofNat_of_zero_le (show 0 ≤ part by omega)
    obtain ⟨bo, rfl⟩ := Int.eq_ofNat_of_zero_le (show 0 ≤ boot by omega)
    obtain ⟨pe, rfl⟩ := Int.eq_ofNat_of_zero_le (show 0 ≤ peer by omega)
    obtain ⟨nu, rfl⟩ := Int.eq_ofNat_of_zero_le (show 0 ≤ num by omega)
    obtain ⟨st, rfl⟩ := Int.eq_ofNat_of_zero_le (show 0 ≤ stage by omega)
    obtain ⟨ix, rfl⟩ := Int.eq_ofNat_of_zero_le (show 0 ≤ index by omega)
    obtain ⟨to, rfl⟩ := Int.eq_ofNat_of_zero_le (show 0 ≤ total by omega)
    obtain ⟨su, rfl⟩ := Int.eq_ofNat_of_zero_le hs.1
    rw [Sp.put, if_neg (by simpa using hc)]
    exact cfine45 k p bo pe nu st ix to su data hc (by omega)
  · rw [Sp.put, if_pos hc]
    exact cbad45 n hc
end
end Go.Proofs.YtgaihhimkodmmaaDoor
/- Layer 20: ChunkCuts (walks over this dump). -/
namespace Go.Proofs.YtgaihhimkodmmaaDoor
attribute [local irreducible] Tryd.prog
open Go.Fy
set_option linter.unusedSimpArgs false
set_option linter.unusedVariables false
/-- An image to be cut. -/
def pieceAV (p st : Int) (x : Xid) (im : List UInt8) : AV := .agg [.int .i64 p, .int .i64 st, xidAV x, .str im]
theorem Sp.check_code (n : Note) : Sp.check n ≤ 20 := by
  unfold Sp.check
  by_cases h : Sp.within n.kind 1 7 = false
  · rw [if_pos h]; decide
  · rw [if_neg h]; repeat' split
    all_goals decide
/-- Bytes, the first i of them one higher. -/
def bumpI (im : List UInt8) (i j : Nat) : Int := if j < i then IntKind.u8.wrap (((im.getD j 0).toNat : Int) + 1) else ((im.getD j 0).toNat : Int)
section
variable {ea : Nat → Addr} {cds : List Nat} {gl : Nat → Option AV}
end
end Go.Proofs.YtgaihhimkodmmaaDoor
