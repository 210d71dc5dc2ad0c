/- Layer 20: an image is cut (walks over this dump). -/
import Derived.Test.YtgaihhimkodmmaaDoorKAx
import Derived.Test.YtgaihhimkodmmaaDoorK8x
namespace Go.Proofs.YtgaihhimkodmmaaDoor
open Go.Fy Go.RowKit
set_option linter.unusedSimpArgs false
attribute [local irreducible] Tryd.prog
/-- The pieces of a row. -/
theorem chunk_seq {ea : Nat → Addr} {cds : List Nat} {gl : Nat → Option AV} (b : Bool) (n : Nat) (f : Nat → AV) (h1 : 1 ≤ n) (h2 : n ≤ 4611686018427387904) :
    ASeq (V ea cds gl) 124 [.fptr (.sl 1 b n f), .fptr (.int .i64 128)] ((n + 127) / 128) (fun k => .sl 1 (decide (n ≤ 128 * k)) (min 128 (n - 128 * k)) fun j => f (128 * k + j)) := by
  intro E cv hV hE hG hcv
  obtain ⟨cl⟩ := cv
  simp only [RelC, Rel] at hcv
  obtain ⟨c1, d1, rfl, ⟨b1, e1, hs1, hg1, ds1, hh1, hr1⟩, c2, d2, rfl, ⟨b2, e2, hs2, hg2, ds2, hh2, hr2⟩, rfl⟩ := hcv
  simp only [List.cons.injEq, and_true] at e1 e2
  subst e1; subst e2
  obtain ⟨a, cap, rfl, hle, hnn, hnone, hel⟩ := hr1
  subst hr2
  cases a with
  | none => have := (hnone rfl).1; omega
  | some ad =>
    obtain ⟨hsp, hgd, hds⟩ := hel ad rfl
    have hsp := hsp (by omega)
    have hc1 : E.w.cell? ⟨b1.block, b1.off, none⟩ = some (.slice (some ad) n cap) := hh1 0 _ rfl
    have hc2 : E.w.cell? ⟨b2.block, b2.off, none⟩ = some (.int .i64 128) := hh2 0 _ rfl
    obtain ⟨ab, ao, asp⟩ := ad
    obtain ⟨bb1, bo1, bs1⟩ := b1
    obtain ⟨bb2, bo2, bs2⟩ := b2
    dsimp only at hsp hs1 hs2 hg1 hg2 hgd hc1 hc2
    subst hsp; subst hs1; subst hs2
    refine ⟨fun k => if 128 * k < n then .slice (some ⟨ab, ao + 128 * k, none⟩) (min 128 (n - 128 * k)) (min 128 (n - 128 * k)) else .slice none 0 0, fun k => ?_, fun m Kp hm hKp l J Jx W hW hJ hJx hY h0 => ?_⟩
    · simp only [RelV, Rel]
      by_cases hk : 128 * k < n
      · rw [if_pos hk]
        refine ⟨_, _, rfl, Nat.le_refl _, by simp; omega, (fun h => by cases h), fun bb hb => ?_⟩
        cases hb
        refine ⟨fun _ => rfl, fun _ => hgd (by omega), fun j hj => ?_⟩
        obtain ⟨ds, h3, h4, h5⟩ := hds (128 * k + j) (by omega)
        refine ⟨ds, h3, fun q v hq => ?_, h5⟩
        have := h4 q v hq
        simp only at this ⊢
        rw [show ao + 128 * k + (j * 1 + q) = ao + ((128 * k + j) * 1 + q) by omega]
        exact this
      · rw [if_neg hk, show min 128 (n - 128 * k) = 0 by omega]
        exact ⟨none, 0, rfl, Nat.le_refl _, by simp; omega, fun _ => ⟨rfl, rfl⟩, fun bb hb => by cases hb⟩
    · have hb1 : bb1 < E.w.heap.size := hG _ hg1
      have hb2 : bb2 < E.w.heap.size := hG _ hg2
      refine (chunk_in Fence.wide m trivial rfl hm l bb1 bo1 bb2 bo2 ab ao n cap hle h2 Kp J Jx (fun pre W hJW => hJ pre W W.drew none hJW ⟨rfl, rfl, rfl, Nat.le_refl _, fun _ _ _ => rfl⟩ (fun r h => by cases h))
        (fun A B hAB v hv => hKp A B hAB _ hg1 _ _ hv) (fun A B hAB v hv => hKp A B hAB _ hg2 _ _ hv) hY W ((hW.cell (p := ⟨bb1, bo1, none⟩) hb1).trans hc1) ((hW.cell (p := ⟨bb2, bo2, none⟩) hb2).trans hc2) h0)
section
variable {ea : Nat → Addr} {cds : List Nat} {gl : Nat → Option AV}
theorem c40 (p : Int) (x : Xid) (st : Int) (b : Bool) (im : List UInt8) (hG2 : gl 2 = some (.err (.code 12))) (hG6 : gl 6 = some (.err (.code 11))) :
    APure (V ea cds gl) 40 [.int .i64 p, xidAV x, .int .i64 st, .sl 1 b im.length (bAt im)] true
      (.tup [.sl 10 (decide ((Sp.cut p x st im).1 = [])) (Sp.cut p x st im).1.length (fun j => noteAV ((Sp.cut p x st im).1.getD j Sp.zero)), .err (errD (Sp.cut p x st im).2)]) := by
  refine acalls_of_body (N := 59) Tryd.func40 rfl rfl (Nat.le_of_ble_eq_true rfl) fun C hV hN hM hO => ?_
  obtain ⟨_, _, w0, G0, σ0, _, own0⟩ := C; dsimp only at hV hN hM hO; subst hV; subst hN; subst hM
  refine awp_seq ?_
  refine awp_region rfl ?_
  refine sR (opr_box (y := .int _ _) (n := 4) rfl rfl rfl) rfl rfl rfl ?_
  refine sR (opr_box (y := .agg _) (n := 5) rfl rfl rfl) rfl rfl rfl ?_
  refine sR (opr_box (y := .int _ _) (n := 6) rfl rfl rfl) rfl rfl rfl ?_
  first
    | refine sP (opp_as (v := .sl _ _ _ _) rfl rfl) rfl rfl ?_
    | refine sP (opp_as (v := .osl _ _ _ _ _) rfl rfl) rfl rfl ?_
  refine sP (opp_as (v := .err _) rfl rfl) rfl rfl ?_
  refine awp_seq ?_
  refine awp_seq ?_
  refine awp_region rfl ?_
  first
    | refine sP (opp_loadP rfl rfl rfl rfl bi rfl ty3) rfl rfl ?_
    | refine sP (opp_loadF rfl rfl ty3) rfl rfl ?_
  refine sR (opr_call rfl rfl ent87 rfl (c87 _) (AViews.refl _ rfl)) rfl rfl rfl ?_ -- d=14 t=4
  refine sP (opp_not rfl rfl) rfl rfl ?_
  refine sP (opp_mv (v := .bool _) rfl rfl) rfl rfl ?_
  first
    | refine sG _ rfl rfl rfl rfl (fun hg => (And.intro gi (True.intro))) (fun hg => opp_loadP rfl rfl rfl rfl bi rfl ty23) ?_
    | refine sG _ rfl rfl rfl rfl (fun hg => (And.intro gi (True.intro))) (fun hg => opp_loadF rfl rfl ty23) ?_
  refine sGR _ rfl rfl rfl rfl (fun hg => (And.intro gi (And.intro gi (True.intro)))) (fun hg => (opr_call rfl rfl ent88 rfl (c88 _) (AViews.refl _ rfl))) ?_
  refine sG _ rfl rfl rfl rfl (fun hg => (And.intro gi (True.intro))) (fun hg => opp_not rfl rfl) ?_
  refine sPick rfl rfl rfl rfl (by exact True.intro) rfl rfl (fun hg => gi) (fun hg => gi) ?_
  refine sP (opp_mv (v := .bool _) rfl rfl) rfl rfl ?_
  first
    | refine sG _ rfl rfl rfl rfl (fun hg => (And.intro gi (True.intro))) (fun hg => opp_loadP rfl rfl rfl rfl bi rfl ty3) ?_
    | refine sG _ rfl rfl rfl rfl (fun hg => (And.intro gi (True.intro))) (fun hg => opp_loadF rfl rfl ty3) ?_
  refine sGR _ rfl rfl rfl rfl (fun hg => (And.intro gi (And.intro gi (True.intro)))) (fun hg => (opr_call rfl rfl ent89 rfl (c89 _) (AViews.refl _ rfl))) ?_
  refine sG _ rfl rfl rfl rfl (fun hg => (And.intro gi (True.intro))) (fun hg => opp_not rfl rfl) ?_
  refine sPick rfl rfl rfl rfl (by exact True.intro) rfl rfl (fun hg => gi) (fun hg => gi) ?_
  refine awp_cond _ rfl (fun hc3 => ?_) (fun hc3 => ?_)
  · try simp only [cmpI, errD_nil, Bool.not_eq_true', Bool.not_eq_false', decide_eq_true_eq, decide_eq_false_iff_not] at hc3; have ht25 := hc3
    refine awp_seq ?_
    refine awp_draw hmix rfl (by kernel_rfl) ?_
    refine dP (fun _ => false) (opp_loadF rfl (ev_glob hG2) ty29) rfl rfl ?_
    first
      | refine dP (fun _ => false) (opp_as (v := .sl _ _ _ _) rfl rfl) rfl rfl ?_
      | refine dP (fun _ => false) (opp_as (v := .osl _ _ _ _ _) rfl rfl) rfl rfl ?_
    refine dP (fun _ => false) (opp_as (v := .err _) rfl rfl) rfl rfl ?_
    refine And.intro (by kernel_rfl) ?_
    refine awp_ret ?_
    repeat (first | refine athen_ret ?_ | refine ain_ret ?_)
    first
      | refine apost_ret (aend (l := [.sl _ _ _ _, .err _]) (.tmp (.tmp .nil)) (fun h => by cases h) (.cons (.noN rfl rfl) (.cons (.noN rfl rfl) .nil)) ⟨Wk.v ?_, rfl, rfl⟩)
      | refine apost_ret (aends (l := [.sl _ _ _ _, .err _]) (.tmp (.tmp .nil)) (fun h => by cases h) (.cons shut (fun h => by cases h) (.cons shut (fun h => by cases h) .nil)) rfl ⟨Wk.v ?_, rfl, rfl⟩)
      | refine apost_ret (aend (l := [.osl _ _ _ _ _, .err _]) (.tmp (.tmp .nil)) (fun h => by cases h) (.cons (.noN rfl rfl) (.cons (.noN rfl rfl) .nil)) ⟨Wk.v ?_, rfl, rfl⟩)
      | refine apost_ret (aends (l := [.osl _ _ _ _ _, .err _]) (.tmp (.tmp .nil)) (fun h => by cases h) (.cons shut (fun h => by cases h) (.cons shut (fun h => by cases h) .nil)) rfl ⟨Wk.v ?_, rfl, rfl⟩)
    have h : (Sp.goodPart p && Sp.goodXid x && Sp.goodStage st) = false := by
      cases h1 : Sp.goodPart p <;> cases h2 : Sp.goodXid x <;> cases h3 : Sp.goodStage st <;> simp [h1, h2, h3] at hc3 ⊢
    rw [show Sp.cut p x st im = ([], 12) by simp only [Sp.cut, h, if_true]]; show Wk _ (.tup [.sl 10 true 0 _, .err (.code 12)]); (repeat' (first | exact Wk.refl | exact Wk.sl0 | apply Wk.tup | apply Wk.agg | apply WkL.cons | exact WkL.nil | refine Wk.sl (fun _ _ => ?_)))
  · try simp only [cmpI, errD_nil, Bool.not_eq_true', Bool.not_eq_false', decide_eq_true_eq, decide_eq_false_iff_not] at hc3; have ht25 := hc3
    refine awp_skip ?_
    refine awp_seq ?_
    refine awp_seq ?_
    refine awp_region rfl ?_
    first
      | refine sP (opp_mv (v := .sl _ _ _ _) rfl rfl) rfl rfl ?_
      | refine sP (opp_mv (v := .osl _ _ _ _ _) rfl rfl) rfl rfl ?_
    first
      | refine sP (opp_lenSl rfl rfl un36) rfl rfl ?_
      | refine sP (opp_lenOsl rfl rfl un36) rfl rfl ?_
    refine sR (opr_call rfl rfl ent90 rfl (c90 _ _ _) (AViews.refl _ rfl)) rfl rfl rfl ?_ -- d=29 t=4
    refine sP (opp_not rfl rfl) rfl rfl ?_
    refine awp_cond _ rfl (fun hc6 => ?_) (fun hc6 => ?_)
    · try simp only [cmpI, errD_nil, Bool.not_eq_true', Bool.not_eq_false', decide_eq_true_eq, decide_eq_false_iff_not] at hc6; have ht30 := hc6
      refine awp_seq ?_
      refine awp_draw hmix rfl (by kernel_rfl) ?_
      refine dP (fun _ => false) (opp_loadF rfl (ev_glob hG6) ty29) rfl rfl ?_
      first
        | refine dP (fun _ => false) (opp_as (v := .sl _ _ _ _) rfl rfl) rfl rfl ?_
        | refine dP (fun _ => false) (opp_as (v := .osl _ _ _ _ _) rfl rfl) rfl rfl ?_
      refine dP (fun _ => false) (opp_as (v := .err _) rfl rfl) rfl rfl ?_
      refine And.intro (by kernel_rfl) ?_
      refine awp_ret ?_
      repeat (first | refine athen_ret ?_ | refine ain_ret ?_)
      first
        | refine apost_ret (aend (l := [.sl _ _ _ _, .err _]) (.tmp (.tmp .nil)) (fun h => by cases h) (.cons (.noN rfl rfl) (.cons (.noN rfl rfl) .nil)) ⟨Wk.v ?_, rfl, rfl⟩)
        | refine apost_ret (aends (l := [.sl _ _ _ _, .err _]) (.tmp (.tmp .nil)) (fun h => by cases h) (.cons shut (fun h => by cases h) (.cons shut (fun h => by cases h) .nil)) rfl ⟨Wk.v ?_, rfl, rfl⟩)
        | refine apost_ret (aend (l := [.osl _ _ _ _ _, .err _]) (.tmp (.tmp .nil)) (fun h => by cases h) (.cons (.noN rfl rfl) (.cons (.noN rfl rfl) .nil)) ⟨Wk.v ?_, rfl, rfl⟩)
        | refine apost_ret (aends (l := [.osl _ _ _ _ _, .err _]) (.tmp (.tmp .nil)) (fun h => by cases h) (.cons shut (fun h => by cases h) (.cons shut (fun h => by cases h) .nil)) rfl ⟨Wk.v ?_, rfl, rfl⟩)
      have hgd : (Sp.goodPart p && Sp.goodXid x && Sp.goodStage st) = true := by
        cases h1 : Sp.goodPart p <;> cases h2 : Sp.goodXid x <;> cases h3 : Sp.goodStage st <;> simp [h1, h2, h3] at hc3 ⊢
      rw [show Sp.cut p x st im = ([], 11) by simp [Sp.cut, hgd, hc6]]; show Wk _ (.tup [.sl 10 true 0 _, .err (.code 11)]); (repeat' (first | exact Wk.refl | exact Wk.sl0 | apply Wk.tup | apply Wk.agg | apply WkL.cons | exact WkL.nil | refine Wk.sl (fun _ _ => ?_)))
    · try simp only [cmpI, errD_nil, Bool.not_eq_true', Bool.not_eq_false', decide_eq_true_eq, decide_eq_false_iff_not] at hc6; have ht30 := hc6
      refine awp_skip ?_
      refine awp_seq ?_
      have hsz : 1 ≤ im.length ∧ im.length ≤ 4096 := by
        have : Sp.within im.length 1 4096 = true := by simpa using hc6
        simp only [Sp.within, decide_eq_true_eq] at this; omega
      have htot : Sp.total im ≤ 32 := by unfold Sp.total; omega
      have htot1 : 1 ≤ Sp.total im := by unfold Sp.total; omega
      have hgd : (Sp.goodPart p && Sp.goodXid x && Sp.goodStage st) = true := by
        cases h1 : Sp.goodPart p <;> cases h2 : Sp.goodXid x <;> cases h3 : Sp.goodStage st <;> simp [h1, h2, h3] at hc3 ⊢
      refine awp_region rfl ?_
      refine sR (opr_alloc (n := 10) rfl z48) rfl rfl rfl ?_
      refine awp_seq ?_
      refine awp_seq ?_
      refine awp_region rfl ?_
      first
        | refine sP (opp_mv (v := .sl _ _ _ _) rfl rfl) rfl rfl ?_
        | refine sP (opp_mv (v := .osl _ _ _ _ _) rfl rfl) rfl rfl ?_
      refine sR (opr_call rfl rfl ent91 rfl (c91 _ _ _ _ (by first | omega | (simp_all; done))) (AViews.refl _ rfl)) rfl rfl rfl ?_ -- d=33 t=160
      refine awp_block ?_
      refine awp_rangeFunc (x := fun k => .sl 1 (decide (im.length ≤ 128 * k)) (min 128 (im.length - 128 * k)) (fun j => bAt im (128 * k + j))) (total := Sp.total im) rfl ent124 (chunk_seq b im.length (bAt im) (by omega) (by omega)) rfl rfl rfl (Nat.le_of_ble_eq_true rfl) (Nat.le_of_ble_eq_true rfl) (by kernel_rfl) (fun pre => [(10, cond pre.isEmpty (some (.sl 10 true 0 (fun _ => .top))) (some (.osl 1044 10 0 pre.length pre.length))), (1044, cond pre.isEmpty none (some (.arr 10 pre.length (fun j => noteAV (Sp.cutNote p x st im (pre.getD j 0) j 0)))))]) [1044] (by
        refine imp_over (L := []) [] rfl rfl (by kernel_rfl) True.intro ?_
        refine And.intro (And.intro rfl (And.intro rfl (Exists.intro _ (And.intro rfl wkc)))) ?_
        exact True.intro
        ) (fun C' hV' hN' hM' l m pre k hlen => ?_) ?_
      obtain ⟨_, _, w0', G0', σ0', _, own0'⟩ := C'; dsimp only at hV' hN' hM'; subst hV'; subst hN'; subst hM'; rcases pre with _ | ⟨p0, rest⟩
      · skip
        refine awpr_block ?_
        refine awpr_region rfl rfl ?_
        first
          | refine sP (opp_loadP rfl rfl rfl rfl bi rfl ty48) rfl rfl ?_
          | refine sP (opp_loadF rfl rfl ty48) rfl rfl ?_
        first
          | refine sP (opp_loadP rfl rfl rfl rfl bi rfl ty3) rfl rfl ?_
          | refine sP (opp_loadF rfl rfl ty3) rfl rfl ?_
        first
          | refine sP (opp_loadP rfl rfl rfl rfl bi rfl ty23) rfl rfl ?_
          | refine sP (opp_loadF rfl rfl ty23) rfl rfl ?_
        first
          | refine sP (opp_loadP rfl rfl rfl rfl bi rfl ty3) rfl rfl ?_
          | refine sP (opp_loadF rfl rfl ty3) rfl rfl ?_
        first
          | refine sP (opp_loadP rfl rfl rfl rfl bi rfl ty48) rfl rfl ?_
          | refine sP (opp_loadF rfl rfl ty48) rfl rfl ?_
        first
          | refine sP (opp_lenSl rfl rfl un48) rfl rfl ?_
          | refine sP (opp_lenOsl rfl rfl un48) rfl rfl ?_
        first
          | refine sP (opp_mv (v := .sl _ _ _ _) rfl rfl) rfl rfl ?_
          | refine sP (opp_mv (v := .osl _ _ _ _ _) rfl rfl) rfl rfl ?_
        refine sP (opp_bytesStr rfl rfl (Sp.pieceOf im k) (Sp.pieceOf_length im k) (fun j hj => by rw [Sp.pieceOf_get im k j hj]; rfl) un36 unu8 un9) rfl rfl ?_
        refine sP (opp_build rfl z26 bld26 rfl [.int _ _, .int _ _, .agg _, .int _ _, .int _ _, .int .i64 0, .int .u32 0, .str _] rfl) rfl rfl ?_
        refine sR (opr_buildSlice (n := 44) (g := fun j => if j = 0 then .agg _ else .agg [.int .i64 0, .int .i64 0, .agg [.int .i64 0, .int .i64 0, .int .i64 0], .int .i64 0, .int .i64 0, .int .i64 0, .int .u32 0, .str []]) rfl eb48 z26 (by decide) rfl rfl) rfl rfl rfl ?_
        first
          | refine sR (opr_append (d := 45) rfl rfl rfl (by omega) (.osl0 rfl (by omega)) eb48 z26 (by omega) (by omega)) rfl rfl rfl ?_
          | refine sR (opr_append (d := 45) rfl rfl rfl (by omega) .sl eb48 z26 (by omega) (by omega)) rfl rfl rfl ?_
          | refine sR (opr_append (d := 45) rfl rfl rfl (by omega) (.osl rfl (by omega) (fun _ _ => rfl)) eb48 z26 (by omega) (by omega)) rfl rfl rfl ?_
          | refine sR (opr_appendNil (d := 45) rfl rfl (.osl0 rfl (by omega)) eb48 z26 (by omega) (by omega) (by omega)) rfl rfl rfl ?_
          | refine sR (opr_appendNil (d := 45) rfl rfl .sl eb48 z26 (by omega) (by omega) (by omega)) rfl rfl rfl ?_
          | refine sR (opr_appendNil (d := 45) rfl rfl (.osl rfl (by omega) (fun _ _ => rfl)) eb48 z26 (by omega) (by omega) (by omega)) rfl rfl rfl ?_
        first
          | refine sR0 (opr_store (v := .sl _ _ _ _) (trn := (.sl _ _ _ _)) rfl rfl rfl rfl bi rfl rfl rfl rfl fr2 ty48 (fun _ _ h => h)) rfl rfl rfl ?_
          | refine sR0 (opr_store (v := .osl _ _ _ _ _) (trn := (.osl _ _ _ _ _)) rfl rfl rfl rfl bi rfl rfl rfl rfl fr2 ty48 (fun _ _ h => h)) rfl rfl rfl ?_
        refine And.intro rfl (Exists.intro [] (imp_overH [(1044, 45)] rfl (by kernel_rfl) ?_))
        refine And.intro (And.intro rfl (And.intro rfl (Exists.intro _ (And.intro rfl wkc)))) ?_
        refine And.intro (And.intro rfl (And.intro rfl (Exists.intro _ (And.intro rfl (by exact WkC.arr (fun j hj => by have h0 : j = 0 := (by simpa using hj); subst h0; rfl)))))) ?_
        exact True.intro
      · skip
        refine awpr_block ?_
        refine awpr_region rfl rfl ?_
        first
          | refine sP (opp_loadP rfl rfl rfl rfl bi rfl ty48) rfl rfl ?_
          | refine sP (opp_loadF rfl rfl ty48) rfl rfl ?_
        first
          | refine sP (opp_loadP rfl rfl rfl rfl bi rfl ty3) rfl rfl ?_
          | refine sP (opp_loadF rfl rfl ty3) rfl rfl ?_
        first
          | refine sP (opp_loadP rfl rfl rfl rfl bi rfl ty23) rfl rfl ?_
          | refine sP (opp_loadF rfl rfl ty23) rfl rfl ?_
        first
          | refine sP (opp_loadP rfl rfl rfl rfl bi rfl ty3) rfl rfl ?_
          | refine sP (opp_loadF rfl rfl ty3) rfl rfl ?_
        first
          | refine sP (opp_loadP rfl rfl rfl rfl bi rfl ty48) rfl rfl ?_
          | refine sP (opp_loadF rfl rfl ty48) rfl rfl ?_
        first
          | refine sP (opp_lenSl rfl rfl un48) rfl rfl ?_
          | refine sP (opp_lenOsl rfl rfl un48) rfl rfl ?_
        first
          | refine sP (opp_mv (v := .sl _ _ _ _) rfl rfl) rfl rfl ?_
          | refine sP (opp_mv (v := .osl _ _ _ _ _) rfl rfl) rfl rfl ?_
        refine sP (opp_bytesStr rfl rfl (Sp.pieceOf im k) (Sp.pieceOf_length im k) (fun j hj => by rw [Sp.pieceOf_get im k j hj]; rfl) un36 unu8 un9) rfl rfl ?_
        refine sP (opp_build rfl z26 bld26 rfl [.int _ _, .int _ _, .agg _, .int _ _, .int _ _, .int .i64 0, .int .u32 0, .str _] rfl) rfl rfl ?_
        refine sR (opr_buildSlice (n := 44) (g := fun j => if j = 0 then .agg _ else .agg [.int .i64 0, .int .i64 0, .agg [.int .i64 0, .int .i64 0, .int .i64 0], .int .i64 0, .int .i64 0, .int .i64 0, .int .u32 0, .str []]) rfl eb48 z26 (by decide) rfl rfl) rfl rfl rfl ?_
        first
          | refine sR (opr_append (d := 45) rfl rfl rfl (by omega) (.osl0 rfl (by omega)) eb48 z26 (by omega) (by omega)) rfl rfl rfl ?_
          | refine sR (opr_append (d := 45) rfl rfl rfl (by omega) .sl eb48 z26 (by omega) (by omega)) rfl rfl rfl ?_
          | refine sR (opr_append (d := 45) rfl rfl rfl (by omega) (.osl rfl (by omega) (fun _ _ => rfl)) eb48 z26 (by omega) (by omega)) rfl rfl rfl ?_
          | refine sR (opr_appendNil (d := 45) rfl rfl (.osl0 rfl (by omega)) eb48 z26 (by omega) (by omega) (by omega)) rfl rfl rfl ?_
          | refine sR (opr_appendNil (d := 45) rfl rfl .sl eb48 z26 (by omega) (by omega) (by omega)) rfl rfl rfl ?_
          | refine sR (opr_appendNil (d := 45) rfl rfl (.osl rfl (by omega) (fun _ _ => rfl)) eb48 z26 (by omega) (by omega) (by omega)) rfl rfl rfl ?_
        first
          | refine sR0 (opr_store (v := .sl _ _ _ _) (trn := (.sl _ _ _ _)) rfl rfl rfl rfl bi rfl rfl rfl rfl fr2 ty48 (fun _ _ h => h)) rfl rfl rfl ?_
          | refine sR0 (opr_store (v := .osl _ _ _ _ _) (trn := (.osl _ _ _ _ _)) rfl rfl rfl rfl bi rfl rfl rfl rfl fr2 ty48 (fun _ _ h => h)) rfl rfl rfl ?_
        refine And.intro rfl (Exists.intro [] (imp_overH [(1044, 45)] rfl (by kernel_rfl) ?_))
        refine And.intro (And.intro rfl (And.intro rfl (Exists.intro _ (And.intro rfl (by exact WkC.of (by show AV.osl 45 10 0 _ _ = AV.osl 45 10 0 _ _; simp)))))) ?_
        refine And.intro (And.intro rfl (And.intro rfl (Exists.intro _ (And.intro rfl (by show WkC (AV.arr 10 _ _) (AV.arr 10 _ _); rw [List.length_append]; exact WkC.arr (fun j hj => Sp.cut_append p x st im (p0 :: rest) k j _ rfl _ hj)))))) ?_
        exact True.intro
      · obtain ⟨p0, rest, hr⟩ : ∃ p0 rest, List.range (Sp.total im) = p0 :: rest := by
          cases h : List.range (Sp.total im) with
          | nil => have := congrArg List.length h; simp at this; omega
          | cons p0 rest => exact ⟨p0, rest, rfl⟩
        have hlen : (p0 :: rest).length = Sp.total im := by rw [← hr]; simp
        rw [hr]
        refine awp_seq ?_
        refine awp_seq ?_
        refine awp_region rfl ?_
        first
          | refine sP (opp_loadP rfl rfl rfl rfl bi rfl ty48) rfl rfl ?_
          | refine sP (opp_loadF rfl rfl ty48) rfl rfl ?_
        first
          | refine sP (opp_lenSl rfl rfl un48) rfl rfl ?_
          | refine sP (opp_lenOsl rfl rfl un48) rfl rfl ?_
        refine sP (opp_mv (v := .int _ _) rfl rfl) rfl rfl ?_
        refine awp_block ?_
        refine awp_loopK (ι := Nat) (fun i => i ≤ (p0 :: rest).length) (fun i => [(12, .top), (48, .int .i64 i), (49, .top), (50, .top), (51, .top), (52, .top), (53, .top), (54, .top), (55, .top), (56, .top), (57, .top)]) (fun i => [(1044, some (.arr 10 (p0 :: rest).length (fun j => noteAV (Sp.cutNote p x st im j j (if j < i then Sp.total im else 0)))))]) [] (fun i => (p0 :: rest).length - i) (0) (Nat.zero_le _) (by
          refine imp_over [] rfl rfl (by kernel_rfl) ?_ ?_
          · refine And.intro wkv ?_
            refine And.intro wkv ?_
            refine And.intro wkv ?_
            refine And.intro wkv ?_
            refine And.intro wkv ?_
            refine And.intro wkv ?_
            refine And.intro wkv ?_
            refine And.intro wkv ?_
            refine And.intro wkv ?_
            refine And.intro wkv ?_
            refine And.intro wkv ?_
            exact True.intro
          · refine And.intro (And.intro rfl (And.intro rfl (Exists.intro _ (And.intro rfl (by exact WkC.arr (fun j hj => by rw [← hr, Sp.range_get _ _ (by rw [← hlen]; exact hj)]; simp)))))) ?_
            exact True.intro
          ) ?_
        intro i hi1
        refine awp_seq ?_
        refine awp_region rfl ?_
        refine sP (opp_cmp rfl rfl rfl rfl) rfl rfl ?_
        refine awp_seq ?_
        refine awp_cond _ rfl (fun hc14 => ?_) (fun hc14 => ?_)
        · try simp only [cmpI, errD_nil, Bool.not_eq_true', Bool.not_eq_false', decide_eq_true_eq, decide_eq_false_iff_not] at hc14; have ht49 := hc14
          refine awp_skip ?_
          refine awp_seq ?_
          refine awp_block ?_
          refine awp_seq ?_
          refine awp_region rfl ?_
          refine sP (opp_mv (v := .int _ _) rfl rfl) rfl rfl ?_
          refine sP (opp_as (v := .int _ _) rfl rfl) rfl rfl ?_
          refine awp_region rfl ?_
          first
            | refine sP (opp_loadP rfl rfl rfl rfl bi rfl ty48) rfl rfl ?_
            | refine sP (opp_loadF rfl rfl ty48) rfl rfl ?_
          refine sP (opp_mv (v := .int _ _) rfl rfl) rfl rfl ?_
          first
            | refine sP (opp_loadP rfl rfl rfl rfl bi rfl ty48) rfl rfl ?_
            | refine sP (opp_loadF rfl rfl ty48) rfl rfl ?_
          first
            | refine sP (opp_lenSl rfl rfl un48) rfl rfl ?_
            | refine sP (opp_lenOsl rfl rfl un48) rfl rfl ?_
          first
            | refine sP (opp_indexSl rfl rfl rfl el48 (by omega) (by omega)) rfl rfl ?_
            | refine sP (opp_indexOsl0 rfl rfl rfl el48 (by omega) (by omega)) rfl rfl ?_
            | refine sP (opp_indexOsl rfl rfl rfl el48 (by omega) (by omega)) rfl rfl ?_
          first
            | refine sP (opp_fieldP rfl rfl fld26_5 rfl) rfl rfl ?_
            | refine sP (opp_fieldF rfl rfl rfl fld26_5 rfl rfl) rfl rfl ?_
          first
            | refine sR0 (opr_storeA (v := .int _ _) rfl rfl rfl (by omega) rfl rfl rfl rfl rfl ty3) rfl rfl rfl ?_
            | refine sR0 (opr_storeAF (v := .int _ _) (w := .agg [_, _, _, _, _, .int _ _, _, _]) rfl rfl rfl (by omega) rfl rfl rfl rfl rfl rfl rfl rfl ty3) rfl rfl rfl ?_
          refine awp_region rfl ?_
          first
            | refine sP (opp_arith rfl rfl rfl (.inl ⟨rfl, w64 (by omega)⟩)) rfl rfl ?_
            | refine sP (opp_arith rfl rfl rfl (.inl ⟨rfl, rfl⟩)) rfl rfl ?_
          refine sP (opp_mv (v := .int _ _) rfl rfl) rfl rfl ?_
          refine Exists.intro (i + 1) (And.intro (And.intro (by omega) (by omega)) (by
            refine imp_over [] rfl rfl (by kernel_rfl) ?_ ?_
            · refine And.intro wkv ?_
              refine And.intro wkv ?_
              refine And.intro wkv ?_
              refine And.intro wkv ?_
              refine And.intro wkv ?_
              refine And.intro wkv ?_
              refine And.intro wkv ?_
              refine And.intro wkv ?_
              refine And.intro wkv ?_
              refine And.intro wkv ?_
              refine And.intro wkv ?_
              exact True.intro
            · refine And.intro (And.intro rfl (And.intro rfl (Exists.intro _ (And.intro rfl (by exact WkC.arr (fun j hj => Sp.cut_tot p x st im j i _ _ (fun h => by subst h; rw [hlen]; simp [noteAV, Sp.cutNote]))))))) ?_
              exact True.intro
            ))
        · try simp only [cmpI, errD_nil, Bool.not_eq_true', Bool.not_eq_false', decide_eq_true_eq, decide_eq_false_iff_not] at hc14; have ht49 := hc14
          refine awp_exit ?_
          refine awp_seq ?_
          refine awp_region rfl ?_
          first
            | refine sP (opp_loadP rfl rfl rfl rfl bi rfl ty48) rfl rfl ?_
            | refine sP (opp_loadF rfl rfl ty48) rfl rfl ?_
          first
            | refine sP (opp_as (v := .sl _ _ _ _) rfl rfl) rfl rfl ?_
            | refine sP (opp_as (v := .osl _ _ _ _ _) rfl rfl) rfl rfl ?_
          refine sP (opp_as (v := .err _) rfl rfl) rfl rfl ?_
          refine awp_ret ?_
          repeat (first | refine athen_ret ?_ | refine ain_ret ?_)
          first
            | refine apost_ret (aend (l := [.sl _ _ _ _, .err _]) (.tmp (.tmp .nil)) (fun h => by cases h) (.cons (.noN rfl rfl) (.cons (.noN rfl rfl) .nil)) ⟨Wk.v ?_, rfl, rfl⟩)
            | refine apost_ret (aends (l := [.sl _ _ _ _, .err _]) (.tmp (.tmp .nil)) (fun h => by cases h) (.cons shut (fun h => by cases h) (.cons shut (fun h => by cases h) .nil)) rfl ⟨Wk.v ?_, rfl, rfl⟩)
            | refine apost_ret (aend (l := [.osl _ _ _ _ _, .err _]) (.tmp (.tmp .nil)) (fun h => by cases h) (.cons (.noN rfl rfl) (.cons (.noN rfl rfl) .nil)) ⟨Wk.v ?_, rfl, rfl⟩)
            | refine apost_ret (aends (l := [.osl _ _ _ _ _, .err _]) (.tmp (.tmp .nil)) (fun h => by cases h) (.cons shut (fun h => by cases h) (.cons shut (fun h => by cases h) .nil)) rfl ⟨Wk.v ?_, rfl, rfl⟩)
          have hi2 : i = Sp.total im := by omega
          have hne : Sp.notes p x st im ≠ [] := fun h => by have := congrArg List.length h; rw [Sp.notes_length] at this; simp at this; omega
          rw [show Sp.cut p x st im = (Sp.notes p x st im, 0) by simp [Sp.cut, hgd, hc6], hlen]; simp only [decide_eq_false hne, Sp.notes_length]; (repeat' (first | exact Wk.refl | exact Wk.sl0 | apply Wk.tup | apply Wk.agg | apply WkL.cons | exact WkL.nil | refine Wk.sl (fun _ _ => ?_)))
          rename_i j hj; rw [Sp.notes_get _ _ _ _ _ hj, if_pos (by omega)]
end
end Go.Proofs.YtgaihhimkodmmaaDoor

