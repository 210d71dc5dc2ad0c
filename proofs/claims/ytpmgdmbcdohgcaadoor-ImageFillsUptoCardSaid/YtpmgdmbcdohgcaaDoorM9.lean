/- My own texts, packed: L24x, L25x, L26x, S20. -/
import Derived.Test.YtpmgdmbcdohgcaaDoorM8
import Derived.Test.YtpmgdmbcdohgcaaDoorM7
/- The document's answers for layer 16: a record put to a state (walks over this dump). -/
namespace Go.Proofs.YtpmgdmbcdohgcaaDoor
attribute [local irreducible] Tryd.prog
open Go.Fy
set_option linter.unusedSimpArgs false
set_option linter.unusedVariables false
theorem nums_len (b : List UInt8) : (Sp.nums b).length = b.length := by simp [Sp.nums]
theorem nums_get (b : List UInt8) (j : Nat) (h : j < b.length) : natAt (Sp.nums b) j = .int .i64 ((b.getD j 0).toNat : Int) := by
  simp [natAt, Sp.nums, List.getD_eq_getElem?_getD, List.getElem?_map]; rw [List.getElem?_eq_getElem h]; rfl
theorem msgsQ_more (b : List UInt8) (k a : Nat) (acc : List (List UInt8)) (h : (Sp.msgsQ b k a acc).2 = true) (ha : a < b.length) : ∃ m, k = m + 1 ∧ a + 1 + Sp.fld b a 1 ≤ b.length ∧ Sp.msgsQ b k a acc = Sp.msgsQ b m (a + 1 + Sp.fld b a 1) (acc ++ [(b.drop (a + 1)).take (Sp.fld b a 1)]) := by
  cases k with
  | zero => simp [Sp.msgsQ] at h; omega
  | succ m =>
    have h1 : ¬ b.length ≤ a := by omega
    by_cases h2 : b.length < a + 1 + Sp.fld b a 1
    · rw [Sp.msgsQ, if_neg h1, if_pos h2] at h; cases h
    · exact ⟨m, rfl, by omega, by rw [Sp.msgsQ, if_neg h1, if_neg h2]⟩
theorem msgsQ_done (b : List UInt8) (k a : Nat) (acc : List (List UInt8)) (h : (Sp.msgsQ b k a acc).2 = true) (ha : b.length ≤ a) : (Sp.msgsQ b k a acc).1 = acc := by
  cases k with
  | zero => rfl
  | succ m => rw [Sp.msgsQ, if_pos ha] at h; cases h
theorem proc_fields (b : List UInt8) (h : b.length = 68) (k : Nat) (hk : k < 68) : ((b.getD k 0).toNat : Int) = (Sp.fld b k 1 : Nat) := by rw [fld1 b k (by omega)]
theorem portQ_ok (b : List UInt8) (h : (Sp.portQ b).2 = true) : 2 ≤ b.length ∧ (Sp.msgsQ b (Sp.fld b 1 1) 2 []).2 = true ∧ (Sp.portQ b).1 = ⟨(Sp.msgsQ b (Sp.fld b 1 1) 2 []).1, Sp.fld b 0 1⟩ := by
  unfold Sp.portQ at h ⊢
  by_cases h2 : b.length < 2
  · rw [if_pos h2] at h; cases h
  · rw [if_neg h2] at h ⊢; exact ⟨by omega, h, rfl⟩
theorem proc_eq (b : List UInt8) : AV.agg [AV.arr 1 16 (regAt b 15), AV.int .u32 (Sp.fld b 60 4 : Nat), AV.int .i64 (Sp.fld b 64 1 : Nat), AV.int .i64 (Sp.fld b 65 1 : Nat), AV.int .i64 (Sp.fld b 66 1 : Nat), AV.int .i64 (Sp.fld b 67 1 : Nat)] = prAV (Sp.proc b) := by
  have : regAt b 15 = fun j => AV.int .u32 (((Sp.proc b).regs.getD j 0 : Nat) : Int) := by
    funext j; unfold regAt
    by_cases h : j ≤ 15
    · rw [if_pos h]
    · rw [if_neg h]; simp [Sp.proc, List.getD_eq_getElem?_getD]; rw [List.getElem?_eq_none (by simp; omega)]; rfl
  rw [this]; rfl
section
variable {ea : Nat → Addr} {cds : List Nat} {gl : Nat → Option AV}
set_option maxHeartbeats 1000000 in
theorem cg51a (b : List UInt8) (nn : Bool) (h0 : b.length = 8) (x y : Int) (v : Nat → Value) : AGen (V ea cds gl) 51 [.agg [.val (v 0), .int .i64 x, .int .i64 y, .val (v 3), .val (v 4), .val (v 5), .val (v 6), .val (v 7), .val (v 8), .val (v 9)], rcAV ⟨1, nn, b⟩] []
  (.agg [.val (v 0), .int .i64 (Sp.fld b 0 4 : Nat), .int .i64 (Sp.fld b 4 4 : Nat), .val (v 3), .val (v 4), .val (v 5), .val (v 6), .val (v 7), .val (v 8), .val (v 9)]) [] := by
 unfold rcAV; dsimp only
 refine agen_of_body (N := 219) Tryd.func51 rfl rfl (Nat.le_of_ble_eq_true rfl) fun C hV hN hM hO => ?_
 obtain ⟨_, _, w0, G0, σ0, _, own0⟩ := C; dsimp only at hV hN hM hO; subst hV; subst hN; subst hM
 refine awp_seq (awp_region rfl ?_)
 refine sR (opr_box (y := .agg _) (n := 2) rfl rfl rfl) rfl rfl rfl ?_
 refine sR (opr_box (y := .agg _) (n := 3) rfl rfl rfl) rfl rfl rfl ?_
 refine sR (opr_alloc (n := 4) rfl z33) rfl rfl rfl ?_
 refine awp_seq (awp_region rfl ?_)
 refine sP (opp_fieldP rfl rfl fld94_1 rfl) rfl rfl ?_
 refine sP (opp_loadP rfl rfl rfl rfl bi rfl ty38) rfl rfl ?_
 refine sP (opp_as (v := .sl _ _ _ _) rfl rfl) rfl rfl ?_
 refine awp_seq (awp_seq (awp_region rfl ?_))
 refine sP (opp_fieldP rfl rfl fld94_0 rfl) rfl rfl ?_
 refine sP (opp_loadP rfl rfl rfl rfl bi rfl ty3) rfl rfl ?_
 refine awp_block (awp_seq (awp_region rfl ?_))
 refine sP (opp_cmp rfl rfl rfl rfl) rfl rfl ?_
 refine sP (opp_as (v := .bool _) rfl rfl) rfl rfl ?_
 refine awp_cond _ rfl (fun ht20 => ?_) (fun ht20 => ?_)
 ·(try simp only [cmpI, errD_nil, qa, qb, qc, qd] at ht20)
  refine awp_region rfl ?_
  refine sP (opp_mv (v := .sl _ _ _ _) rfl rfl) rfl rfl ?_
  refine sR (opr_call rfl rfl ent75 rfl (c75 b nn 0 4 (by omega) (by omega) (by omega)) (AViews.refl _ rfl)) rfl rfl rfl ?_ -- d=23 t=3 a=22,x,x
  refine sP (opp_mv (v := .sl _ _ _ _) rfl rfl) rfl rfl ?_
  refine sR (opr_call rfl rfl ent75 rfl (c75 b nn 4 4 (by omega) (by omega) (by omega)) (AViews.refl _ rfl)) rfl rfl rfl ?_ -- d=25 t=3 a=24,x,x
  refine sP (opp_fieldP rfl rfl fld33_1 rfl) rfl rfl ?_
  refine sR0 (opr_store (v := .int _ _) (trn := (.agg [_, .int _ _, _, _, _, _, _, _, _, _])) rfl rfl rfl rfl bi rfl rfl rfl rfl fr2 ty3 (fun _ _ h => h)) rfl rfl rfl ?_
  refine sP (opp_fieldP rfl rfl fld33_2 rfl) rfl rfl ?_
  refine sR0 (opr_store (v := .int _ _) (trn := (.agg [_, _, .int _ _, _, _, _, _, _, _, _])) rfl rfl rfl rfl bi rfl rfl rfl rfl fr2 ty3 (fun _ _ h => h)) rfl rfl rfl ?_
  refine awp_seq (awp_region rfl ?_)
  refine sP (opp_loadP rfl rfl rfl rfl bi rfl ty33) rfl rfl ?_
  refine sR0 (opr_store (v := .agg _) (trn := (.agg _)) rfl rfl rfl rfl bi rfl rfl rfl rfl fr2 ty33 (fun _ _ h => h)) rfl rfl rfl ?_
  refine awp_ret ?_
  repeat (first | refine athen_ret ?_ | refine ain_ret ?_)
  refine gpost_ret (gend1 (r0 := .agg _) true (.cell rfl rfl rfl (by exact True.intro) rfl ty33 .nil) shut rfl ?_ rfl True.intro)
  ·exact .refl
 ·(try simp only [cmpI, errD_nil, qa, qb, qc, qd] at ht20)
  exfalso; first | omega | (simp at ht20; done)
set_option maxHeartbeats 1000000 in
theorem cg51b (b : List UInt8) (nn : Bool) (h0 : b.length = 68) (l : List Pr) (hl : l.length ≤ 4294967296) (v : Nat → Value) : AGen (V ea cds gl) 51 [.agg [.val (v 0), .val (v 1), .val (v 2), .osl 1002 21 0 l.length l.length, .val (v 4), .val (v 5), .val (v 6), .val (v 7), .val (v 8), .val (v 9)], rcAV ⟨3, nn, b⟩] [(1002, some (.arr 21 l.length (prAt l)))]
  (.agg [.val (v 0), .val (v 1), .val (v 2), .osl 67 21 0 (l.length + 1) (l.length + 1), .val (v 4), .val (v 5), .val (v 6), .val (v 7), .val (v 8), .val (v 9)]) [(1002, none), (67, some (.arr 21 (l.length + 1) (prAt (l ++ [Sp.proc b]))))] := by
 unfold rcAV; dsimp only
 refine agen_of_body (N := 219) Tryd.func51 rfl rfl (Nat.le_of_ble_eq_true rfl) fun C hV hN hM hO => ?_
 obtain ⟨_, _, w0, G0, σ0, _, own0⟩ := C; dsimp only at hV hN hM hO; subst hV; subst hN; subst hM
 refine awp_seq (awp_region rfl ?_)
 refine sR (opr_box (y := .agg _) (n := 2) rfl rfl rfl) rfl rfl rfl ?_
 refine sR (opr_box (y := .agg _) (n := 3) rfl rfl rfl) rfl rfl rfl ?_
 refine sR (opr_alloc (n := 4) rfl z33) rfl rfl rfl ?_
 refine awp_seq (awp_region rfl ?_)
 refine sP (opp_fieldP rfl rfl fld94_1 rfl) rfl rfl ?_
 refine sP (opp_loadP rfl rfl rfl rfl bi rfl ty38) rfl rfl ?_
 refine sP (opp_as (v := .sl _ _ _ _) rfl rfl) rfl rfl ?_
 refine awp_seq (awp_seq (awp_region rfl ?_))
 refine sP (opp_fieldP rfl rfl fld94_0 rfl) rfl rfl ?_
 refine sP (opp_loadP rfl rfl rfl rfl bi rfl ty3) rfl rfl ?_
 refine awp_block (awp_seq (awp_region rfl ?_))
 refine sP (opp_cmp rfl rfl rfl rfl) rfl rfl ?_
 refine sP (opp_as (v := .bool _) rfl rfl) rfl rfl ?_
 refine awp_cond _ rfl (fun ht20 => ?_) (fun ht20 => ?_)
 ·(try simp only [cmpI, errD_nil, qa, qb, qc, qd] at ht20)
  exfalso; first | omega | (simp at ht20; done)
 ·(try simp only [cmpI, errD_nil, qa, qb, qc, qd] at ht20)
  refine awp_seq (awp_region rfl ?_)
  refine sP (opp_cmp rfl rfl rfl rfl) rfl rfl ?_
  refine sP (opp_as (v := .bool _) rfl rfl) rfl rfl ?_
  refine awp_cond _ rfl (fun ht28 => ?_) (fun ht28 => ?_)
  ·(try simp only [cmpI, errD_nil, qa, qb, qc, qd] at ht28)
   refine awp_seq ?_
   have hf60 := fld_lt b 60 4
   have hp64 := proc_fields b h0 64 (by omega)
   have hp65 := proc_fields b h0 65 (by omega)
   have hp66 := proc_fields b h0 66 (by omega)
   have hp67 := proc_fields b h0 67 (by omega)
   have hb64 : (b.getD (Int.toNat 64) 0).toNat < 256 := UInt8.toNat_lt _
   have hb65 : (b.getD (Int.toNat 65) 0).toNat < 256 := UInt8.toNat_lt _
   have hb66 : (b.getD (Int.toNat 66) 0).toNat < 256 := UInt8.toNat_lt _
   have hb67 : (b.getD (Int.toNat 67) 0).toNat < 256 := UInt8.toNat_lt _
   refine awp_draw hmix rfl (by kernel_rfl) ?_
   refine dP (fun _ => false) (opp_mv (v := .sl _ _ _ _) rfl rfl) rfl rfl ?_
   refine dR (fun n => !([6, 36, 40, 44, 48] : List Nat).contains n) (opr_call rfl rfl ent75 rfl (c75 b nn 60 4 (by omega) (by omega) (by omega)) (AViews.refl _ rfl)) rfl rfl rfl ?_ -- d=31 t=3 a=30,x,x
   refine dP (fun _ => false) (opp_convInt rfl rfl un3s un45 (wu32 (by omega))) rfl rfl ?_
   refine dP (fun _ => false) (opp_mv (v := .sl _ _ _ _) rfl rfl) rfl rfl ?_
   refine dP (fun _ => false) (opp_indexSl rfl rfl rfl el38 (by omega) (by omega)) rfl rfl ?_
   refine dP (fun _ => false) (opp_loadF rfl rfl ty5) rfl rfl ?_
   refine dP (fun _ => false) (opp_convInt rfl rfl un5s un3 (w64 (by omega))) rfl rfl ?_
   refine dP (fun _ => false) (opp_mv (v := .sl _ _ _ _) rfl rfl) rfl rfl ?_
   refine dP (fun _ => false) (opp_indexSl rfl rfl rfl el38 (by omega) (by omega)) rfl rfl ?_
   refine dP (fun _ => false) (opp_loadF rfl rfl ty5) rfl rfl ?_
   refine dP (fun _ => false) (opp_convInt rfl rfl un5s un3 (w64 (by omega))) rfl rfl ?_
   refine dP (fun _ => false) (opp_mv (v := .sl _ _ _ _) rfl rfl) rfl rfl ?_
   refine dP (fun _ => false) (opp_indexSl rfl rfl rfl el38 (by omega) (by omega)) rfl rfl ?_
   refine dP (fun _ => false) (opp_loadF rfl rfl ty5) rfl rfl ?_
   refine dP (fun _ => false) (opp_convInt rfl rfl un5s un3 (w64 (by omega))) rfl rfl ?_
   refine dP (fun _ => false) (opp_mv (v := .sl _ _ _ _) rfl rfl) rfl rfl ?_
   refine dP (fun _ => false) (opp_indexSl rfl rfl rfl el38 (by omega) (by omega)) rfl rfl ?_
   refine dP (fun _ => false) (opp_loadF rfl rfl ty5) rfl rfl ?_
   refine dP (fun _ => false) (opp_convInt rfl rfl un5s un3 (w64 (by omega))) rfl rfl ?_
   refine dP (fun _ => false) (opp_build rfl z116 bld116 rfl [.arr 1 16 (fun _ => .int .u32 0), .int _ _, .int _ _, .int _ _, .int _ _, .int _ _] rfl) rfl rfl ?_
   refine dR (fun _ => false) (opr_alloc (n := 6) rfl z116) rfl rfl rfl ?_
   refine dR0 (fun n => Nat.beq n 6) (opr_store (v := .agg _) (trn := (.agg _)) rfl rfl rfl rfl bi rfl rfl rfl rfl fr2 ty116 (fun _ _ h => h)) rfl rfl rfl ?_
   refine And.intro (by kernel_rfl) ?_
   refine awp_seq (awp_seq (awp_region rfl ?_))
   refine sP (opp_as (v := .int _ _) rfl rfl) rfl rfl ?_
   refine awp_block ?_
   refine awp_loopK (ι := Nat) (fun i => i ≤ 15) (fun i => [(7, .int .i64 ((i : Int) + 1)), (50, .top), (51, .top), (52, .top), (53, .top), (54, .top), (55, .top), (56, .top), (57, .top), (58, .top), (59, .top), (60, .top), (61, .top), (62, .top)]) (fun i => [(6, some (.agg [.arr 1 16 (regAt b i), .int .u32 (Sp.fld b 60 4 : Nat), .int .i64 (Sp.fld b 64 1 : Nat), .int .i64 (Sp.fld b 65 1 : Nat), .int .i64 (Sp.fld b 66 1 : Nat), .int .i64 (Sp.fld b 67 1 : Nat)]))]) [] (fun i => 15 - i) (0) (Nat.zero_le _) (by
    refine imp_over [] rfl rfl (by kernel_rfl) ?_ ?_
    ·iterate 14 refine And.intro wkv ?_
     exact True.intro
    ·refine And.intro (And.intro rfl (And.intro rfl (Exists.intro _ (And.intro rfl (by show WkC (AV.agg [AV.arr 1 16 _, _, _, _, _, _]) (AV.agg [AV.arr 1 16 _, _, _, _, _, _]); rw [← hp64, ← hp65, ← hp66, ← hp67]; exact Wk.c (Wk.agg (.cons (.arr (fun j hj => by unfold regAt; by_cases h : j ≤ 0; rw [if_pos h, show j = 0 by omega]; rfl; rw [if_neg h]; rfl)) (.cons .refl (.cons .refl (.cons .refl (.cons .refl (.cons .refl .nil)))))))))))) ?_
     exact True.intro
    ) ?_
   intro i hi1
   refine awp_seq (awp_seq (awp_region rfl ?_))
   refine sP (opp_mv (v := .int _ _) rfl rfl) rfl rfl ?_
   refine sP (opp_cmp rfl rfl rfl rfl) rfl rfl ?_
   refine awp_cond _ rfl (fun ht51 => ?_) (fun ht51 => ?_)
   ·(try simp only [cmpI, errD_nil, qa, qb, qc, qd] at ht51)
    refine awp_skip (awp_seq (awp_block ?_))
    have hf := fld_lt b (4 * i) 4
    refine awp_region rfl ?_
    refine sP (opp_mv (v := .int _ _) rfl rfl) rfl rfl ?_
    refine sP (opp_mv (v := .sl _ _ _ _) rfl rfl) rfl rfl ?_
    refine sP (opp_mv (v := .int _ _) rfl rfl) rfl rfl ?_
    refine sP (opp_arith rfl rfl rfl (.inr <| .inr <| .inl ⟨rfl, w64 (by omega)⟩)) rfl rfl ?_
    refine sP (opp_arith rfl rfl rfl (.inr <| .inl ⟨rfl, w64 (by omega)⟩)) rfl rfl ?_
    rw [show (4 * ((i : Int) + 1) - 4) = ((4 * i : Nat) : Int) by omega]
    refine sR (opr_call rfl rfl ent75 rfl (c75 b nn (4 * i) 4 (by omega) (by omega) (by omega)) (AViews.refl _ rfl)) rfl rfl rfl ?_ -- d=59 t=3 a=55,58,x
    refine sP (opp_convInt rfl rfl un3s un45 (wu32 (by omega))) rfl rfl ?_
    refine sP (opp_fieldP rfl rfl fld116_0 rfl) rfl rfl ?_
    refine sP (opp_indexArrP rfl rfl rfl arr114 (by omega) (by omega)) rfl rfl ?_
    refine sR0 (opr_store (v := .int _ _) (trn := (.agg [_, _, _, _, _, _])) rfl rfl rfl rfl bi rfl rfl rfl rfl fr2 ty45 (fun _ _ h => h)) rfl rfl rfl ?_
    refine awp_region rfl ?_
    refine sP (opp_mv (v := .int _ _) rfl rfl) rfl rfl ?_
    refine sP (opp_arith rfl rfl rfl (.inl ⟨rfl, w64 (by omega)⟩)) rfl rfl ?_
    refine sP (opp_as (v := .int _ _) rfl rfl) rfl rfl ?_
    refine Exists.intro (i + 1) (And.intro (And.intro (by (show i + 1 ≤ 15; omega)) (by first | omega | (dsimp only; omega))) (by
     refine imp_over [] rfl rfl (by kernel_rfl) ?_ ?_
     ·refine And.intro (by exact Or.inr (And.intro rfl (WkV.of (by show AV.int .i64 _ = AV.int .i64 _; simp)))) ?_
      iterate 13 refine And.intro wkv ?_
      exact True.intro
     ·refine And.intro (And.intro rfl (And.intro rfl (Exists.intro _ (And.intro rfl (by show WkC (AV.agg [AV.arr 1 16 _, _, _, _, _, _]) (AV.agg [AV.arr 1 16 _, _, _, _, _, _]); exact Wk.c (Wk.agg (.cons (.arr (fun j hj => regAt_next b i j (by omega))) (.cons .refl (.cons .refl (.cons .refl (.cons .refl (.cons .refl .nil)))))))))))) ?_
      exact True.intro
     ))
   ·(try simp only [cmpI, errD_nil, qa, qb, qc, qd] at ht51)
    refine awp_exit ?_
    have hie : i = 15 := by omega
    subst hie
    refine awp_region rfl ?_
    refine sP (opp_fieldP rfl rfl fld33_3 rfl) rfl rfl ?_
    refine sP (opp_loadP rfl rfl rfl rfl bi rfl ty26) rfl rfl ?_
    refine sP (opp_loadP rfl rfl rfl rfl bi rfl ty116) rfl rfl ?_
    refine sR (opr_buildSlice (n := 66) (g := fun j => if j = 0 then .agg _ else .agg [.arr 1 16 (fun _ => .int .u32 0), .int .u32 0, .int .i64 0, .int .i64 0, .int .i64 0, .int .i64 0]) rfl eb26 z116 (by decide) rfl rfl) rfl rfl rfl ?_
    refine sR (opr_append (d := 67) rfl rfl rfl (by omega) (.osl0 rfl (by omega)) eb26 z116 (by omega) (by omega)) rfl rfl rfl ?_
    refine sP (opp_fieldP rfl rfl fld33_3 rfl) rfl rfl ?_
    refine sR0 (opr_store (v := .osl _ _ _ _ _) (trn := (.agg [_, _, _, .osl _ _ _ _ _, _, _, _, _, _, _])) rfl rfl rfl rfl bi rfl rfl rfl rfl fr2 ty26 (fun _ _ h => h)) rfl rfl rfl ?_
    refine awp_seq (awp_region rfl ?_)
    refine sP (opp_loadP rfl rfl rfl rfl bi rfl ty33) rfl rfl ?_
    refine sR0 (opr_store (v := .agg _) (trn := (.agg _)) rfl rfl rfl rfl bi rfl rfl rfl rfl fr2 ty33 (fun _ _ h => h)) rfl rfl rfl ?_
    refine awp_ret ?_
    repeat (first | refine athen_ret ?_ | refine ain_ret ?_)
    refine gpost_ret (gend1 (r0 := .agg _) false (.cell rfl rfl rfl (by exact True.intro) rfl ty33 .nil) shut rfl ?_ rfl (And.intro (Exists.intro _ (Exists.intro _ (And.intro rfl (And.intro shut (And.intro (fun h => by cases h) (And.intro ?_ rfl)))))) True.intro))
    ·exact .refl
    ·exact .arr (fun j hj => by by_cases h : j < l.length; rw [if_pos h, prAt, prAt, snoc_lt _ _ _ _ h]; rw [if_neg h, if_pos (by omega), prAt, snoc_eq _ _ _ _ (by omega)]; exact (show AV.agg [AV.arr 1 16 (regAt b 15), AV.int .u32 (Sp.fld b 60 4 : Nat), AV.int .i64 (Sp.fld b 64 1 : Nat), AV.int .i64 (Sp.fld b 65 1 : Nat), AV.int .i64 (Sp.fld b 66 1 : Nat), AV.int .i64 (Sp.fld b 67 1 : Nat)] = prAV (Sp.proc b) from proc_eq b))
  ·(try simp only [cmpI, errD_nil, qa, qb, qc, qd] at ht28)
   exfalso; first | omega | (simp at ht28; done)
set_option maxHeartbeats 1000000 in
theorem cg51c (b : List UInt8) (nn : Bool) (h0 : b.length = 68) (f : Nat → AV) (v : Nat → Value) : AGen (V ea cds gl) 51 [.agg [.val (v 0), .val (v 1), .val (v 2), .sl 21 true 0 f, .val (v 4), .val (v 5), .val (v 6), .val (v 7), .val (v 8), .val (v 9)], rcAV ⟨3, nn, b⟩] []
  (.agg [.val (v 0), .val (v 1), .val (v 2), .osl 67 21 0 1 1, .val (v 4), .val (v 5), .val (v 6), .val (v 7), .val (v 8), .val (v 9)]) [(67, some (.arr 21 1 (prAt [Sp.proc b])))] := by
 unfold rcAV; dsimp only
 refine agen_of_body (N := 219) Tryd.func51 rfl rfl (Nat.le_of_ble_eq_true rfl) fun C hV hN hM hO => ?_
 obtain ⟨_, _, w0, G0, σ0, _, own0⟩ := C; dsimp only at hV hN hM hO; subst hV; subst hN; subst hM
 refine awp_seq (awp_region rfl ?_)
 refine sR (opr_box (y := .agg _) (n := 2) rfl rfl rfl) rfl rfl rfl ?_
 refine sR (opr_box (y := .agg _) (n := 3) rfl rfl rfl) rfl rfl rfl ?_
 refine sR (opr_alloc (n := 4) rfl z33) rfl rfl rfl ?_
 refine awp_seq (awp_region rfl ?_)
 refine sP (opp_fieldP rfl rfl fld94_1 rfl) rfl rfl ?_
 refine sP (opp_loadP rfl rfl rfl rfl bi rfl ty38) rfl rfl ?_
 refine sP (opp_as (v := .sl _ _ _ _) rfl rfl) rfl rfl ?_
 refine awp_seq (awp_seq (awp_region rfl ?_))
 refine sP (opp_fieldP rfl rfl fld94_0 rfl) rfl rfl ?_
 refine sP (opp_loadP rfl rfl rfl rfl bi rfl ty3) rfl rfl ?_
 refine awp_block (awp_seq (awp_region rfl ?_))
 refine sP (opp_cmp rfl rfl rfl rfl) rfl rfl ?_
 refine sP (opp_as (v := .bool _) rfl rfl) rfl rfl ?_
 refine awp_cond _ rfl (fun ht20 => ?_) (fun ht20 => ?_)
 ·(try simp only [cmpI, errD_nil, qa, qb, qc, qd] at ht20)
  exfalso; first | omega | (simp at ht20; done)
 ·(try simp only [cmpI, errD_nil, qa, qb, qc, qd] at ht20)
  refine awp_seq (awp_region rfl ?_)
  refine sP (opp_cmp rfl rfl rfl rfl) rfl rfl ?_
  refine sP (opp_as (v := .bool _) rfl rfl) rfl rfl ?_
  refine awp_cond _ rfl (fun ht28 => ?_) (fun ht28 => ?_)
  ·(try simp only [cmpI, errD_nil, qa, qb, qc, qd] at ht28)
   refine awp_seq ?_
   have hf60 := fld_lt b 60 4
   have hp64 := proc_fields b h0 64 (by omega)
   have hp65 := proc_fields b h0 65 (by omega)
   have hp66 := proc_fields b h0 66 (by omega)
   have hp67 := proc_fields b h0 67 (by omega)
   have hb64 : (b.getD (Int.toNat 64) 0).toNat < 256 := UInt8.toNat_lt _
   have hb65 : (b.getD (Int.toNat 65) 0).toNat < 256 := UInt8.toNat_lt _
   have hb66 : (b.getD (Int.toNat 66) 0).toNat < 256 := UInt8.toNat_lt _
   have hb67 : (b.getD (Int.toNat 67) 0).toNat < 256 := UInt8.toNat_lt _
   refine awp_draw hmix rfl (by kernel_rfl) ?_
   refine dP (fun _ => false) (opp_mv (v := .sl _ _ _ _) rfl rfl) rfl rfl ?_
   refine dR (fun n => !([6, 36, 40, 44, 48] : List Nat).contains n) (opr_call rfl rfl ent75 rfl (c75 b nn 60 4 (by omega) (by omega) (by omega)) (AViews.refl _ rfl)) rfl rfl rfl ?_ -- d=31 t=3 a=30,x,x
   refine dP (fun _ => false) (opp_convInt rfl rfl un3s un45 (wu32 (by omega))) rfl rfl ?_
   refine dP (fun _ => false) (opp_mv (v := .sl _ _ _ _) rfl rfl) rfl rfl ?_
   refine dP (fun _ => false) (opp_indexSl rfl rfl rfl el38 (by omega) (by omega)) rfl rfl ?_
   refine dP (fun _ => false) (opp_loadF rfl rfl ty5) rfl rfl ?_
   refine dP (fun _ => false) (opp_convInt rfl rfl un5s un3 (w64 (by omega))) rfl rfl ?_
   refine dP (fun _ => false) (opp_mv (v := .sl _ _ _ _) rfl rfl) rfl rfl ?_
   refine dP (fun _ => false) (opp_indexSl rfl rfl rfl el38 (by omega) (by omega)) rfl rfl ?_
   refine dP (fun _ => false) (opp_loadF rfl rfl ty5) rfl rfl ?_
   refine dP (fun _ => false) (opp_convInt rfl rfl un5s un3 (w64 (by omega))) rfl rfl ?_
   refine dP (fun _ => false) (opp_mv (v := .sl _ _ _ _) rfl rfl) rfl rfl ?_
   refine dP (fun _ => false) (opp_indexSl rfl rfl rfl el38 (by omega) (by omega)) rfl rfl ?_
   refine dP (fun _ => false) (opp_loadF rfl rfl ty5) rfl rfl ?_
   refine dP (fun _ => false) (opp_convInt rfl rfl un5s un3 (w64 (by omega))) rfl rfl ?_
   refine dP (fun _ => false) (opp_mv (v := .sl _ _ _ _) rfl rfl) rfl rfl ?_
   refine dP (fun _ => false) (opp_indexSl rfl rfl rfl el38 (by omega) (by omega)) rfl rfl ?_
   refine dP (fun _ => false) (opp_loadF rfl rfl ty5) rfl rfl ?_
   refine dP (fun _ => false) (opp_convInt rfl rfl un5s un3 (w64 (by omega))) rfl rfl ?_
   refine dP (fun _ => false) (opp_build rfl z116 bld116 rfl [.arr 1 16 (fun _ => .int .u32 0), .int _ _, .int _ _, .int _ _, .int _ _, .int _ _] rfl) rfl rfl ?_
   refine dR (fun _ => false) (opr_alloc (n := 6) rfl z116) rfl rfl rfl ?_
   refine dR0 (fun n => Nat.beq n 6) (opr_store (v := .agg _) (trn := (.agg _)) rfl rfl rfl rfl bi rfl rfl rfl rfl fr2 ty116 (fun _ _ h => h)) rfl rfl rfl ?_
   refine And.intro (by kernel_rfl) ?_
   refine awp_seq (awp_seq (awp_region rfl ?_))
   refine sP (opp_as (v := .int _ _) rfl rfl) rfl rfl ?_
   refine awp_block ?_
   refine awp_loopK (ι := Nat) (fun i => i ≤ 15) (fun i => [(7, .int .i64 ((i : Int) + 1)), (50, .top), (51, .top), (52, .top), (53, .top), (54, .top), (55, .top), (56, .top), (57, .top), (58, .top), (59, .top), (60, .top), (61, .top), (62, .top)]) (fun i => [(6, some (.agg [.arr 1 16 (regAt b i), .int .u32 (Sp.fld b 60 4 : Nat), .int .i64 (Sp.fld b 64 1 : Nat), .int .i64 (Sp.fld b 65 1 : Nat), .int .i64 (Sp.fld b 66 1 : Nat), .int .i64 (Sp.fld b 67 1 : Nat)]))]) [] (fun i => 15 - i) (0) (Nat.zero_le _) (by
    refine imp_over [] rfl rfl (by kernel_rfl) ?_ ?_
    ·iterate 14 refine And.intro wkv ?_
     exact True.intro
    ·refine And.intro (And.intro rfl (And.intro rfl (Exists.intro _ (And.intro rfl (by show WkC (AV.agg [AV.arr 1 16 _, _, _, _, _, _]) (AV.agg [AV.arr 1 16 _, _, _, _, _, _]); rw [← hp64, ← hp65, ← hp66, ← hp67]; exact Wk.c (Wk.agg (.cons (.arr (fun j hj => by unfold regAt; by_cases h : j ≤ 0; rw [if_pos h, show j = 0 by omega]; rfl; rw [if_neg h]; rfl)) (.cons .refl (.cons .refl (.cons .refl (.cons .refl (.cons .refl .nil)))))))))))) ?_
     exact True.intro
    ) ?_
   intro i hi1
   refine awp_seq (awp_seq (awp_region rfl ?_))
   refine sP (opp_mv (v := .int _ _) rfl rfl) rfl rfl ?_
   refine sP (opp_cmp rfl rfl rfl rfl) rfl rfl ?_
   refine awp_cond _ rfl (fun ht51 => ?_) (fun ht51 => ?_)
   ·(try simp only [cmpI, errD_nil, qa, qb, qc, qd] at ht51)
    refine awp_skip (awp_seq (awp_block ?_))
    have hf := fld_lt b (4 * i) 4
    refine awp_region rfl ?_
    refine sP (opp_mv (v := .int _ _) rfl rfl) rfl rfl ?_
    refine sP (opp_mv (v := .sl _ _ _ _) rfl rfl) rfl rfl ?_
    refine sP (opp_mv (v := .int _ _) rfl rfl) rfl rfl ?_
    refine sP (opp_arith rfl rfl rfl (.inr <| .inr <| .inl ⟨rfl, w64 (by omega)⟩)) rfl rfl ?_
    refine sP (opp_arith rfl rfl rfl (.inr <| .inl ⟨rfl, w64 (by omega)⟩)) rfl rfl ?_
    rw [show (4 * ((i : Int) + 1) - 4) = ((4 * i : Nat) : Int) by omega]
    refine sR (opr_call rfl rfl ent75 rfl (c75 b nn (4 * i) 4 (by omega) (by omega) (by omega)) (AViews.refl _ rfl)) rfl rfl rfl ?_ -- d=59 t=3 a=55,58,x
    refine sP (opp_convInt rfl rfl un3s un45 (wu32 (by omega))) rfl rfl ?_
    refine sP (opp_fieldP rfl rfl fld116_0 rfl) rfl rfl ?_
    refine sP (opp_indexArrP rfl rfl rfl arr114 (by omega) (by omega)) rfl rfl ?_
    refine sR0 (opr_store (v := .int _ _) (trn := (.agg [_, _, _, _, _, _])) rfl rfl rfl rfl bi rfl rfl rfl rfl fr2 ty45 (fun _ _ h => h)) rfl rfl rfl ?_
    refine awp_region rfl ?_
    refine sP (opp_mv (v := .int _ _) rfl rfl) rfl rfl ?_
    refine sP (opp_arith rfl rfl rfl (.inl ⟨rfl, w64 (by omega)⟩)) rfl rfl ?_
    refine sP (opp_as (v := .int _ _) rfl rfl) rfl rfl ?_
    refine Exists.intro (i + 1) (And.intro (And.intro (by (show i + 1 ≤ 15; omega)) (by first | omega | (dsimp only; omega))) (by
     refine imp_over [] rfl rfl (by kernel_rfl) ?_ ?_
     ·refine And.intro (by exact Or.inr (And.intro rfl (WkV.of (by show AV.int .i64 _ = AV.int .i64 _; simp)))) ?_
      iterate 13 refine And.intro wkv ?_
      exact True.intro
     ·refine And.intro (And.intro rfl (And.intro rfl (Exists.intro _ (And.intro rfl (by show WkC (AV.agg [AV.arr 1 16 _, _, _, _, _, _]) (AV.agg [AV.arr 1 16 _, _, _, _, _, _]); exact Wk.c (Wk.agg (.cons (.arr (fun j hj => regAt_next b i j (by omega))) (.cons .refl (.cons .refl (.cons .refl (.cons .refl (.cons .refl .nil)))))))))))) ?_
      exact True.intro
     ))
   ·(try simp only [cmpI, errD_nil, qa, qb, qc, qd] at ht51)
    refine awp_exit ?_
    have hie : i = 15 := by omega
    subst hie
    refine awp_region rfl ?_
    refine sP (opp_fieldP rfl rfl fld33_3 rfl) rfl rfl ?_
    refine sP (opp_loadP rfl rfl rfl rfl bi rfl ty26) rfl rfl ?_
    refine sP (opp_loadP rfl rfl rfl rfl bi rfl ty116) rfl rfl ?_
    refine sR (opr_buildSlice (n := 66) (g := fun j => if j = 0 then .agg _ else .agg [.arr 1 16 (fun _ => .int .u32 0), .int .u32 0, .int .i64 0, .int .i64 0, .int .i64 0, .int .i64 0]) rfl eb26 z116 (by decide) rfl rfl) rfl rfl rfl ?_
    refine sR (opr_appendNil (d := 67) rfl rfl (.osl0 rfl (by omega)) eb26 z116 (by omega) (by omega) (by omega)) rfl rfl rfl ?_
    refine sP (opp_fieldP rfl rfl fld33_3 rfl) rfl rfl ?_
    refine sR0 (opr_store (v := .osl _ _ _ _ _) (trn := (.agg [_, _, _, .osl _ _ _ _ _, _, _, _, _, _, _])) rfl rfl rfl rfl bi rfl rfl rfl rfl fr2 ty26 (fun _ _ h => h)) rfl rfl rfl ?_
    refine awp_seq (awp_region rfl ?_)
    refine sP (opp_loadP rfl rfl rfl rfl bi rfl ty33) rfl rfl ?_
    refine sR0 (opr_store (v := .agg _) (trn := (.agg _)) rfl rfl rfl rfl bi rfl rfl rfl rfl fr2 ty33 (fun _ _ h => h)) rfl rfl rfl ?_
    refine awp_ret ?_
    repeat (first | refine athen_ret ?_ | refine ain_ret ?_)
    refine gpost_ret (gend1 (r0 := .agg _) true (.cell rfl rfl rfl (by exact True.intro) rfl ty33 .nil) shut rfl ?_ rfl (And.intro (Exists.intro _ (Exists.intro _ (And.intro rfl (And.intro shut (And.intro (fun h => by cases h) (And.intro ?_ rfl)))))) True.intro))
    ·exact .refl
    ·exact .arr (fun j hj => by rw [if_pos (by omega), show j = 0 by omega]; exact (show AV.agg [AV.arr 1 16 (regAt b 15), AV.int .u32 (Sp.fld b 60 4 : Nat), AV.int .i64 (Sp.fld b 64 1 : Nat), AV.int .i64 (Sp.fld b 65 1 : Nat), AV.int .i64 (Sp.fld b 66 1 : Nat), AV.int .i64 (Sp.fld b 67 1 : Nat)] = prAV (Sp.proc b) from proc_eq b))
  ·(try simp only [cmpI, errD_nil, qa, qb, qc, qd] at ht28)
   exfalso; first | omega | (simp at ht28; done)
set_option maxHeartbeats 1000000 in
theorem cg51d (b : List UInt8) (nn : Bool) (h0 : b.length ≤ 4294967296) (m : Bool) (n : Nat) (f : Nat → AV) (v : Nat → Value) : AGen (V ea cds gl) 51 [.agg [.val (v 0), .val (v 1), .val (v 2), .val (v 3), .sl 1 m n f, .val (v 5), .val (v 6), .val (v 7), .val (v 8), .val (v 9)], rcAV ⟨4, nn, b⟩] []
  (.agg [.val (v 0), .val (v 1), .val (v 2), .val (v 3), rowV 1 (Sp.nums b).length (natAt (Sp.nums b)), .val (v 5), .val (v 6), .val (v 7), .val (v 8), .val (v 9)]) [] := by
 unfold rcAV; dsimp only
 refine agen_of_body (N := 219) Tryd.func51 rfl rfl (Nat.le_of_ble_eq_true rfl) fun C hV hN hM hO => ?_
 obtain ⟨_, _, w0, G0, σ0, _, own0⟩ := C; dsimp only at hV hN hM hO; subst hV; subst hN; subst hM
 refine awp_seq (awp_region rfl ?_)
 refine sR (opr_box (y := .agg _) (n := 2) rfl rfl rfl) rfl rfl rfl ?_
 refine sR (opr_box (y := .agg _) (n := 3) rfl rfl rfl) rfl rfl rfl ?_
 refine sR (opr_alloc (n := 4) rfl z33) rfl rfl rfl ?_
 refine awp_seq (awp_region rfl ?_)
 refine sP (opp_fieldP rfl rfl fld94_1 rfl) rfl rfl ?_
 refine sP (opp_loadP rfl rfl rfl rfl bi rfl ty38) rfl rfl ?_
 refine sP (opp_as (v := .sl _ _ _ _) rfl rfl) rfl rfl ?_
 refine awp_seq (awp_seq (awp_region rfl ?_))
 refine sP (opp_fieldP rfl rfl fld94_0 rfl) rfl rfl ?_
 refine sP (opp_loadP rfl rfl rfl rfl bi rfl ty3) rfl rfl ?_
 refine awp_block (awp_seq (awp_region rfl ?_))
 refine sP (opp_cmp rfl rfl rfl rfl) rfl rfl ?_
 refine sP (opp_as (v := .bool _) rfl rfl) rfl rfl ?_
 refine awp_cond _ rfl (fun ht20 => ?_) (fun ht20 => ?_)
 ·(try simp only [cmpI, errD_nil, qa, qb, qc, qd] at ht20)
  exfalso; first | omega | (simp at ht20; done)
 ·(try simp only [cmpI, errD_nil, qa, qb, qc, qd] at ht20)
  refine awp_seq (awp_region rfl ?_)
  refine sP (opp_cmp rfl rfl rfl rfl) rfl rfl ?_
  refine sP (opp_as (v := .bool _) rfl rfl) rfl rfl ?_
  refine awp_cond _ rfl (fun ht28 => ?_) (fun ht28 => ?_)
  ·(try simp only [cmpI, errD_nil, qa, qb, qc, qd] at ht28)
   exfalso; first | omega | (simp at ht28; done)
  ·(try simp only [cmpI, errD_nil, qa, qb, qc, qd] at ht28)
   refine awp_seq (awp_region rfl ?_)
   refine sP (opp_cmp rfl rfl rfl rfl) rfl rfl ?_
   refine sP (opp_as (v := .bool _) rfl rfl) rfl rfl ?_
   refine awp_cond _ rfl (fun ht69 => ?_) (fun ht69 => ?_)
   ·(try simp only [cmpI, errD_nil, qa, qb, qc, qd] at ht69)
    refine awp_seq (awp_region rfl ?_)
    refine sP (opp_fieldP rfl rfl fld33_4 rfl) rfl rfl ?_
    refine sR0 (opr_store (v := .sl _ _ _ _) (trn := (.agg [_, _, _, _, .sl _ _ _ _, _, _, _, _, _])) rfl rfl rfl rfl bi rfl rfl rfl rfl fr2 ty27 (fun _ _ h => h)) rfl rfl rfl ?_
    refine awp_seq (awp_region rfl ?_)
    refine sP (opp_as (v := .int _ _) rfl rfl) rfl rfl ?_
    refine awp_block ?_
    refine awp_loopK (ι := Nat × Bool) (fun p => p.1 ≤ b.length ∧ (p.2 = true ↔ p.1 = 0)) (fun p => [(8, .int .i64 (p.1 : Int)), (72, .top), (73, .top), (74, .top), (75, .top), (76, .top), (77, .top), (78, .top), (79, .top), (80, .top), (81, .top), (82, .top), (83, .top), (84, .top), (85, .top), (86, .top), (87, .top)]) (fun p => [(2, some (.agg [.val (v 0), .val (v 1), .val (v 2), .val (v 3), cond p.2 (.sl 1 true 0 (fun _ => .top)) (.osl 1004 1 0 p.1 p.1), .val (v 5), .val (v 6), .val (v 7), .val (v 8), .val (v 9)])), (1004, cond p.2 none (some (.arr 1 p.1 (natAt (Sp.nums b)))))]) [1004] (fun p => b.length - p.1) ((0, true)) (⟨Nat.zero_le _, by simp⟩) (by
     refine imp_over [] rfl rfl (by kernel_rfl) ?_ ?_
     ·iterate 17 refine And.intro wkv ?_
      exact True.intro
     ·refine And.intro (And.intro rfl (And.intro rfl (Exists.intro _ (And.intro rfl wkc)))) ?_
      exact True.intro
     ) ?_
    intro p hi1; obtain ⟨i, e⟩ := p; rcases e with _ | _
    ·dsimp only [cond] at hi1 ⊢
     refine awp_seq (awp_seq (awp_region rfl ?_))
     refine sP (opp_mv (v := .int _ _) rfl rfl) rfl rfl ?_
     refine sP (opp_mv (v := .sl _ _ _ _) rfl rfl) rfl rfl ?_
     refine sP (opp_lenSl rfl rfl un38) rfl rfl ?_
     refine sP (opp_cmp rfl rfl rfl rfl) rfl rfl ?_
     refine awp_cond _ rfl (fun ht75 => ?_) (fun ht75 => ?_)
     ·(try simp only [cmpI, errD_nil, qa, qb, qc, qd] at ht75)
      refine awp_skip (awp_seq (awp_block ?_))
      have hby : (b.getD (Int.toNat (i : Int)) 0).toNat < 256 := UInt8.toNat_lt _
      refine awp_draw hmix rfl (by kernel_rfl) ?_
      refine dP (fun _ => false) (opp_fieldP rfl rfl fld33_4 rfl) rfl rfl ?_
      refine dP (fun n => Nat.beq n 2) (opp_loadP rfl rfl rfl rfl bi rfl ty27) rfl rfl ?_
      refine dP (fun _ => false) (opp_mv (v := .sl _ _ _ _) rfl rfl) rfl rfl ?_
      refine dP (fun _ => false) (opp_mv (v := .int _ _) rfl rfl) rfl rfl ?_
      refine dP (fun _ => false) (opp_indexSl rfl rfl rfl el38 (by omega) (by omega)) rfl rfl ?_
      refine dP (fun _ => false) (opp_loadF rfl rfl ty5) rfl rfl ?_
      refine dP (fun _ => false) (opp_convInt rfl rfl un5s un3 (w64 (by omega))) rfl rfl ?_
      refine dR (fun _ => false) (opr_buildSlice (n := 85) (g := fun j => if j = 0 then .int _ _ else .int .i64 0) rfl eb27 z3 (by decide) rfl rfl) rfl rfl rfl ?_
      refine dR (fun n => !([] : List Nat).contains n) (opr_append (d := 86) rfl rfl rfl (by omega) (.osl0 rfl (by omega)) eb27 z3 (by omega) (by omega)) rfl rfl rfl ?_
      refine dP (fun _ => false) (opp_fieldP rfl rfl fld33_4 rfl) rfl rfl ?_
      refine dR0 (fun n => Nat.beq n 2) (opr_store (v := .osl _ _ _ _ _) (trn := (.agg [_, _, _, _, .osl _ _ _ _ _, _, _, _, _, _])) rfl rfl rfl rfl bi rfl rfl rfl rfl fr2 ty27 (fun _ _ h => h)) rfl rfl rfl ?_
      refine And.intro (by kernel_rfl) ?_
      refine awp_region rfl ?_
      refine sP (opp_mv (v := .int _ _) rfl rfl) rfl rfl ?_
      refine sP (opp_arith rfl rfl rfl (.inl ⟨rfl, w64 (by omega)⟩)) rfl rfl ?_
      refine sP (opp_as (v := .int _ _) rfl rfl) rfl rfl ?_
      refine Exists.intro ((i + 1, false)) (And.intro (And.intro (And.intro (by show i + 1 ≤ _; omega) (by simp)) (by first | omega | (dsimp only; omega))) (by
       refine imp_over [(1004, 86)] rfl rfl (by kernel_rfl) ?_ ?_
       ·iterate 17 refine And.intro wkv ?_
        exact True.intro
       ·refine And.intro (And.intro rfl (And.intro rfl (Exists.intro _ (And.intro rfl wkc)))) ?_
        refine And.intro (And.intro rfl (And.intro rfl (Exists.intro _ (And.intro rfl (by show WkC (AV.arr 1 _ _) (AV.arr 1 _ _); exact WkC.arr (fun j hj => by by_cases h : j < i; rw [if_pos h]; rw [if_neg h, show j = i by omega, if_pos (by omega), nums_get b i (by omega)]; rfl)))))) ?_
        exact True.intro
       ))
     ·(try simp only [cmpI, errD_nil, qa, qb, qc, qd] at ht75)
      refine awp_exit (awp_seq (awp_region rfl ?_))
      refine sP (opp_loadP rfl rfl rfl rfl bi rfl ty33) rfl rfl ?_
      refine sR0 (opr_store (v := .agg _) (trn := (.agg _)) rfl rfl rfl rfl bi rfl rfl rfl rfl fr2 ty33 (fun _ _ h => h)) rfl rfl rfl ?_
      refine awp_ret ?_
      repeat (first | refine athen_ret ?_ | refine ain_ret ?_)
      refine gpost_ret (gend1 (r0 := .agg _) true (.cell rfl rfl rfl (by exact True.intro) rfl ty33 .nil) shut rfl ?_ rfl True.intro)
      ·have hie : i = b.length := by omega
       have hne : i ≠ 0 := by intro h; simp [h] at hi1
       rw [rowV, nums_len, ← hie, show decide (i = 0) = false by rw [decide_eq_false_iff_not]; exact hne]; exact .refl
    ·dsimp only [cond] at hi1 ⊢
     refine awp_seq (awp_seq (awp_region rfl ?_))
     refine sP (opp_mv (v := .int _ _) rfl rfl) rfl rfl ?_
     refine sP (opp_mv (v := .sl _ _ _ _) rfl rfl) rfl rfl ?_
     refine sP (opp_lenSl rfl rfl un38) rfl rfl ?_
     refine sP (opp_cmp rfl rfl rfl rfl) rfl rfl ?_
     refine awp_cond _ rfl (fun ht75 => ?_) (fun ht75 => ?_)
     ·(try simp only [cmpI, errD_nil, qa, qb, qc, qd] at ht75)
      refine awp_skip (awp_seq (awp_block ?_))
      have hby : (b.getD (Int.toNat (i : Int)) 0).toNat < 256 := UInt8.toNat_lt _
      refine awp_draw hmix rfl (by kernel_rfl) ?_
      refine dP (fun _ => false) (opp_fieldP rfl rfl fld33_4 rfl) rfl rfl ?_
      refine dP (fun n => Nat.beq n 2) (opp_loadP rfl rfl rfl rfl bi rfl ty27) rfl rfl ?_
      refine dP (fun _ => false) (opp_mv (v := .sl _ _ _ _) rfl rfl) rfl rfl ?_
      refine dP (fun _ => false) (opp_mv (v := .int _ _) rfl rfl) rfl rfl ?_
      refine dP (fun _ => false) (opp_indexSl rfl rfl rfl el38 (by omega) (by omega)) rfl rfl ?_
      refine dP (fun _ => false) (opp_loadF rfl rfl ty5) rfl rfl ?_
      refine dP (fun _ => false) (opp_convInt rfl rfl un5s un3 (w64 (by omega))) rfl rfl ?_
      refine dR (fun _ => false) (opr_buildSlice (n := 85) (g := fun j => if j = 0 then .int _ _ else .int .i64 0) rfl eb27 z3 (by decide) rfl rfl) rfl rfl rfl ?_
      refine dR (fun n => !([] : List Nat).contains n) (opr_appendNil (d := 86) rfl rfl (.osl0 rfl (by omega)) eb27 z3 (by omega) (by omega) (by omega)) rfl rfl rfl ?_
      refine dP (fun _ => false) (opp_fieldP rfl rfl fld33_4 rfl) rfl rfl ?_
      refine dR0 (fun n => Nat.beq n 2) (opr_store (v := .osl _ _ _ _ _) (trn := (.agg [_, _, _, _, .osl _ _ _ _ _, _, _, _, _, _])) rfl rfl rfl rfl bi rfl rfl rfl rfl fr2 ty27 (fun _ _ h => h)) rfl rfl rfl ?_
      refine And.intro (by kernel_rfl) ?_
      refine awp_region rfl ?_
      refine sP (opp_mv (v := .int _ _) rfl rfl) rfl rfl ?_
      refine sP (opp_arith rfl rfl rfl (.inl ⟨rfl, w64 (by omega)⟩)) rfl rfl ?_
      refine sP (opp_as (v := .int _ _) rfl rfl) rfl rfl ?_
      have hi0 : i = 0 := hi1.2.1 rfl
      refine Exists.intro ((i + 1, false)) (And.intro (And.intro (And.intro (by show i + 1 ≤ _; omega) (by simp)) (by first | omega | (dsimp only; omega))) (by
       refine imp_over [(1004, 86)] rfl rfl (by kernel_rfl) ?_ ?_
       ·iterate 17 refine And.intro wkv ?_
        exact True.intro
       ·refine And.intro (And.intro rfl (And.intro rfl (Exists.intro _ (And.intro rfl (by subst hi0; exact WkC.refl _))))) ?_
        refine And.intro (And.intro rfl (And.intro rfl (Exists.intro _ (And.intro rfl (by show WkC (AV.arr 1 _ _) (AV.arr 1 _ _); subst hi0; exact WkC.arr (fun j hj => by rw [show j = 0 by omega, nums_get b 0 (by omega)]; rfl)))))) ?_
        exact True.intro
       ))
     ·(try simp only [cmpI, errD_nil, qa, qb, qc, qd] at ht75)
      refine awp_exit (awp_seq (awp_region rfl ?_))
      refine sP (opp_loadP rfl rfl rfl rfl bi rfl ty33) rfl rfl ?_
      refine sR0 (opr_store (v := .agg _) (trn := (.agg _)) rfl rfl rfl rfl bi rfl rfl rfl rfl fr2 ty33 (fun _ _ h => h)) rfl rfl rfl ?_
      refine awp_ret ?_
      repeat (first | refine athen_ret ?_ | refine ain_ret ?_)
      refine gpost_ret (gend1 (r0 := .agg _) true (.cell rfl rfl rfl (by exact True.intro) rfl ty33 .nil) shut rfl ?_ rfl True.intro)
      ·have hi0 : i = 0 := hi1.2.1 rfl
       have hie : b.length = 0 := by omega
       rw [rowV, nums_len, hie]; exact .agg (.cons .refl (.cons .refl (.cons .refl (.cons .refl (.cons .sl0 (.cons .refl (.cons .refl (.cons .refl (.cons .refl (.cons .refl (.nil)))))))))))
   ·(try simp only [cmpI, errD_nil, qa, qb, qc, qd] at ht69)
    exfalso; first | omega | (simp at ht69; done)
set_option maxHeartbeats 1000000 in
theorem cg51e (b : List UInt8) (nn : Bool) (h0 : b.length ≤ 4294967296) (m : Bool) (n : Nat) (f : Nat → AV) (v : Nat → Value) : AGen (V ea cds gl) 51 [.agg [.val (v 0), .val (v 1), .val (v 2), .val (v 3), .val (v 4), .val (v 5), .val (v 6), .sl 1 m n f, .val (v 8), .val (v 9)], rcAV ⟨7, nn, b⟩] []
  (.agg [.val (v 0), .val (v 1), .val (v 2), .val (v 3), .val (v 4), .val (v 5), .val (v 6), rowV 1 (Sp.nums b).length (natAt (Sp.nums b)), .val (v 8), .val (v 9)]) [] := by
 unfold rcAV; dsimp only
 refine agen_of_body (N := 219) Tryd.func51 rfl rfl (Nat.le_of_ble_eq_true rfl) fun C hV hN hM hO => ?_
 obtain ⟨_, _, w0, G0, σ0, _, own0⟩ := C; dsimp only at hV hN hM hO; subst hV; subst hN; subst hM
 refine awp_seq (awp_region rfl ?_)
 refine sR (opr_box (y := .agg _) (n := 2) rfl rfl rfl) rfl rfl rfl ?_
 refine sR (opr_box (y := .agg _) (n := 3) rfl rfl rfl) rfl rfl rfl ?_
 refine sR (opr_alloc (n := 4) rfl z33) rfl rfl rfl ?_
 refine awp_seq (awp_region rfl ?_)
 refine sP (opp_fieldP rfl rfl fld94_1 rfl) rfl rfl ?_
 refine sP (opp_loadP rfl rfl rfl rfl bi rfl ty38) rfl rfl ?_
 refine sP (opp_as (v := .sl _ _ _ _) rfl rfl) rfl rfl ?_
 refine awp_seq (awp_seq (awp_region rfl ?_))
 refine sP (opp_fieldP rfl rfl fld94_0 rfl) rfl rfl ?_
 refine sP (opp_loadP rfl rfl rfl rfl bi rfl ty3) rfl rfl ?_
 refine awp_block (awp_seq (awp_region rfl ?_))
 refine sP (opp_cmp rfl rfl rfl rfl) rfl rfl ?_
 refine sP (opp_as (v := .bool _) rfl rfl) rfl rfl ?_
 refine awp_cond _ rfl (fun ht20 => ?_) (fun ht20 => ?_)
 ·(try simp only [cmpI, errD_nil, qa, qb, qc, qd] at ht20)
  exfalso; first | omega | (simp at ht20; done)
 ·(try simp only [cmpI, errD_nil, qa, qb, qc, qd] at ht20)
  refine awp_seq (awp_region rfl ?_)
  refine sP (opp_cmp rfl rfl rfl rfl) rfl rfl ?_
  refine sP (opp_as (v := .bool _) rfl rfl) rfl rfl ?_
  refine awp_cond _ rfl (fun ht28 => ?_) (fun ht28 => ?_)
  ·(try simp only [cmpI, errD_nil, qa, qb, qc, qd] at ht28)
   exfalso; first | omega | (simp at ht28; done)
  ·(try simp only [cmpI, errD_nil, qa, qb, qc, qd] at ht28)
   refine awp_seq (awp_region rfl ?_)
   refine sP (opp_cmp rfl rfl rfl rfl) rfl rfl ?_
   refine sP (opp_as (v := .bool _) rfl rfl) rfl rfl ?_
   refine awp_cond _ rfl (fun ht69 => ?_) (fun ht69 => ?_)
   ·(try simp only [cmpI, errD_nil, qa, qb, qc, qd] at ht69)
    exfalso; first | omega | (simp at ht69; done)
   ·(try simp only [cmpI, errD_nil, qa, qb, qc, qd] at ht69)
    refine awp_seq (awp_region rfl ?_)
    refine sP (opp_cmp rfl rfl rfl rfl) rfl rfl ?_
    refine sP (opp_as (v := .bool _) rfl rfl) rfl rfl ?_
    refine awp_cond _ rfl (fun ht88 => ?_) (fun ht88 => ?_)
    ·(try simp only [cmpI, errD_nil, qa, qb, qc, qd] at ht88)
     exfalso; first | omega | (simp at ht88; done)
    ·(try simp only [cmpI, errD_nil, qa, qb, qc, qd] at ht88)
     refine awp_seq (awp_region rfl ?_)
     refine sP (opp_cmp rfl rfl rfl rfl) rfl rfl ?_
     refine sP (opp_as (v := .bool _) rfl rfl) rfl rfl ?_
     refine awp_cond _ rfl (fun ht112 => ?_) (fun ht112 => ?_)
     ·(try simp only [cmpI, errD_nil, qa, qb, qc, qd] at ht112)
      exfalso; first | omega | (simp at ht112; done)
     ·(try simp only [cmpI, errD_nil, qa, qb, qc, qd] at ht112)
      refine awp_seq (awp_region rfl ?_)
      refine sP (opp_cmp rfl rfl rfl rfl) rfl rfl ?_
      refine sP (opp_as (v := .bool _) rfl rfl) rfl rfl ?_
      refine awp_cond _ rfl (fun ht131 => ?_) (fun ht131 => ?_)
      ·(try simp only [cmpI, errD_nil, qa, qb, qc, qd] at ht131)
       refine awp_seq (awp_region rfl ?_)
       refine sP (opp_fieldP rfl rfl fld33_7 rfl) rfl rfl ?_
       refine sR0 (opr_store (v := .sl _ _ _ _) (trn := (.agg [_, _, _, _, _, _, _, .sl _ _ _ _, _, _])) rfl rfl rfl rfl bi rfl rfl rfl rfl fr2 ty27 (fun _ _ h => h)) rfl rfl rfl ?_
       refine awp_seq (awp_region rfl ?_)
       refine sP (opp_as (v := .int _ _) rfl rfl) rfl rfl ?_
       refine awp_block ?_
       refine awp_loopK (ι := Nat × Bool) (fun p => p.1 ≤ b.length ∧ (p.2 = true ↔ p.1 = 0)) (fun p => [(11, .int .i64 (p.1 : Int)), (134, .top), (135, .top), (136, .top), (137, .top), (138, .top), (139, .top), (140, .top), (141, .top), (142, .top), (143, .top), (144, .top), (145, .top), (146, .top), (147, .top), (148, .top), (149, .top)]) (fun p => [(2, some (.agg [.val (v 0), .val (v 1), .val (v 2), .val (v 3), .val (v 4), .val (v 5), .val (v 6), cond p.2 (.sl 1 true 0 (fun _ => .top)) (.osl 1004 1 0 p.1 p.1), .val (v 8), .val (v 9)])), (1004, cond p.2 none (some (.arr 1 p.1 (natAt (Sp.nums b)))))]) [1004] (fun p => b.length - p.1) ((0, true)) (⟨Nat.zero_le _, by simp⟩) (by
        refine imp_over [] rfl rfl (by kernel_rfl) ?_ ?_
        ·iterate 17 refine And.intro wkv ?_
         exact True.intro
        ·refine And.intro (And.intro rfl (And.intro rfl (Exists.intro _ (And.intro rfl wkc)))) ?_
         exact True.intro
        ) ?_
       intro p hi1; obtain ⟨i, e⟩ := p; rcases e with _ | _
       ·dsimp only [cond] at hi1 ⊢
        refine awp_seq (awp_seq (awp_region rfl ?_))
        refine sP (opp_mv (v := .int _ _) rfl rfl) rfl rfl ?_
        refine sP (opp_mv (v := .sl _ _ _ _) rfl rfl) rfl rfl ?_
        refine sP (opp_lenSl rfl rfl un38) rfl rfl ?_
        refine sP (opp_cmp rfl rfl rfl rfl) rfl rfl ?_
        refine awp_cond _ rfl (fun ht137 => ?_) (fun ht137 => ?_)
        ·(try simp only [cmpI, errD_nil, qa, qb, qc, qd] at ht137)
         refine awp_skip (awp_seq (awp_block ?_))
         have hby : (b.getD (Int.toNat (i : Int)) 0).toNat < 256 := UInt8.toNat_lt _
         refine awp_draw hmix rfl (by kernel_rfl) ?_
         refine dP (fun _ => false) (opp_fieldP rfl rfl fld33_7 rfl) rfl rfl ?_
         refine dP (fun n => Nat.beq n 2) (opp_loadP rfl rfl rfl rfl bi rfl ty27) rfl rfl ?_
         refine dP (fun _ => false) (opp_mv (v := .sl _ _ _ _) rfl rfl) rfl rfl ?_
         refine dP (fun _ => false) (opp_mv (v := .int _ _) rfl rfl) rfl rfl ?_
         refine dP (fun _ => false) (opp_indexSl rfl rfl rfl el38 (by omega) (by omega)) rfl rfl ?_
         refine dP (fun _ => false) (opp_loadF rfl rfl ty5) rfl rfl ?_
         refine dP (fun _ => false) (opp_convInt rfl rfl un5s un3 (w64 (by omega))) rfl rfl ?_
         refine dR (fun _ => false) (opr_buildSlice (n := 147) (g := fun j => if j = 0 then .int _ _ else .int .i64 0) rfl eb27 z3 (by decide) rfl rfl) rfl rfl rfl ?_
         refine dR (fun n => !([] : List Nat).contains n) (opr_append (d := 148) rfl rfl rfl (by omega) (.osl0 rfl (by omega)) eb27 z3 (by omega) (by omega)) rfl rfl rfl ?_
         refine dP (fun _ => false) (opp_fieldP rfl rfl fld33_7 rfl) rfl rfl ?_
         refine dR0 (fun n => Nat.beq n 2) (opr_store (v := .osl _ _ _ _ _) (trn := (.agg [_, _, _, _, _, _, _, .osl _ _ _ _ _, _, _])) rfl rfl rfl rfl bi rfl rfl rfl rfl fr2 ty27 (fun _ _ h => h)) rfl rfl rfl ?_
         refine And.intro (by kernel_rfl) ?_
         refine awp_region rfl ?_
         refine sP (opp_mv (v := .int _ _) rfl rfl) rfl rfl ?_
         refine sP (opp_arith rfl rfl rfl (.inl ⟨rfl, w64 (by omega)⟩)) rfl rfl ?_
         refine sP (opp_as (v := .int _ _) rfl rfl) rfl rfl ?_
         refine Exists.intro ((i + 1, false)) (And.intro (And.intro (And.intro (by show i + 1 ≤ _; omega) (by simp)) (by first | omega | (dsimp only; omega))) (by
          refine imp_over [(1004, 148)] rfl rfl (by kernel_rfl) ?_ ?_
          ·iterate 17 refine And.intro wkv ?_
           exact True.intro
          ·refine And.intro (And.intro rfl (And.intro rfl (Exists.intro _ (And.intro rfl wkc)))) ?_
           refine And.intro (And.intro rfl (And.intro rfl (Exists.intro _ (And.intro rfl (by show WkC (AV.arr 1 _ _) (AV.arr 1 _ _); exact WkC.arr (fun j hj => by by_cases h : j < i; rw [if_pos h]; rw [if_neg h, show j = i by omega, if_pos (by omega), nums_get b i (by omega)]; rfl)))))) ?_
           exact True.intro
          ))
        ·(try simp only [cmpI, errD_nil, qa, qb, qc, qd] at ht137)
         refine awp_exit (awp_seq (awp_region rfl ?_))
         refine sP (opp_loadP rfl rfl rfl rfl bi rfl ty33) rfl rfl ?_
         refine sR0 (opr_store (v := .agg _) (trn := (.agg _)) rfl rfl rfl rfl bi rfl rfl rfl rfl fr2 ty33 (fun _ _ h => h)) rfl rfl rfl ?_
         refine awp_ret ?_
         repeat (first | refine athen_ret ?_ | refine ain_ret ?_)
         refine gpost_ret (gend1 (r0 := .agg _) true (.cell rfl rfl rfl (by exact True.intro) rfl ty33 .nil) shut rfl ?_ rfl True.intro)
         ·have hie : i = b.length := by omega
          have hne : i ≠ 0 := by intro h; simp [h] at hi1
          rw [rowV, nums_len, ← hie, show decide (i = 0) = false by rw [decide_eq_false_iff_not]; exact hne]; exact .refl
       ·dsimp only [cond] at hi1 ⊢
        refine awp_seq (awp_seq (awp_region rfl ?_))
        refine sP (opp_mv (v := .int _ _) rfl rfl) rfl rfl ?_
        refine sP (opp_mv (v := .sl _ _ _ _) rfl rfl) rfl rfl ?_
        refine sP (opp_lenSl rfl rfl un38) rfl rfl ?_
        refine sP (opp_cmp rfl rfl rfl rfl) rfl rfl ?_
        refine awp_cond _ rfl (fun ht137 => ?_) (fun ht137 => ?_)
        ·(try simp only [cmpI, errD_nil, qa, qb, qc, qd] at ht137)
         refine awp_skip (awp_seq (awp_block ?_))
         have hby : (b.getD (Int.toNat (i : Int)) 0).toNat < 256 := UInt8.toNat_lt _
         refine awp_draw hmix rfl (by kernel_rfl) ?_
         refine dP (fun _ => false) (opp_fieldP rfl rfl fld33_7 rfl) rfl rfl ?_
         refine dP (fun n => Nat.beq n 2) (opp_loadP rfl rfl rfl rfl bi rfl ty27) rfl rfl ?_
         refine dP (fun _ => false) (opp_mv (v := .sl _ _ _ _) rfl rfl) rfl rfl ?_
         refine dP (fun _ => false) (opp_mv (v := .int _ _) rfl rfl) rfl rfl ?_
         refine dP (fun _ => false) (opp_indexSl rfl rfl rfl el38 (by omega) (by omega)) rfl rfl ?_
         refine dP (fun _ => false) (opp_loadF rfl rfl ty5) rfl rfl ?_
         refine dP (fun _ => false) (opp_convInt rfl rfl un5s un3 (w64 (by omega))) rfl rfl ?_
         refine dR (fun _ => false) (opr_buildSlice (n := 147) (g := fun j => if j = 0 then .int _ _ else .int .i64 0) rfl eb27 z3 (by decide) rfl rfl) rfl rfl rfl ?_
         refine dR (fun n => !([] : List Nat).contains n) (opr_appendNil (d := 148) rfl rfl (.osl0 rfl (by omega)) eb27 z3 (by omega) (by omega) (by omega)) rfl rfl rfl ?_
         refine dP (fun _ => false) (opp_fieldP rfl rfl fld33_7 rfl) rfl rfl ?_
         refine dR0 (fun n => Nat.beq n 2) (opr_store (v := .osl _ _ _ _ _) (trn := (.agg [_, _, _, _, _, _, _, .osl _ _ _ _ _, _, _])) rfl rfl rfl rfl bi rfl rfl rfl rfl fr2 ty27 (fun _ _ h => h)) rfl rfl rfl ?_
         refine And.intro (by kernel_rfl) ?_
         refine awp_region rfl ?_
         refine sP (opp_mv (v := .int _ _) rfl rfl) rfl rfl ?_
         refine sP (opp_arith rfl rfl rfl (.inl ⟨rfl, w64 (by omega)⟩)) rfl rfl ?_
         refine sP (opp_as (v := .int _ _) rfl rfl) rfl rfl ?_
         have hi0 : i = 0 := hi1.2.1 rfl
         refine Exists.intro ((i + 1, false)) (And.intro (And.intro (And.intro (by show i + 1 ≤ _; omega) (by simp)) (by first | omega | (dsimp only; omega))) (by
          refine imp_over [(1004, 148)] rfl rfl (by kernel_rfl) ?_ ?_
          ·iterate 17 refine And.intro wkv ?_
           exact True.intro
          ·refine And.intro (And.intro rfl (And.intro rfl (Exists.intro _ (And.intro rfl (by subst hi0; exact WkC.refl _))))) ?_
           refine And.intro (And.intro rfl (And.intro rfl (Exists.intro _ (And.intro rfl (by show WkC (AV.arr 1 _ _) (AV.arr 1 _ _); subst hi0; exact WkC.arr (fun j hj => by rw [show j = 0 by omega, nums_get b 0 (by omega)]; rfl)))))) ?_
           exact True.intro
          ))
        ·(try simp only [cmpI, errD_nil, qa, qb, qc, qd] at ht137)
         refine awp_exit (awp_seq (awp_region rfl ?_))
         refine sP (opp_loadP rfl rfl rfl rfl bi rfl ty33) rfl rfl ?_
         refine sR0 (opr_store (v := .agg _) (trn := (.agg _)) rfl rfl rfl rfl bi rfl rfl rfl rfl fr2 ty33 (fun _ _ h => h)) rfl rfl rfl ?_
         refine awp_ret ?_
         repeat (first | refine athen_ret ?_ | refine ain_ret ?_)
         refine gpost_ret (gend1 (r0 := .agg _) true (.cell rfl rfl rfl (by exact True.intro) rfl ty33 .nil) shut rfl ?_ rfl True.intro)
         ·have hi0 : i = 0 := hi1.2.1 rfl
          have hie : b.length = 0 := by omega
          rw [rowV, nums_len, hie]; exact .agg (.cons .refl (.cons .refl (.cons .refl (.cons .refl (.cons .refl (.cons .refl (.cons .refl (.cons .sl0 (.cons .refl (.cons .refl (.nil)))))))))))
      ·(try simp only [cmpI, errD_nil, qa, qb, qc, qd] at ht131)
       exfalso; first | omega | (simp at ht131; done)
set_option maxHeartbeats 1000000 in
theorem cg51g (b : List UInt8) (nn : Bool) (h0 : b.length ≤ 4294967296) (m : Bool) (n : Nat) (f : Nat → AV) (v : Nat → Value) : AGen (V ea cds gl) 51 [.agg [.val (v 0), .val (v 1), .val (v 2), .val (v 3), .val (v 4), .val (v 5), .sl 1 m n f, .val (v 7), .val (v 8), .val (v 9)], rcAV ⟨6, nn, b⟩] []
  (.agg [.val (v 0), .val (v 1), .val (v 2), .val (v 3), .val (v 4), .val (v 5), rowV 1 (ups b).length (boolAt (ups b)), .val (v 7), .val (v 8), .val (v 9)]) [] := by
 unfold rcAV; dsimp only
 refine agen_of_body (N := 219) Tryd.func51 rfl rfl (Nat.le_of_ble_eq_true rfl) fun C hV hN hM hO => ?_
 obtain ⟨_, _, w0, G0, σ0, _, own0⟩ := C; dsimp only at hV hN hM hO; subst hV; subst hN; subst hM
 refine awp_seq (awp_region rfl ?_)
 refine sR (opr_box (y := .agg _) (n := 2) rfl rfl rfl) rfl rfl rfl ?_
 refine sR (opr_box (y := .agg _) (n := 3) rfl rfl rfl) rfl rfl rfl ?_
 refine sR (opr_alloc (n := 4) rfl z33) rfl rfl rfl ?_
 refine awp_seq (awp_region rfl ?_)
 refine sP (opp_fieldP rfl rfl fld94_1 rfl) rfl rfl ?_
 refine sP (opp_loadP rfl rfl rfl rfl bi rfl ty38) rfl rfl ?_
 refine sP (opp_as (v := .sl _ _ _ _) rfl rfl) rfl rfl ?_
 refine awp_seq (awp_seq (awp_region rfl ?_))
 refine sP (opp_fieldP rfl rfl fld94_0 rfl) rfl rfl ?_
 refine sP (opp_loadP rfl rfl rfl rfl bi rfl ty3) rfl rfl ?_
 refine awp_block (awp_seq (awp_region rfl ?_))
 refine sP (opp_cmp rfl rfl rfl rfl) rfl rfl ?_
 refine sP (opp_as (v := .bool _) rfl rfl) rfl rfl ?_
 refine awp_cond _ rfl (fun ht20 => ?_) (fun ht20 => ?_)
 ·(try simp only [cmpI, errD_nil, qa, qb, qc, qd] at ht20)
  exfalso; first | omega | (simp at ht20; done)
 ·(try simp only [cmpI, errD_nil, qa, qb, qc, qd] at ht20)
  refine awp_seq (awp_region rfl ?_)
  refine sP (opp_cmp rfl rfl rfl rfl) rfl rfl ?_
  refine sP (opp_as (v := .bool _) rfl rfl) rfl rfl ?_
  refine awp_cond _ rfl (fun ht28 => ?_) (fun ht28 => ?_)
  ·(try simp only [cmpI, errD_nil, qa, qb, qc, qd] at ht28)
   exfalso; first | omega | (simp at ht28; done)
  ·(try simp only [cmpI, errD_nil, qa, qb, qc, qd] at ht28)
   refine awp_seq (awp_region rfl ?_)
   refine sP (opp_cmp rfl rfl rfl rfl) rfl rfl ?_
   refine sP (opp_as (v := .bool _) rfl rfl) rfl rfl ?_
   refine awp_cond _ rfl (fun ht69 => ?_) (fun ht69 => ?_)
   ·(try simp only [cmpI, errD_nil, qa, qb, qc, qd] at ht69)
    exfalso; first | omega | (simp at ht69; done)
   ·(try simp only [cmpI, errD_nil, qa, qb, qc, qd] at ht69)
    refine awp_seq (awp_region rfl ?_)
    refine sP (opp_cmp rfl rfl rfl rfl) rfl rfl ?_
    refine sP (opp_as (v := .bool _) rfl rfl) rfl rfl ?_
    refine awp_cond _ rfl (fun ht88 => ?_) (fun ht88 => ?_)
    ·(try simp only [cmpI, errD_nil, qa, qb, qc, qd] at ht88)
     exfalso; first | omega | (simp at ht88; done)
    ·(try simp only [cmpI, errD_nil, qa, qb, qc, qd] at ht88)
     refine awp_seq (awp_region rfl ?_)
     refine sP (opp_cmp rfl rfl rfl rfl) rfl rfl ?_
     refine sP (opp_as (v := .bool _) rfl rfl) rfl rfl ?_
     refine awp_cond _ rfl (fun ht112 => ?_) (fun ht112 => ?_)
     ·(try simp only [cmpI, errD_nil, qa, qb, qc, qd] at ht112)
      refine awp_seq (awp_region rfl ?_)
      refine sP (opp_fieldP rfl rfl fld33_6 rfl) rfl rfl ?_
      refine sR0 (opr_store (v := .sl _ _ _ _) (trn := (.agg [_, _, _, _, _, _, .sl _ _ _ _, _, _, _])) rfl rfl rfl rfl bi rfl rfl rfl rfl fr2 ty29 (fun _ _ h => h)) rfl rfl rfl ?_
      refine awp_seq (awp_region rfl ?_)
      refine sP (opp_as (v := .int _ _) rfl rfl) rfl rfl ?_
      refine awp_block ?_
      refine awp_loopK (ι := Nat × Bool) (fun p => p.1 ≤ b.length ∧ (p.2 = true ↔ p.1 = 0)) (fun p => [(10, .int .i64 (p.1 : Int)), (115, .top), (116, .top), (117, .top), (118, .top), (119, .top), (120, .top), (121, .top), (122, .top), (123, .top), (124, .top), (125, .top), (126, .top), (127, .top), (128, .top), (129, .top), (130, .top)]) (fun p => [(2, some (.agg [.val (v 0), .val (v 1), .val (v 2), .val (v 3), .val (v 4), .val (v 5), cond p.2 (.sl 1 true 0 (fun _ => .top)) (.osl 1004 1 0 p.1 p.1), .val (v 7), .val (v 8), .val (v 9)])), (1004, cond p.2 none (some (.arr 1 p.1 (boolAt (ups b)))))]) [1004] (fun p => b.length - p.1) ((0, true)) (⟨Nat.zero_le _, by simp⟩) (by
       refine imp_over [] rfl rfl (by kernel_rfl) ?_ ?_
       ·iterate 17 refine And.intro wkv ?_
        exact True.intro
       ·refine And.intro (And.intro rfl (And.intro rfl (Exists.intro _ (And.intro rfl wkc)))) ?_
        exact True.intro
       ) ?_
      intro p hi1; obtain ⟨i, e⟩ := p; rcases e with _ | _
      ·dsimp only [cond] at hi1 ⊢
       refine awp_seq (awp_seq (awp_region rfl ?_))
       refine sP (opp_mv (v := .int _ _) rfl rfl) rfl rfl ?_
       refine sP (opp_mv (v := .sl _ _ _ _) rfl rfl) rfl rfl ?_
       refine sP (opp_lenSl rfl rfl un38) rfl rfl ?_
       refine sP (opp_cmp rfl rfl rfl rfl) rfl rfl ?_
       refine awp_cond _ rfl (fun ht118 => ?_) (fun ht118 => ?_)
       ·(try simp only [cmpI, errD_nil, qa, qb, qc, qd] at ht118)
        refine awp_skip (awp_seq (awp_block ?_))
        have hby : (b.getD (Int.toNat (i : Int)) 0).toNat < 256 := UInt8.toNat_lt _
        refine awp_draw hmix rfl (by kernel_rfl) ?_
        refine dP (fun _ => false) (opp_fieldP rfl rfl fld33_6 rfl) rfl rfl ?_
        refine dP (fun n => Nat.beq n 2) (opp_loadP rfl rfl rfl rfl bi rfl ty29) rfl rfl ?_
        refine dP (fun _ => false) (opp_mv (v := .sl _ _ _ _) rfl rfl) rfl rfl ?_
        refine dP (fun _ => false) (opp_mv (v := .int _ _) rfl rfl) rfl rfl ?_
        refine dP (fun _ => false) (opp_indexSl rfl rfl rfl el38 (by omega) (by omega)) rfl rfl ?_
        refine dP (fun _ => false) (opp_loadF rfl rfl ty5) rfl rfl ?_
        refine dP (fun _ => false) (opp_cmp rfl rfl rfl rfl) rfl rfl ?_
        refine dR (fun _ => false) (opr_buildSlice (n := 128) (g := fun j => if j = 0 then .bool _ else .bool false) rfl eb29 z4 (by decide) rfl rfl) rfl rfl rfl ?_
        refine dR (fun n => !([] : List Nat).contains n) (opr_append (d := 129) rfl rfl rfl (by omega) (.osl0 rfl (by omega)) eb29 z4 (by omega) (by omega)) rfl rfl rfl ?_
        refine dP (fun _ => false) (opp_fieldP rfl rfl fld33_6 rfl) rfl rfl ?_
        refine dR0 (fun n => Nat.beq n 2) (opr_store (v := .osl _ _ _ _ _) (trn := (.agg [_, _, _, _, _, _, .osl _ _ _ _ _, _, _, _])) rfl rfl rfl rfl bi rfl rfl rfl rfl fr2 ty29 (fun _ _ h => h)) rfl rfl rfl ?_
        refine And.intro (by kernel_rfl) ?_
        refine awp_region rfl ?_
        refine sP (opp_mv (v := .int _ _) rfl rfl) rfl rfl ?_
        refine sP (opp_arith rfl rfl rfl (.inl ⟨rfl, w64 (by omega)⟩)) rfl rfl ?_
        refine sP (opp_as (v := .int _ _) rfl rfl) rfl rfl ?_
        refine Exists.intro ((i + 1, false)) (And.intro (And.intro (And.intro (by show i + 1 ≤ _; omega) (by simp)) (by first | omega | (dsimp only; omega))) (by
         refine imp_over [(1004, 129)] rfl rfl (by kernel_rfl) ?_ ?_
         ·iterate 17 refine And.intro wkv ?_
          exact True.intro
         ·refine And.intro (And.intro rfl (And.intro rfl (Exists.intro _ (And.intro rfl wkc)))) ?_
          refine And.intro (And.intro rfl (And.intro rfl (Exists.intro _ (And.intro rfl (by show WkC (AV.arr 1 _ _) (AV.arr 1 _ _); exact WkC.arr (fun j hj => by by_cases h : j < i; rw [if_pos h]; rw [if_neg h, show j = i by omega, if_pos (by omega), ups_get b i (by omega)]; rfl)))))) ?_
          exact True.intro
         ))
       ·(try simp only [cmpI, errD_nil, qa, qb, qc, qd] at ht118)
        refine awp_exit (awp_seq (awp_region rfl ?_))
        refine sP (opp_loadP rfl rfl rfl rfl bi rfl ty33) rfl rfl ?_
        refine sR0 (opr_store (v := .agg _) (trn := (.agg _)) rfl rfl rfl rfl bi rfl rfl rfl rfl fr2 ty33 (fun _ _ h => h)) rfl rfl rfl ?_
        refine awp_ret ?_
        repeat (first | refine athen_ret ?_ | refine ain_ret ?_)
        refine gpost_ret (gend1 (r0 := .agg _) true (.cell rfl rfl rfl (by exact True.intro) rfl ty33 .nil) shut rfl ?_ rfl True.intro)
        ·have hie : i = b.length := by omega
         have hne : i ≠ 0 := by intro h; simp [h] at hi1
         rw [rowV, ups_len, ← hie, show decide (i = 0) = false by rw [decide_eq_false_iff_not]; exact hne]; exact .refl
      ·dsimp only [cond] at hi1 ⊢
       refine awp_seq (awp_seq (awp_region rfl ?_))
       refine sP (opp_mv (v := .int _ _) rfl rfl) rfl rfl ?_
       refine sP (opp_mv (v := .sl _ _ _ _) rfl rfl) rfl rfl ?_
       refine sP (opp_lenSl rfl rfl un38) rfl rfl ?_
       refine sP (opp_cmp rfl rfl rfl rfl) rfl rfl ?_
       refine awp_cond _ rfl (fun ht118 => ?_) (fun ht118 => ?_)
       ·(try simp only [cmpI, errD_nil, qa, qb, qc, qd] at ht118)
        refine awp_skip (awp_seq (awp_block ?_))
        have hby : (b.getD (Int.toNat (i : Int)) 0).toNat < 256 := UInt8.toNat_lt _
        refine awp_draw hmix rfl (by kernel_rfl) ?_
        refine dP (fun _ => false) (opp_fieldP rfl rfl fld33_6 rfl) rfl rfl ?_
        refine dP (fun n => Nat.beq n 2) (opp_loadP rfl rfl rfl rfl bi rfl ty29) rfl rfl ?_
        refine dP (fun _ => false) (opp_mv (v := .sl _ _ _ _) rfl rfl) rfl rfl ?_
        refine dP (fun _ => false) (opp_mv (v := .int _ _) rfl rfl) rfl rfl ?_
        refine dP (fun _ => false) (opp_indexSl rfl rfl rfl el38 (by omega) (by omega)) rfl rfl ?_
        refine dP (fun _ => false) (opp_loadF rfl rfl ty5) rfl rfl ?_
        refine dP (fun _ => false) (opp_cmp rfl rfl rfl rfl) rfl rfl ?_
        refine dR (fun _ => false) (opr_buildSlice (n := 128) (g := fun j => if j = 0 then .bool _ else .bool false) rfl eb29 z4 (by decide) rfl rfl) rfl rfl rfl ?_
        refine dR (fun n => !([] : List Nat).contains n) (opr_appendNil (d := 129) rfl rfl (.osl0 rfl (by omega)) eb29 z4 (by omega) (by omega) (by omega)) rfl rfl rfl ?_
        refine dP (fun _ => false) (opp_fieldP rfl rfl fld33_6 rfl) rfl rfl ?_
        refine dR0 (fun n => Nat.beq n 2) (opr_store (v := .osl _ _ _ _ _) (trn := (.agg [_, _, _, _, _, _, .osl _ _ _ _ _, _, _, _])) rfl rfl rfl rfl bi rfl rfl rfl rfl fr2 ty29 (fun _ _ h => h)) rfl rfl rfl ?_
        refine And.intro (by kernel_rfl) ?_
        refine awp_region rfl ?_
        refine sP (opp_mv (v := .int _ _) rfl rfl) rfl rfl ?_
        refine sP (opp_arith rfl rfl rfl (.inl ⟨rfl, w64 (by omega)⟩)) rfl rfl ?_
        refine sP (opp_as (v := .int _ _) rfl rfl) rfl rfl ?_
        have hi0 : i = 0 := hi1.2.1 rfl
        refine Exists.intro ((i + 1, false)) (And.intro (And.intro (And.intro (by show i + 1 ≤ _; omega) (by simp)) (by first | omega | (dsimp only; omega))) (by
         refine imp_over [(1004, 129)] rfl rfl (by kernel_rfl) ?_ ?_
         ·iterate 17 refine And.intro wkv ?_
          exact True.intro
         ·refine And.intro (And.intro rfl (And.intro rfl (Exists.intro _ (And.intro rfl (by subst hi0; exact WkC.refl _))))) ?_
          refine And.intro (And.intro rfl (And.intro rfl (Exists.intro _ (And.intro rfl (by show WkC (AV.arr 1 _ _) (AV.arr 1 _ _); subst hi0; exact WkC.arr (fun j hj => by rw [show j = 0 by omega, ups_get b 0 (by omega)]; rfl)))))) ?_
          exact True.intro
         ))
       ·(try simp only [cmpI, errD_nil, qa, qb, qc, qd] at ht118)
        refine awp_exit (awp_seq (awp_region rfl ?_))
        refine sP (opp_loadP rfl rfl rfl rfl bi rfl ty33) rfl rfl ?_
        refine sR0 (opr_store (v := .agg _) (trn := (.agg _)) rfl rfl rfl rfl bi rfl rfl rfl rfl fr2 ty33 (fun _ _ h => h)) rfl rfl rfl ?_
        refine awp_ret ?_
        repeat (first | refine athen_ret ?_ | refine ain_ret ?_)
        refine gpost_ret (gend1 (r0 := .agg _) true (.cell rfl rfl rfl (by exact True.intro) rfl ty33 .nil) shut rfl ?_ rfl True.intro)
        ·have hi0 : i = 0 := hi1.2.1 rfl
         have hie : b.length = 0 := by omega
         rw [rowV, ups_len, hie]; exact .agg (.cons .refl (.cons .refl (.cons .refl (.cons .refl (.cons .refl (.cons .refl (.cons .sl0 (.cons .refl (.cons .refl (.cons .refl (.nil)))))))))))
     ·(try simp only [cmpI, errD_nil, qa, qb, qc, qd] at ht112)
      exfalso; first | omega | (simp at ht112; done)
set_option maxHeartbeats 1000000 in
theorem cg51f (b : List UInt8) (nn : Bool) (h0 : b.length ≤ 4294967296) (h5 : b.length % 5 = 0) (m : Bool) (n : Nat) (f : Nat → AV) (v : Nat → Value) : AGen (V ea cds gl) 51 [.agg [.val (v 0), .val (v 1), .val (v 2), .val (v 3), .val (v 4), .sl 2 m n f, .val (v 6), .val (v 7), .val (v 8), .val (v 9)], rcAV ⟨5, nn, b⟩] []
  (.agg [.val (v 0), .val (v 1), .val (v 2), .val (v 3), .val (v 4), rowV 2 (Sp.timersOf b).length (tmAt (Sp.timersOf b)), .val (v 6), .val (v 7), .val (v 8), .val (v 9)]) [] := by
 unfold rcAV; dsimp only
 refine agen_of_body (N := 219) Tryd.func51 rfl rfl (Nat.le_of_ble_eq_true rfl) fun C hV hN hM hO => ?_
 obtain ⟨_, _, w0, G0, σ0, _, own0⟩ := C; dsimp only at hV hN hM hO; subst hV; subst hN; subst hM
 refine awp_seq (awp_region rfl ?_)
 refine sR (opr_box (y := .agg _) (n := 2) rfl rfl rfl) rfl rfl rfl ?_
 refine sR (opr_box (y := .agg _) (n := 3) rfl rfl rfl) rfl rfl rfl ?_
 refine sR (opr_alloc (n := 4) rfl z33) rfl rfl rfl ?_
 refine awp_seq (awp_region rfl ?_)
 refine sP (opp_fieldP rfl rfl fld94_1 rfl) rfl rfl ?_
 refine sP (opp_loadP rfl rfl rfl rfl bi rfl ty38) rfl rfl ?_
 refine sP (opp_as (v := .sl _ _ _ _) rfl rfl) rfl rfl ?_
 refine awp_seq (awp_seq (awp_region rfl ?_))
 refine sP (opp_fieldP rfl rfl fld94_0 rfl) rfl rfl ?_
 refine sP (opp_loadP rfl rfl rfl rfl bi rfl ty3) rfl rfl ?_
 refine awp_block (awp_seq (awp_region rfl ?_))
 refine sP (opp_cmp rfl rfl rfl rfl) rfl rfl ?_
 refine sP (opp_as (v := .bool _) rfl rfl) rfl rfl ?_
 refine awp_cond _ rfl (fun ht20 => ?_) (fun ht20 => ?_)
 ·(try simp only [cmpI, errD_nil, qa, qb, qc, qd] at ht20)
  exfalso; first | omega | (simp at ht20; done)
 ·(try simp only [cmpI, errD_nil, qa, qb, qc, qd] at ht20)
  refine awp_seq (awp_region rfl ?_)
  refine sP (opp_cmp rfl rfl rfl rfl) rfl rfl ?_
  refine sP (opp_as (v := .bool _) rfl rfl) rfl rfl ?_
  refine awp_cond _ rfl (fun ht28 => ?_) (fun ht28 => ?_)
  ·(try simp only [cmpI, errD_nil, qa, qb, qc, qd] at ht28)
   exfalso; first | omega | (simp at ht28; done)
  ·(try simp only [cmpI, errD_nil, qa, qb, qc, qd] at ht28)
   refine awp_seq (awp_region rfl ?_)
   refine sP (opp_cmp rfl rfl rfl rfl) rfl rfl ?_
   refine sP (opp_as (v := .bool _) rfl rfl) rfl rfl ?_
   refine awp_cond _ rfl (fun ht69 => ?_) (fun ht69 => ?_)
   ·(try simp only [cmpI, errD_nil, qa, qb, qc, qd] at ht69)
    exfalso; first | omega | (simp at ht69; done)
   ·(try simp only [cmpI, errD_nil, qa, qb, qc, qd] at ht69)
    refine awp_seq (awp_region rfl ?_)
    refine sP (opp_cmp rfl rfl rfl rfl) rfl rfl ?_
    refine sP (opp_as (v := .bool _) rfl rfl) rfl rfl ?_
    refine awp_cond _ rfl (fun ht88 => ?_) (fun ht88 => ?_)
    ·(try simp only [cmpI, errD_nil, qa, qb, qc, qd] at ht88)
     refine awp_seq (awp_region rfl ?_)
     refine sP (opp_fieldP rfl rfl fld33_5 rfl) rfl rfl ?_
     refine sR0 (opr_store (v := .sl _ _ _ _) (trn := (.agg [_, _, _, _, _, .sl _ _ _ _, _, _, _, _])) rfl rfl rfl rfl bi rfl rfl rfl rfl fr2 ty28 (fun _ _ h => h)) rfl rfl rfl ?_
     refine awp_seq (awp_region rfl ?_)
     refine sP (opp_as (v := .int _ _) rfl rfl) rfl rfl ?_
     refine awp_block ?_
     refine awp_loopK (ι := Nat × Bool) (fun p => 5 * p.1 ≤ b.length ∧ (p.2 = true ↔ p.1 = 0)) (fun p => [(9, .int .i64 ((5 * p.1 : Nat) : Int)), (91, .top), (92, .top), (93, .top), (94, .top), (95, .top), (96, .top), (97, .top), (98, .top), (99, .top), (100, .top), (101, .top), (102, .top), (103, .top), (104, .top), (105, .top), (106, .top), (107, .top), (108, .top), (109, .top), (110, .top), (111, .top)]) (fun p => [(2, some (.agg [.val (v 0), .val (v 1), .val (v 2), .val (v 3), .val (v 4), cond p.2 (.sl 1 true 0 (fun _ => .top)) (.osl 1004 2 0 p.1 p.1), .val (v 6), .val (v 7), .val (v 8), .val (v 9)])), (1004, cond p.2 none (some (.arr 2 p.1 (tmAt (Sp.timersOf b)))))]) [1004] (fun p => b.length - p.1) ((0, true)) (⟨Nat.zero_le _, by simp⟩) (by
      refine imp_over [] rfl rfl (by kernel_rfl) ?_ ?_
      ·iterate 22 refine And.intro wkv ?_
       exact True.intro
      ·refine And.intro (And.intro rfl (And.intro rfl (Exists.intro _ (And.intro rfl wkc)))) ?_
       exact True.intro
      ) ?_
     intro p hi1; obtain ⟨i, e⟩ := p; rcases e with _ | _
     ·dsimp only [cond] at hi1 ⊢
      refine awp_seq (awp_seq (awp_region rfl ?_))
      refine sP (opp_mv (v := .int _ _) rfl rfl) rfl rfl ?_
      refine sP (opp_mv (v := .sl _ _ _ _) rfl rfl) rfl rfl ?_
      refine sP (opp_lenSl rfl rfl un38) rfl rfl ?_
      refine sP (opp_cmp rfl rfl rfl rfl) rfl rfl ?_
      refine awp_cond _ rfl (fun ht94 => ?_) (fun ht94 => ?_)
      ·(try simp only [cmpI, errD_nil, qa, qb, qc, qd] at ht94)
       refine awp_skip (awp_seq (awp_block ?_))
       have hby : (b.getD (Int.toNat ((5 * i : Nat) : Int)) 0).toNat < 256 := UInt8.toNat_lt _
       have hb5 := fld1 b (5 * i) (by omega)
       refine awp_draw hmix rfl (by kernel_rfl) ?_
       refine dP (fun _ => false) (opp_fieldP rfl rfl fld33_5 rfl) rfl rfl ?_
       refine dP (fun n => Nat.beq n 2) (opp_loadP rfl rfl rfl rfl bi rfl ty28) rfl rfl ?_
       refine dP (fun _ => false) (opp_mv (v := .sl _ _ _ _) rfl rfl) rfl rfl ?_
       refine dP (fun _ => false) (opp_mv (v := .int _ _) rfl rfl) rfl rfl ?_
       refine dP (fun _ => false) (opp_indexSl rfl rfl rfl el38 (by omega) (by omega)) rfl rfl ?_
       refine dP (fun _ => false) (opp_loadF rfl rfl ty5) rfl rfl ?_
       refine dP (fun _ => false) (opp_convInt rfl rfl un5s un3 (w64 (by omega))) rfl rfl ?_
       refine dP (fun _ => false) (opp_mv (v := .sl _ _ _ _) rfl rfl) rfl rfl ?_
       refine dP (fun _ => false) (opp_mv (v := .int _ _) rfl rfl) rfl rfl ?_
       refine dP (fun _ => false) (opp_arith rfl rfl rfl (.inl ⟨rfl, w64 (by omega)⟩)) rfl rfl ?_
       rw [show (((5 * i : Nat) : Int) + 1) = ((5 * i + 1 : Nat) : Int) by omega]
       refine dR (fun n => !([103, 109] : List Nat).contains n) (opr_call rfl rfl ent75 rfl (c75 b nn (5 * i + 1) 4 (by omega) (by omega) (by omega)) (AViews.refl _ rfl)) rfl rfl rfl ?_ -- d=107 t=3 a=104,106,x
       refine dP (fun _ => false) (opp_build rfl z121 bld121 rfl [.int _ _, .int _ _] rfl) rfl rfl ?_
       refine dR (fun _ => false) (opr_buildSlice (n := 109) (g := fun j => if j = 0 then .agg _ else .agg [.int .i64 0, .int .i64 0]) rfl eb28 z121 (by decide) rfl rfl) rfl rfl rfl ?_
       refine dR (fun n => !([] : List Nat).contains n) (opr_append (d := 110) rfl rfl rfl (by omega) (.osl0 rfl (by omega)) eb28 z121 (by omega) (by omega)) rfl rfl rfl ?_
       refine dP (fun _ => false) (opp_fieldP rfl rfl fld33_5 rfl) rfl rfl ?_
       refine dR0 (fun n => Nat.beq n 2) (opr_store (v := .osl _ _ _ _ _) (trn := (.agg [_, _, _, _, _, .osl _ _ _ _ _, _, _, _, _])) rfl rfl rfl rfl bi rfl rfl rfl rfl fr2 ty28 (fun _ _ h => h)) rfl rfl rfl ?_
       refine And.intro (by kernel_rfl) ?_
       refine awp_region rfl ?_
       refine sP (opp_mv (v := .int _ _) rfl rfl) rfl rfl ?_
       refine sP (opp_arith rfl rfl rfl (.inl ⟨rfl, w64 (by omega)⟩)) rfl rfl ?_
       refine sP (opp_as (v := .int _ _) rfl rfl) rfl rfl ?_
       refine Exists.intro ((i + 1, false)) (And.intro (And.intro (And.intro (by show 5 * (i + 1) ≤ _; omega) (by simp)) (by first | omega | (dsimp only; omega))) (by
        refine imp_over [(1004, 110)] rfl rfl (by kernel_rfl) ?_ ?_
        ·refine And.intro (by exact Or.inr (And.intro rfl (WkV.of (by show AV.int .i64 _ = AV.int .i64 _; congr 1)))) ?_
         iterate 21 refine And.intro wkv ?_
         exact True.intro
        ·refine And.intro (And.intro rfl (And.intro rfl (Exists.intro _ (And.intro rfl wkc)))) ?_
         refine And.intro (And.intro rfl (And.intro rfl (Exists.intro _ (And.intro rfl (by show WkC (AV.arr 2 _ _) (AV.arr 2 _ _); exact WkC.arr (fun j hj => by by_cases h : j < i; rw [if_pos h]; rw [if_neg h, show j = i by omega, if_pos (by omega), tms_get b i (by omega), hb5]; rfl)))))) ?_
         exact True.intro
        ))
      ·(try simp only [cmpI, errD_nil, qa, qb, qc, qd] at ht94)
       refine awp_exit (awp_seq (awp_region rfl ?_))
       refine sP (opp_loadP rfl rfl rfl rfl bi rfl ty33) rfl rfl ?_
       refine sR0 (opr_store (v := .agg _) (trn := (.agg _)) rfl rfl rfl rfl bi rfl rfl rfl rfl fr2 ty33 (fun _ _ h => h)) rfl rfl rfl ?_
       refine awp_ret ?_
       repeat (first | refine athen_ret ?_ | refine ain_ret ?_)
       refine gpost_ret (gend1 (r0 := .agg _) true (.cell rfl rfl rfl (by exact True.intro) rfl ty33 .nil) shut rfl ?_ rfl True.intro)
       ·have hie : i = b.length / 5 := by omega
        have hne : i ≠ 0 := by intro h; simp [h] at hi1
        rw [rowV, tms_len, ← hie, show decide (i = 0) = false by rw [decide_eq_false_iff_not]; exact hne]; exact .refl
     ·dsimp only [cond] at hi1 ⊢
      refine awp_seq (awp_seq (awp_region rfl ?_))
      refine sP (opp_mv (v := .int _ _) rfl rfl) rfl rfl ?_
      refine sP (opp_mv (v := .sl _ _ _ _) rfl rfl) rfl rfl ?_
      refine sP (opp_lenSl rfl rfl un38) rfl rfl ?_
      refine sP (opp_cmp rfl rfl rfl rfl) rfl rfl ?_
      refine awp_cond _ rfl (fun ht94 => ?_) (fun ht94 => ?_)
      ·(try simp only [cmpI, errD_nil, qa, qb, qc, qd] at ht94)
       refine awp_skip (awp_seq (awp_block ?_))
       have hby : (b.getD (Int.toNat ((5 * i : Nat) : Int)) 0).toNat < 256 := UInt8.toNat_lt _
       have hb5 := fld1 b (5 * i) (by omega)
       refine awp_draw hmix rfl (by kernel_rfl) ?_
       refine dP (fun _ => false) (opp_fieldP rfl rfl fld33_5 rfl) rfl rfl ?_
       refine dP (fun n => Nat.beq n 2) (opp_loadP rfl rfl rfl rfl bi rfl ty28) rfl rfl ?_
       refine dP (fun _ => false) (opp_mv (v := .sl _ _ _ _) rfl rfl) rfl rfl ?_
       refine dP (fun _ => false) (opp_mv (v := .int _ _) rfl rfl) rfl rfl ?_
       refine dP (fun _ => false) (opp_indexSl rfl rfl rfl el38 (by omega) (by omega)) rfl rfl ?_
       refine dP (fun _ => false) (opp_loadF rfl rfl ty5) rfl rfl ?_
       refine dP (fun _ => false) (opp_convInt rfl rfl un5s un3 (w64 (by omega))) rfl rfl ?_
       refine dP (fun _ => false) (opp_mv (v := .sl _ _ _ _) rfl rfl) rfl rfl ?_
       refine dP (fun _ => false) (opp_mv (v := .int _ _) rfl rfl) rfl rfl ?_
       refine dP (fun _ => false) (opp_arith rfl rfl rfl (.inl ⟨rfl, w64 (by omega)⟩)) rfl rfl ?_
       rw [show (((5 * i : Nat) : Int) + 1) = ((5 * i + 1 : Nat) : Int) by omega]
       refine dR (fun n => !([103, 109] : List Nat).contains n) (opr_call rfl rfl ent75 rfl (c75 b nn (5 * i + 1) 4 (by omega) (by omega) (by omega)) (AViews.refl _ rfl)) rfl rfl rfl ?_ -- d=107 t=3 a=104,106,x
       refine dP (fun _ => false) (opp_build rfl z121 bld121 rfl [.int _ _, .int _ _] rfl) rfl rfl ?_
       refine dR (fun _ => false) (opr_buildSlice (n := 109) (g := fun j => if j = 0 then .agg _ else .agg [.int .i64 0, .int .i64 0]) rfl eb28 z121 (by decide) rfl rfl) rfl rfl rfl ?_
       refine dR (fun n => !([] : List Nat).contains n) (opr_appendNil (d := 110) rfl rfl (.osl0 rfl (by omega)) eb28 z121 (by omega) (by omega) (by omega)) rfl rfl rfl ?_
       refine dP (fun _ => false) (opp_fieldP rfl rfl fld33_5 rfl) rfl rfl ?_
       refine dR0 (fun n => Nat.beq n 2) (opr_store (v := .osl _ _ _ _ _) (trn := (.agg [_, _, _, _, _, .osl _ _ _ _ _, _, _, _, _])) rfl rfl rfl rfl bi rfl rfl rfl rfl fr2 ty28 (fun _ _ h => h)) rfl rfl rfl ?_
       refine And.intro (by kernel_rfl) ?_
       refine awp_region rfl ?_
       refine sP (opp_mv (v := .int _ _) rfl rfl) rfl rfl ?_
       refine sP (opp_arith rfl rfl rfl (.inl ⟨rfl, w64 (by omega)⟩)) rfl rfl ?_
       refine sP (opp_as (v := .int _ _) rfl rfl) rfl rfl ?_
       have hi0 : i = 0 := hi1.2.1 rfl
       refine Exists.intro ((i + 1, false)) (And.intro (And.intro (And.intro (by show 5 * (i + 1) ≤ _; omega) (by simp)) (by first | omega | (dsimp only; omega))) (by
        refine imp_over [(1004, 110)] rfl rfl (by kernel_rfl) ?_ ?_
        ·refine And.intro (by exact Or.inr (And.intro rfl (WkV.of (by show AV.int .i64 _ = AV.int .i64 _; congr 1)))) ?_
         iterate 21 refine And.intro wkv ?_
         exact True.intro
        ·refine And.intro (And.intro rfl (And.intro rfl (Exists.intro _ (And.intro rfl (by subst hi0; exact WkC.refl _))))) ?_
         refine And.intro (And.intro rfl (And.intro rfl (Exists.intro _ (And.intro rfl (by show WkC (AV.arr 2 _ _) (AV.arr 2 _ _); subst hi0; exact WkC.arr (fun j hj => by rw [show j = 0 by omega, tms_get b 0 (by omega), hb5]; rfl)))))) ?_
         exact True.intro
        ))
      ·(try simp only [cmpI, errD_nil, qa, qb, qc, qd] at ht94)
       refine awp_exit (awp_seq (awp_region rfl ?_))
       refine sP (opp_loadP rfl rfl rfl rfl bi rfl ty33) rfl rfl ?_
       refine sR0 (opr_store (v := .agg _) (trn := (.agg _)) rfl rfl rfl rfl bi rfl rfl rfl rfl fr2 ty33 (fun _ _ h => h)) rfl rfl rfl ?_
       refine awp_ret ?_
       repeat (first | refine athen_ret ?_ | refine ain_ret ?_)
       refine gpost_ret (gend1 (r0 := .agg _) true (.cell rfl rfl rfl (by exact True.intro) rfl ty33 .nil) shut rfl ?_ rfl True.intro)
       ·have hi0 : i = 0 := hi1.2.1 rfl
        have hie : b.length / 5 = 0 := by omega
        rw [rowV, tms_len, hie]; exact .agg (.cons .refl (.cons .refl (.cons .refl (.cons .refl (.cons .refl (.cons .sl0 (.cons .refl (.cons .refl (.cons .refl (.cons .refl (.nil)))))))))))
    ·(try simp only [cmpI, errD_nil, qa, qb, qc, qd] at ht88)
     exfalso; first | omega | (simp at ht88; done)
end
end Go.Proofs.YtpmgdmbcdohgcaaDoor
/- The document's answers for layer 16: ports and pages put to a state (walks over this dump). -/
namespace Go.Proofs.YtpmgdmbcdohgcaaDoor
attribute [local irreducible] Tryd.prog
open Go.Fy
set_option linter.unusedSimpArgs false
set_option linter.unusedVariables false
def pgA (b : List UInt8) (i j : Nat) : AV := .int .u8 ((if j < i then (b.getD (j + 1) 0).toNat else 0 : Nat) : Int)
theorem pgA_next (b : List UInt8) (i j : Nat) : (if j = ((i : Int)).toNat then AV.int .u8 ((b.getD (i + 1) 0).toNat : Int) else pgA b i j) = pgA b (i + 1) j := by
  rw [Int.toNat_natCast]; unfold pgA
  by_cases h : j = i
  · subst h; rw [if_pos rfl, if_pos (by omega)]
  · rw [if_neg h]
    by_cases h2 : j < i
    · rw [if_pos h2, if_pos (by omega)]
    · rw [if_neg h2, if_neg (by omega)]
theorem pg_dirty (b : List UInt8) : cmpI .eql ((b.getD (Int.toNat 0) 0).toNat : Int) 1 = (Sp.page b).dirty := by
  show decide _ = decide _
  rw [decide_eq_decide]; show ((b.getD 0 0).toNat : Int) = 1 ↔ _; omega
theorem pgA_all (b : List UInt8) (h : b.length = 65) : AV.agg [.int .i64 0, .bool (Sp.page b).dirty, .arr 1 64 (pgA b 64)] = pgAV (Sp.page b) := by
  have e2 : pgA b 64 = bAt (Sp.page b).data := by
    funext j; unfold pgA
    by_cases hj : j < 64
    · rw [if_pos hj]; show _ = bAt (b.drop 1) j; rw [bAt_drop, Nat.add_comm]; rfl
    · rw [if_neg hj]; simp only [bAt, Sp.page, List.getD_eq_getElem?_getD]; rw [List.getElem?_eq_none (by rw [List.length_drop]; omega)]; rfl
  rw [e2]; rfl
section
variable {ea : Nat → Addr} {cds : List Nat} {gl : Nat → Option AV}
set_option maxHeartbeats 1000000 in
theorem cg51h (b : List UInt8) (nn : Bool) (h0 : b.length ≤ 4294967296) (h8 : (Sp.portQ b).2 = true) (l : List Pt) (hl : l.length ≤ 4294967296) (v : Nat → Value) : AGen (V ea cds gl) 51 [.agg [.val (v 0), .val (v 1), .val (v 2), .val (v 3), .val (v 4), .val (v 5), .val (v 6), .val (v 7), .osl 1002 2 0 l.length l.length, .val (v 9)], rcAV ⟨8, nn, b⟩] [(1002, some (.arr 2 l.length (ptAt l)))]
  (.agg [.val (v 0), .val (v 1), .val (v 2), .val (v 3), .val (v 4), .val (v 5), .val (v 6), .val (v 7), .osl 191 2 0 (l.length + 1) (l.length + 1), .val (v 9)]) [(1002, none), (191, some (.arr 2 (l.length + 1) (ptAt (l ++ [(Sp.portQ b).1]))))] := by
 obtain ⟨h2, hp, hq⟩ := portQ_ok b h8
 unfold rcAV; dsimp only
 refine agen_of_body (N := 219) Tryd.func51 rfl rfl (Nat.le_of_ble_eq_true rfl) fun C hV hN hM hO => ?_
 obtain ⟨_, _, w0, G0, σ0, _, own0⟩ := C; dsimp only at hV hN hM hO; subst hV; subst hN; subst hM
 refine awp_seq (awp_region rfl ?_)
 refine sR (opr_box (y := .agg _) (n := 2) rfl rfl rfl) rfl rfl rfl ?_
 refine sR (opr_box (y := .agg _) (n := 3) rfl rfl rfl) rfl rfl rfl ?_
 refine sR (opr_alloc (n := 4) rfl z33) rfl rfl rfl ?_
 refine awp_seq (awp_region rfl ?_)
 refine sP (opp_fieldP rfl rfl fld94_1 rfl) rfl rfl ?_
 refine sP (opp_loadP rfl rfl rfl rfl bi rfl ty38) rfl rfl ?_
 refine sP (opp_as (v := .sl _ _ _ _) rfl rfl) rfl rfl ?_
 refine awp_seq (awp_seq (awp_region rfl ?_))
 refine sP (opp_fieldP rfl rfl fld94_0 rfl) rfl rfl ?_
 refine sP (opp_loadP rfl rfl rfl rfl bi rfl ty3) rfl rfl ?_
 refine awp_block (awp_seq (awp_region rfl ?_))
 refine sP (opp_cmp rfl rfl rfl rfl) rfl rfl ?_
 refine sP (opp_as (v := .bool _) rfl rfl) rfl rfl ?_
 refine awp_cond _ rfl (fun ht20 => ?_) (fun ht20 => ?_)
 ·(try simp only [cmpI, errD_nil, qa, qb, qc, qd] at ht20)
  exfalso; first | omega | (simp at ht20; done)
 ·(try simp only [cmpI, errD_nil, qa, qb, qc, qd] at ht20)
  refine awp_seq (awp_region rfl ?_)
  refine sP (opp_cmp rfl rfl rfl rfl) rfl rfl ?_
  refine sP (opp_as (v := .bool _) rfl rfl) rfl rfl ?_
  refine awp_cond _ rfl (fun ht28 => ?_) (fun ht28 => ?_)
  ·(try simp only [cmpI, errD_nil, qa, qb, qc, qd] at ht28)
   exfalso; first | omega | (simp at ht28; done)
  ·(try simp only [cmpI, errD_nil, qa, qb, qc, qd] at ht28)
   refine awp_seq (awp_region rfl ?_)
   refine sP (opp_cmp rfl rfl rfl rfl) rfl rfl ?_
   refine sP (opp_as (v := .bool _) rfl rfl) rfl rfl ?_
   refine awp_cond _ rfl (fun ht69 => ?_) (fun ht69 => ?_)
   ·(try simp only [cmpI, errD_nil, qa, qb, qc, qd] at ht69)
    exfalso; first | omega | (simp at ht69; done)
   ·(try simp only [cmpI, errD_nil, qa, qb, qc, qd] at ht69)
    refine awp_seq (awp_region rfl ?_)
    refine sP (opp_cmp rfl rfl rfl rfl) rfl rfl ?_
    refine sP (opp_as (v := .bool _) rfl rfl) rfl rfl ?_
    refine awp_cond _ rfl (fun ht88 => ?_) (fun ht88 => ?_)
    ·(try simp only [cmpI, errD_nil, qa, qb, qc, qd] at ht88)
     exfalso; first | omega | (simp at ht88; done)
    ·(try simp only [cmpI, errD_nil, qa, qb, qc, qd] at ht88)
     refine awp_seq (awp_region rfl ?_)
     refine sP (opp_cmp rfl rfl rfl rfl) rfl rfl ?_
     refine sP (opp_as (v := .bool _) rfl rfl) rfl rfl ?_
     refine awp_cond _ rfl (fun ht112 => ?_) (fun ht112 => ?_)
     ·(try simp only [cmpI, errD_nil, qa, qb, qc, qd] at ht112)
      exfalso; first | omega | (simp at ht112; done)
     ·(try simp only [cmpI, errD_nil, qa, qb, qc, qd] at ht112)
      refine awp_seq (awp_region rfl ?_)
      refine sP (opp_cmp rfl rfl rfl rfl) rfl rfl ?_
      refine sP (opp_as (v := .bool _) rfl rfl) rfl rfl ?_
      refine awp_cond _ rfl (fun ht131 => ?_) (fun ht131 => ?_)
      ·(try simp only [cmpI, errD_nil, qa, qb, qc, qd] at ht131)
       exfalso; first | omega | (simp at ht131; done)
      ·(try simp only [cmpI, errD_nil, qa, qb, qc, qd] at ht131)
       refine awp_seq (awp_region rfl ?_)
       refine sP (opp_cmp rfl rfl rfl rfl) rfl rfl ?_
       refine sP (opp_as (v := .bool _) rfl rfl) rfl rfl ?_
       refine awp_cond _ rfl (fun ht150 => ?_) (fun ht150 => ?_)
       ·(try simp only [cmpI, errD_nil, qa, qb, qc, qd] at ht150)
        refine awp_seq ?_
        have hb0 := fld1 b 0 (by omega)
        have hby0 : (b.getD (Int.toNat 0) 0).toNat < 256 := UInt8.toNat_lt _
        refine awp_region rfl ?_
        refine sP (opp_mv (v := .sl _ _ _ _) rfl rfl) rfl rfl ?_
        refine sP (opp_indexSl rfl rfl rfl el38 (by omega) (by omega)) rfl rfl ?_
        refine sP (opp_loadF rfl rfl ty5) rfl rfl ?_
        refine sP (opp_convInt rfl rfl un5s un3 (w64 (by omega))) rfl rfl ?_
        refine sP (opp_build rfl z70 bld70 rfl [.sl 1 true 0 (fun _ => .top), .int _ _] rfl) rfl rfl ?_
        refine sR (opr_alloc (n := 12) rfl z70) rfl rfl rfl ?_
        refine sR0 (opr_store (v := .agg _) (trn := (.agg _)) rfl rfl rfl rfl bi rfl rfl rfl rfl fr2 ty70 (fun _ _ h => h)) rfl rfl rfl ?_
        refine awp_seq (awp_seq (awp_region rfl ?_))
        refine sP (opp_as (v := .int _ _) rfl rfl) rfl rfl ?_
        refine awp_block ?_
        refine awp_loopK (ι := Nat × Nat × List (List UInt8) × Bool) (fun p => Sp.msgsQ b p.1 p.2.1 p.2.2.1 = Sp.msgsQ b (Sp.fld b 1 1) 2 [] ∧ p.2.2.1.length ≤ p.2.1 ∧ p.2.1 ≤ b.length ∧ (p.2.2.2 = true ↔ p.2.2.1 = [])) (fun p => [(13, .int .i64 (p.2.1 : Int)), (157, .top), (158, .top), (159, .top), (160, .top), (161, .top), (162, .top), (163, .top), (164, .top), (165, .top), (166, .top), (167, .top), (168, .top), (169, .top), (170, .top), (171, .top), (172, .top), (173, .top), (174, .top), (175, .top), (176, .top), (177, .top), (178, .top), (179, .top), (180, .top), (181, .top), (182, .top), (183, .top), (184, .top), (185, .top), (186, .top)]) (fun p => [(12, some (.agg [cond p.2.2.2 (.sl 1 true 0 (fun _ => .top)) (.osl 1004 1 0 p.2.2.1.length p.2.2.1.length), .int .i64 (Sp.fld b 0 1 : Nat)])), (1004, cond p.2.2.2 none (some (.arr 1 p.2.2.1.length (strAt p.2.2.1))))]) [1004] (fun p => b.length - p.2.1) ((Sp.fld b 1 1, 2, [], true)) (⟨rfl, Nat.zero_le _, h2, by simp⟩) (by
         refine imp_over [] rfl rfl (by kernel_rfl) ?_ ?_
         ·iterate 31 refine And.intro wkv ?_
          exact True.intro
         ·refine And.intro (And.intro rfl (And.intro rfl (Exists.intro _ (And.intro rfl (by rw [hb0]; exact WkC.refl _))))) ?_
          exact True.intro
         ) ?_
        intro p hi1; obtain ⟨k, a, acc, e⟩ := p; rcases e with _ | _
        ·dsimp only [cond] at hi1 ⊢
         refine awp_seq (awp_seq (awp_region rfl ?_))
         refine sP (opp_mv (v := .int _ _) rfl rfl) rfl rfl ?_
         refine sP (opp_mv (v := .sl _ _ _ _) rfl rfl) rfl rfl ?_
         refine sP (opp_lenSl rfl rfl un38) rfl rfl ?_
         refine sP (opp_cmp rfl rfl rfl rfl) rfl rfl ?_
         refine awp_cond _ rfl (fun ht160 => ?_) (fun ht160 => ?_)
         ·(try simp only [cmpI, errD_nil, qa, qb, qc, qd] at ht160)
          refine awp_skip (awp_seq (awp_block ?_))
          have hba : (b.getD (Int.toNat (a : Int)) 0).toNat = Sp.fld b a 1 := (fld1 b a (by omega)).symm
          have hfa := fld_lt b a 1
          obtain ⟨m, hm1, hm2, hm3⟩ := msgsQ_more b k a acc (by rw [hi1.1]; exact hp) (by omega)
          have hlm : ((b.drop (a + 1)).take (Sp.fld b a 1)).length = Sp.fld b a 1 := by rw [List.length_take, List.length_drop]; omega
          refine awp_draw hmix rfl (by kernel_rfl) ?_
          refine dP (fun _ => false) (opp_fieldP rfl rfl fld70_0 rfl) rfl rfl ?_
          refine dP (fun n => Nat.beq n 12) (opp_loadP rfl rfl rfl rfl bi rfl ty68) rfl rfl ?_
          refine dP (fun _ => false) (opp_mv (v := .sl _ _ _ _) rfl rfl) rfl rfl ?_
          refine dP (fun _ => false) (opp_mv (v := .int _ _) rfl rfl) rfl rfl ?_
          refine dP (fun _ => false) (opp_arith rfl rfl rfl (.inl ⟨rfl, w64 (by omega)⟩)) rfl rfl ?_
          refine dP (fun _ => false) (opp_mv (v := .int _ _) rfl rfl) rfl rfl ?_
          refine dP (fun _ => false) (opp_arith rfl rfl rfl (.inl ⟨rfl, w64 (by omega)⟩)) rfl rfl ?_
          refine dP (fun _ => false) (opp_mv (v := .sl _ _ _ _) rfl rfl) rfl rfl ?_
          refine dP (fun _ => false) (opp_mv (v := .int _ _) rfl rfl) rfl rfl ?_
          refine dP (fun _ => false) (opp_indexSl rfl rfl rfl el38 (by omega) (by omega)) rfl rfl ?_
          refine dP (fun _ => false) (opp_loadF rfl rfl ty5) rfl rfl ?_
          refine dP (fun _ => false) (opp_convInt rfl rfl un5s un3 (w64 (by omega))) rfl rfl ?_
          rw [hba]
          refine dP (fun _ => false) (opp_arith rfl rfl rfl (.inl ⟨rfl, w64 (by omega)⟩)) rfl rfl ?_
          refine dP (fun _ => false) (opp_sliceSl rfl rfl rfl rfl el38 (by omega) (by omega) (by omega)) rfl rfl ?_
          refine dP (fun _ => false) (opp_bytesStr rfl rfl ((b.drop (a + 1)).take (Sp.fld b a 1)) (by rw [hlm]; omega) (fun j hj => by show _ = bAt _ j; rw [bAt_take _ _ _ (by omega), bAt_drop]; first | rfl | (congr 1; omega)) un38 unu8 un9) rfl rfl ?_
          refine dR (fun _ => false) (opr_buildSlice (n := 184) (g := fun j => if j = 0 then .str _ else .str []) rfl eb68 z9 (by decide) rfl rfl) rfl rfl rfl ?_
          refine dR (fun n => !([] : List Nat).contains n) (opr_append (d := 185) rfl rfl rfl (by omega) (.osl0 rfl (by omega)) eb68 z9 (by omega) (by omega)) rfl rfl rfl ?_
          refine dP (fun _ => false) (opp_fieldP rfl rfl fld70_0 rfl) rfl rfl ?_
          refine dR0 (fun n => Nat.beq n 12) (opr_store (v := .osl _ _ _ _ _) (trn := (.agg [.osl _ _ _ _ _, _])) rfl rfl rfl rfl bi rfl rfl rfl rfl fr2 ty68 (fun _ _ h => h)) rfl rfl rfl ?_
          refine And.intro (by kernel_rfl) ?_
          have hby4 : (b.getD (Int.toNat (a : Int)) 0).toNat < 256 := UInt8.toNat_lt _
          refine awp_region rfl ?_
          refine sP (opp_mv (v := .int _ _) rfl rfl) rfl rfl ?_
          refine sP (opp_arith rfl rfl rfl (.inl ⟨rfl, w64 (by omega)⟩)) rfl rfl ?_
          refine sP (opp_mv (v := .sl _ _ _ _) rfl rfl) rfl rfl ?_
          refine sP (opp_mv (v := .int _ _) rfl rfl) rfl rfl ?_
          refine sP (opp_indexSl rfl rfl rfl el38 (by omega) (by omega)) rfl rfl ?_
          refine sP (opp_loadF rfl rfl ty5) rfl rfl ?_
          refine sP (opp_convInt rfl rfl un5s un3 (w64 (by omega))) rfl rfl ?_
          refine sP (opp_arith rfl rfl rfl (.inl ⟨rfl, w64 (by omega)⟩)) rfl rfl ?_
          refine sP (opp_as (v := .int _ _) rfl rfl) rfl rfl ?_
          refine Exists.intro ((m, a + 1 + Sp.fld b a 1, acc ++ [(b.drop (a + 1)).take (Sp.fld b a 1)], false)) (And.intro (And.intro (And.intro (by rw [← hm3]; exact hi1.1) (And.intro (by have h3 := hi1.2.1; show (acc ++ [_]).length ≤ a + 1 + Sp.fld b a 1; rw [List.length_append, List.length_singleton]; omega) (And.intro hm2 (by simp)))) (by first | omega | (dsimp only; omega))) (by
           refine imp_over [(1004, 185)] rfl rfl (by kernel_rfl) ?_ ?_
           ·refine And.intro (by exact Or.inr (And.intro rfl (WkV.of (by show AV.int .i64 _ = AV.int .i64 _; congr 1; rw [hba]; rfl)))) ?_
            iterate 30 refine And.intro wkv ?_
            exact True.intro
           ·refine And.intro (And.intro rfl (And.intro rfl (Exists.intro _ (And.intro rfl (by exact WkC.of (by show AV.agg [AV.osl 185 1 0 _ _, AV.int IntKind.i64 (Sp.fld b 0 1 : Nat)] = AV.agg [AV.osl 185 1 0 _ _, AV.int IntKind.i64 (Sp.fld b 0 1 : Nat)]; simp)))))) ?_
            refine And.intro (And.intro rfl (And.intro rfl (Exists.intro _ (And.intro rfl (by show WkC (AV.arr 1 _ _) (AV.arr 1 _ _); rw [List.length_append]; exact WkC.arr (fun j hj => mstr_eq acc _ j (by simpa using hj))))))) ?_
            exact True.intro
           ))
         ·(try simp only [cmpI, errD_nil, qa, qb, qc, qd] at ht160)
          refine awp_exit ?_
          have hfin : acc = (Sp.msgsQ b (Sp.fld b 1 1) 2 []).1 := by rw [← hi1.1]; exact (msgsQ_done b k a acc (by rw [hi1.1]; exact hp) (by omega)).symm
          first | (have hff : (false = true ↔ acc = []) := hi1.2.2.2) | (have hac : acc = [] := hi1.2.2.2.1 rfl; refine awp_wkH 12 (.agg [.sl 1 true 0 (strAt []), .int .i64 (Sp.fld b 0 1 : Nat)]) rfl (Wk.c (.agg (.cons .sl0 (.cons .refl .nil)))) ?_)
          refine awp_region rfl ?_
          refine sP (opp_fieldP rfl rfl fld33_8 rfl) rfl rfl ?_
          refine sP (opp_loadP rfl rfl rfl rfl bi rfl ty30) rfl rfl ?_
          refine sP (opp_loadP rfl rfl rfl rfl bi rfl ty70) rfl rfl ?_
          first | (have hff : (false = true ↔ acc = []) := hi1.2.2.2; refine al_sh [(189, .agg [.sl 1 false acc.length (strAt acc), .int .i64 (Sp.fld b 0 1 : Nat)])] [(12, none), (1004, none)] hO rfl (And.intro shut True.intro) True.intro ?_) | skip
          refine sR (opr_buildSlice (n := 190) (g := fun j => if j = 0 then .agg _ else .agg [.sl 1 true 0 (fun _ => .top), .int .i64 0]) rfl eb30 z70 (by decide) rfl rfl) rfl rfl rfl ?_
          refine sR (opr_append (d := 191) rfl rfl rfl (by omega) (.osl0 rfl (by omega)) eb30 z70 (by omega) (by omega)) rfl rfl rfl ?_
          refine sP (opp_fieldP rfl rfl fld33_8 rfl) rfl rfl ?_
          refine sR0 (opr_store (v := .osl _ _ _ _ _) (trn := (.agg [_, _, _, _, _, _, _, _, .osl _ _ _ _ _, _])) rfl rfl rfl rfl bi rfl rfl rfl rfl fr2 ty30 (fun _ _ h => h)) rfl rfl rfl ?_
          refine awp_seq (awp_region rfl ?_)
          refine sP (opp_loadP rfl rfl rfl rfl bi rfl ty33) rfl rfl ?_
          refine sR0 (opr_store (v := .agg _) (trn := (.agg _)) rfl rfl rfl rfl bi rfl rfl rfl rfl fr2 ty33 (fun _ _ h => h)) rfl rfl rfl ?_
          refine awp_ret ?_
          repeat (first | refine athen_ret ?_ | refine ain_ret ?_)
          refine gpost_ret (gend1 (r0 := .agg _) false (.cell rfl rfl rfl (by exact True.intro) rfl ty33 .nil) shut rfl ?_ rfl (And.intro (Exists.intro _ (Exists.intro _ (And.intro rfl (And.intro shut (And.intro (fun h => by cases h) (And.intro ?_ rfl)))))) True.intro))
          ·exact .refl
          ·have hpe : AV.agg [AV.sl 1 false acc.length (strAt acc), AV.int .i64 (Sp.fld b 0 1 : Nat)] = ptAV (Sp.portQ b).1 := by rw [hq, ← hfin]; unfold ptAV; dsimp only; rw [show decide (acc = []) = false by rw [decide_eq_false_iff_not]; intro h; simpa using hi1.2.2.2.2 h]
           exact .arr (fun j hj => by by_cases h : j < l.length; rw [if_pos h, ptAt, ptAt, snoc_lt _ _ _ _ h]; rw [if_neg h, if_pos (by omega), ptAt, snoc_eq _ _ _ _ (by omega)]; exact hpe)
        ·dsimp only [cond] at hi1 ⊢
         refine awp_seq (awp_seq (awp_region rfl ?_))
         refine sP (opp_mv (v := .int _ _) rfl rfl) rfl rfl ?_
         refine sP (opp_mv (v := .sl _ _ _ _) rfl rfl) rfl rfl ?_
         refine sP (opp_lenSl rfl rfl un38) rfl rfl ?_
         refine sP (opp_cmp rfl rfl rfl rfl) rfl rfl ?_
         refine awp_cond _ rfl (fun ht160 => ?_) (fun ht160 => ?_)
         ·(try simp only [cmpI, errD_nil, qa, qb, qc, qd] at ht160)
          refine awp_skip (awp_seq (awp_block ?_))
          have hba : (b.getD (Int.toNat (a : Int)) 0).toNat = Sp.fld b a 1 := (fld1 b a (by omega)).symm
          have hfa := fld_lt b a 1
          obtain ⟨m, hm1, hm2, hm3⟩ := msgsQ_more b k a acc (by rw [hi1.1]; exact hp) (by omega)
          have hlm : ((b.drop (a + 1)).take (Sp.fld b a 1)).length = Sp.fld b a 1 := by rw [List.length_take, List.length_drop]; omega
          refine awp_draw hmix rfl (by kernel_rfl) ?_
          refine dP (fun _ => false) (opp_fieldP rfl rfl fld70_0 rfl) rfl rfl ?_
          refine dP (fun n => Nat.beq n 12) (opp_loadP rfl rfl rfl rfl bi rfl ty68) rfl rfl ?_
          refine dP (fun _ => false) (opp_mv (v := .sl _ _ _ _) rfl rfl) rfl rfl ?_
          refine dP (fun _ => false) (opp_mv (v := .int _ _) rfl rfl) rfl rfl ?_
          refine dP (fun _ => false) (opp_arith rfl rfl rfl (.inl ⟨rfl, w64 (by omega)⟩)) rfl rfl ?_
          refine dP (fun _ => false) (opp_mv (v := .int _ _) rfl rfl) rfl rfl ?_
          refine dP (fun _ => false) (opp_arith rfl rfl rfl (.inl ⟨rfl, w64 (by omega)⟩)) rfl rfl ?_
          refine dP (fun _ => false) (opp_mv (v := .sl _ _ _ _) rfl rfl) rfl rfl ?_
          refine dP (fun _ => false) (opp_mv (v := .int _ _) rfl rfl) rfl rfl ?_
          refine dP (fun _ => false) (opp_indexSl rfl rfl rfl el38 (by omega) (by omega)) rfl rfl ?_
          refine dP (fun _ => false) (opp_loadF rfl rfl ty5) rfl rfl ?_
          refine dP (fun _ => false) (opp_convInt rfl rfl un5s un3 (w64 (by omega))) rfl rfl ?_
          rw [hba]
          refine dP (fun _ => false) (opp_arith rfl rfl rfl (.inl ⟨rfl, w64 (by omega)⟩)) rfl rfl ?_
          refine dP (fun _ => false) (opp_sliceSl rfl rfl rfl rfl el38 (by omega) (by omega) (by omega)) rfl rfl ?_
          refine dP (fun _ => false) (opp_bytesStr rfl rfl ((b.drop (a + 1)).take (Sp.fld b a 1)) (by rw [hlm]; omega) (fun j hj => by show _ = bAt _ j; rw [bAt_take _ _ _ (by omega), bAt_drop]; first | rfl | (congr 1; omega)) un38 unu8 un9) rfl rfl ?_
          refine dR (fun _ => false) (opr_buildSlice (n := 184) (g := fun j => if j = 0 then .str _ else .str []) rfl eb68 z9 (by decide) rfl rfl) rfl rfl rfl ?_
          refine dR (fun n => !([] : List Nat).contains n) (opr_appendNil (d := 185) rfl rfl (.osl0 rfl (by omega)) eb68 z9 (by omega) (by omega) (by omega)) rfl rfl rfl ?_
          refine dP (fun _ => false) (opp_fieldP rfl rfl fld70_0 rfl) rfl rfl ?_
          refine dR0 (fun n => Nat.beq n 12) (opr_store (v := .osl _ _ _ _ _) (trn := (.agg [.osl _ _ _ _ _, _])) rfl rfl rfl rfl bi rfl rfl rfl rfl fr2 ty68 (fun _ _ h => h)) rfl rfl rfl ?_
          refine And.intro (by kernel_rfl) ?_
          have hby4 : (b.getD (Int.toNat (a : Int)) 0).toNat < 256 := UInt8.toNat_lt _
          refine awp_region rfl ?_
          refine sP (opp_mv (v := .int _ _) rfl rfl) rfl rfl ?_
          refine sP (opp_arith rfl rfl rfl (.inl ⟨rfl, w64 (by omega)⟩)) rfl rfl ?_
          refine sP (opp_mv (v := .sl _ _ _ _) rfl rfl) rfl rfl ?_
          refine sP (opp_mv (v := .int _ _) rfl rfl) rfl rfl ?_
          refine sP (opp_indexSl rfl rfl rfl el38 (by omega) (by omega)) rfl rfl ?_
          refine sP (opp_loadF rfl rfl ty5) rfl rfl ?_
          refine sP (opp_convInt rfl rfl un5s un3 (w64 (by omega))) rfl rfl ?_
          refine sP (opp_arith rfl rfl rfl (.inl ⟨rfl, w64 (by omega)⟩)) rfl rfl ?_
          refine sP (opp_as (v := .int _ _) rfl rfl) rfl rfl ?_
          have hac : acc = [] := hi1.2.2.2.1 rfl
          refine Exists.intro ((m, a + 1 + Sp.fld b a 1, acc ++ [(b.drop (a + 1)).take (Sp.fld b a 1)], false)) (And.intro (And.intro (And.intro (by rw [← hm3]; exact hi1.1) (And.intro (by rw [hac]; simp; omega) (And.intro hm2 (by simp)))) (by first | omega | (dsimp only; omega))) (by
           refine imp_over [(1004, 185)] rfl rfl (by kernel_rfl) ?_ ?_
           ·refine And.intro (by exact Or.inr (And.intro rfl (WkV.of (by show AV.int .i64 _ = AV.int .i64 _; congr 1; rw [hba]; rfl)))) ?_
            iterate 30 refine And.intro wkv ?_
            exact True.intro
           ·refine And.intro (And.intro rfl (And.intro rfl (Exists.intro _ (And.intro rfl (by exact WkC.of (by show AV.agg [AV.osl 185 1 0 _ _, AV.int IntKind.i64 (Sp.fld b 0 1 : Nat)] = AV.agg [AV.osl 185 1 0 _ _, AV.int IntKind.i64 (Sp.fld b 0 1 : Nat)]; rw [hac]; simp)))))) ?_
            refine And.intro (And.intro rfl (And.intro rfl (Exists.intro _ (And.intro rfl (by show WkC (AV.arr 1 _ _) (AV.arr 1 _ _); rw [hac]; exact WkC.arr (fun j hj => by have h0 : j = 0 := (by simpa using hj); subst h0; simp [strAt])))))) ?_
            exact True.intro
           ))
         ·(try simp only [cmpI, errD_nil, qa, qb, qc, qd] at ht160)
          refine awp_exit ?_
          have hfin : acc = (Sp.msgsQ b (Sp.fld b 1 1) 2 []).1 := by rw [← hi1.1]; exact (msgsQ_done b k a acc (by rw [hi1.1]; exact hp) (by omega)).symm
          first | (have hff : (false = true ↔ acc = []) := hi1.2.2.2) | (have hac : acc = [] := hi1.2.2.2.1 rfl; refine awp_wkH 12 (.agg [.sl 1 true 0 (strAt []), .int .i64 (Sp.fld b 0 1 : Nat)]) rfl (Wk.c (.agg (.cons .sl0 (.cons .refl .nil)))) ?_)
          refine awp_region rfl ?_
          refine sP (opp_fieldP rfl rfl fld33_8 rfl) rfl rfl ?_
          refine sP (opp_loadP rfl rfl rfl rfl bi rfl ty30) rfl rfl ?_
          refine sP (opp_loadP rfl rfl rfl rfl bi rfl ty70) rfl rfl ?_
          first | (have hff : (false = true ↔ acc = []) := hi1.2.2.2; refine al_sh [(189, .agg [.sl 1 false acc.length (strAt acc), .int .i64 (Sp.fld b 0 1 : Nat)])] [(12, none), (1004, none)] hO rfl (And.intro shut True.intro) True.intro ?_) | skip
          refine sR (opr_buildSlice (n := 190) (g := fun j => if j = 0 then .agg _ else .agg [.sl 1 true 0 (fun _ => .top), .int .i64 0]) rfl eb30 z70 (by decide) rfl rfl) rfl rfl rfl ?_
          refine sR (opr_append (d := 191) rfl rfl rfl (by omega) (.osl0 rfl (by omega)) eb30 z70 (by omega) (by omega)) rfl rfl rfl ?_
          refine sP (opp_fieldP rfl rfl fld33_8 rfl) rfl rfl ?_
          refine sR0 (opr_store (v := .osl _ _ _ _ _) (trn := (.agg [_, _, _, _, _, _, _, _, .osl _ _ _ _ _, _])) rfl rfl rfl rfl bi rfl rfl rfl rfl fr2 ty30 (fun _ _ h => h)) rfl rfl rfl ?_
          refine awp_seq (awp_region rfl ?_)
          refine sP (opp_loadP rfl rfl rfl rfl bi rfl ty33) rfl rfl ?_
          refine sR0 (opr_store (v := .agg _) (trn := (.agg _)) rfl rfl rfl rfl bi rfl rfl rfl rfl fr2 ty33 (fun _ _ h => h)) rfl rfl rfl ?_
          refine awp_ret ?_
          repeat (first | refine athen_ret ?_ | refine ain_ret ?_)
          refine gpost_ret (gend1 (r0 := .agg _) false (.cell rfl rfl rfl (by exact True.intro) rfl ty33 .nil) shut rfl ?_ rfl (And.intro (Exists.intro _ (Exists.intro _ (And.intro rfl (And.intro shut (And.intro (fun h => by cases h) (And.intro ?_ rfl)))))) True.intro))
          ·exact .refl
          ·have hpe : AV.agg [AV.sl 1 true 0 (strAt []), AV.int .i64 (Sp.fld b 0 1 : Nat)] = ptAV (Sp.portQ b).1 := by rw [hq, ← hfin, hac]; rfl
           exact .arr (fun j hj => by by_cases h : j < l.length; rw [if_pos h, ptAt, ptAt, snoc_lt _ _ _ _ h]; rw [if_neg h, if_pos (by omega), ptAt, snoc_eq _ _ _ _ (by omega)]; exact hpe)
       ·(try simp only [cmpI, errD_nil, qa, qb, qc, qd] at ht150)
        exfalso; first | omega | (simp at ht150; done)
set_option maxHeartbeats 1000000 in
theorem cg51i (b : List UInt8) (nn : Bool) (h0 : b.length ≤ 4294967296) (h8 : (Sp.portQ b).2 = true) (f : Nat → AV) (v : Nat → Value) : AGen (V ea cds gl) 51 [.agg [.val (v 0), .val (v 1), .val (v 2), .val (v 3), .val (v 4), .val (v 5), .val (v 6), .val (v 7), .sl 2 true 0 f, .val (v 9)], rcAV ⟨8, nn, b⟩] []
  (.agg [.val (v 0), .val (v 1), .val (v 2), .val (v 3), .val (v 4), .val (v 5), .val (v 6), .val (v 7), .osl 191 2 0 1 1, .val (v 9)]) [(191, some (.arr 2 1 (ptAt [(Sp.portQ b).1])))] := by
 obtain ⟨h2, hp, hq⟩ := portQ_ok b h8
 unfold rcAV; dsimp only
 refine agen_of_body (N := 219) Tryd.func51 rfl rfl (Nat.le_of_ble_eq_true rfl) fun C hV hN hM hO => ?_
 obtain ⟨_, _, w0, G0, σ0, _, own0⟩ := C; dsimp only at hV hN hM hO; subst hV; subst hN; subst hM
 refine awp_seq (awp_region rfl ?_)
 refine sR (opr_box (y := .agg _) (n := 2) rfl rfl rfl) rfl rfl rfl ?_
 refine sR (opr_box (y := .agg _) (n := 3) rfl rfl rfl) rfl rfl rfl ?_
 refine sR (opr_alloc (n := 4) rfl z33) rfl rfl rfl ?_
 refine awp_seq (awp_region rfl ?_)
 refine sP (opp_fieldP rfl rfl fld94_1 rfl) rfl rfl ?_
 refine sP (opp_loadP rfl rfl rfl rfl bi rfl ty38) rfl rfl ?_
 refine sP (opp_as (v := .sl _ _ _ _) rfl rfl) rfl rfl ?_
 refine awp_seq (awp_seq (awp_region rfl ?_))
 refine sP (opp_fieldP rfl rfl fld94_0 rfl) rfl rfl ?_
 refine sP (opp_loadP rfl rfl rfl rfl bi rfl ty3) rfl rfl ?_
 refine awp_block (awp_seq (awp_region rfl ?_))
 refine sP (opp_cmp rfl rfl rfl rfl) rfl rfl ?_
 refine sP (opp_as (v := .bool _) rfl rfl) rfl rfl ?_
 refine awp_cond _ rfl (fun ht20 => ?_) (fun ht20 => ?_)
 ·(try simp only [cmpI, errD_nil, qa, qb, qc, qd] at ht20)
  exfalso; first | omega | (simp at ht20; done)
 ·(try simp only [cmpI, errD_nil, qa, qb, qc, qd] at ht20)
  refine awp_seq (awp_region rfl ?_)
  refine sP (opp_cmp rfl rfl rfl rfl) rfl rfl ?_
  refine sP (opp_as (v := .bool _) rfl rfl) rfl rfl ?_
  refine awp_cond _ rfl (fun ht28 => ?_) (fun ht28 => ?_)
  ·(try simp only [cmpI, errD_nil, qa, qb, qc, qd] at ht28)
   exfalso; first | omega | (simp at ht28; done)
  ·(try simp only [cmpI, errD_nil, qa, qb, qc, qd] at ht28)
   refine awp_seq (awp_region rfl ?_)
   refine sP (opp_cmp rfl rfl rfl rfl) rfl rfl ?_
   refine sP (opp_as (v := .bool _) rfl rfl) rfl rfl ?_
   refine awp_cond _ rfl (fun ht69 => ?_) (fun ht69 => ?_)
   ·(try simp only [cmpI, errD_nil, qa, qb, qc, qd] at ht69)
    exfalso; first | omega | (simp at ht69; done)
   ·(try simp only [cmpI, errD_nil, qa, qb, qc, qd] at ht69)
    refine awp_seq (awp_region rfl ?_)
    refine sP (opp_cmp rfl rfl rfl rfl) rfl rfl ?_
    refine sP (opp_as (v := .bool _) rfl rfl) rfl rfl ?_
    refine awp_cond _ rfl (fun ht88 => ?_) (fun ht88 => ?_)
    ·(try simp only [cmpI, errD_nil, qa, qb, qc, qd] at ht88)
     exfalso; first | omega | (simp at ht88; done)
    ·(try simp only [cmpI, errD_nil, qa, qb, qc, qd] at ht88)
     refine awp_seq (awp_region rfl ?_)
     refine sP (opp_cmp rfl rfl rfl rfl) rfl rfl ?_
     refine sP (opp_as (v := .bool _) rfl rfl) rfl rfl ?_
     refine awp_cond _ rfl (fun ht112 => ?_) (fun ht112 => ?_)
     ·(try simp only [cmpI, errD_nil, qa, qb, qc, qd] at ht112)
      exfalso; first | omega | (simp at ht112; done)
     ·(try simp only [cmpI, errD_nil, qa, qb, qc, qd] at ht112)
      refine awp_seq (awp_region rfl ?_)
      refine sP (opp_cmp rfl rfl rfl rfl) rfl rfl ?_
      refine sP (opp_as (v := .bool _) rfl rfl) rfl rfl ?_
      refine awp_cond _ rfl (fun ht131 => ?_) (fun ht131 => ?_)
      ·(try simp only [cmpI, errD_nil, qa, qb, qc, qd] at ht131)
       exfalso; first | omega | (simp at ht131; done)
      ·(try simp only [cmpI, errD_nil, qa, qb, qc, qd] at ht131)
       refine awp_seq (awp_region rfl ?_)
       refine sP (opp_cmp rfl rfl rfl rfl) rfl rfl ?_
       refine sP (opp_as (v := .bool _) rfl rfl) rfl rfl ?_
       refine awp_cond _ rfl (fun ht150 => ?_) (fun ht150 => ?_)
       ·(try simp only [cmpI, errD_nil, qa, qb, qc, qd] at ht150)
        refine awp_seq ?_
        have hb0 := fld1 b 0 (by omega)
        have hby0 : (b.getD (Int.toNat 0) 0).toNat < 256 := UInt8.toNat_lt _
        refine awp_region rfl ?_
        refine sP (opp_mv (v := .sl _ _ _ _) rfl rfl) rfl rfl ?_
        refine sP (opp_indexSl rfl rfl rfl el38 (by omega) (by omega)) rfl rfl ?_
        refine sP (opp_loadF rfl rfl ty5) rfl rfl ?_
        refine sP (opp_convInt rfl rfl un5s un3 (w64 (by omega))) rfl rfl ?_
        refine sP (opp_build rfl z70 bld70 rfl [.sl 1 true 0 (fun _ => .top), .int _ _] rfl) rfl rfl ?_
        refine sR (opr_alloc (n := 12) rfl z70) rfl rfl rfl ?_
        refine sR0 (opr_store (v := .agg _) (trn := (.agg _)) rfl rfl rfl rfl bi rfl rfl rfl rfl fr2 ty70 (fun _ _ h => h)) rfl rfl rfl ?_
        refine awp_seq (awp_seq (awp_region rfl ?_))
        refine sP (opp_as (v := .int _ _) rfl rfl) rfl rfl ?_
        refine awp_block ?_
        refine awp_loopK (ι := Nat × Nat × List (List UInt8) × Bool) (fun p => Sp.msgsQ b p.1 p.2.1 p.2.2.1 = Sp.msgsQ b (Sp.fld b 1 1) 2 [] ∧ p.2.2.1.length ≤ p.2.1 ∧ p.2.1 ≤ b.length ∧ (p.2.2.2 = true ↔ p.2.2.1 = [])) (fun p => [(13, .int .i64 (p.2.1 : Int)), (157, .top), (158, .top), (159, .top), (160, .top), (161, .top), (162, .top), (163, .top), (164, .top), (165, .top), (166, .top), (167, .top), (168, .top), (169, .top), (170, .top), (171, .top), (172, .top), (173, .top), (174, .top), (175, .top), (176, .top), (177, .top), (178, .top), (179, .top), (180, .top), (181, .top), (182, .top), (183, .top), (184, .top), (185, .top), (186, .top)]) (fun p => [(12, some (.agg [cond p.2.2.2 (.sl 1 true 0 (fun _ => .top)) (.osl 1004 1 0 p.2.2.1.length p.2.2.1.length), .int .i64 (Sp.fld b 0 1 : Nat)])), (1004, cond p.2.2.2 none (some (.arr 1 p.2.2.1.length (strAt p.2.2.1))))]) [1004] (fun p => b.length - p.2.1) ((Sp.fld b 1 1, 2, [], true)) (⟨rfl, Nat.zero_le _, h2, by simp⟩) (by
         refine imp_over [] rfl rfl (by kernel_rfl) ?_ ?_
         ·iterate 31 refine And.intro wkv ?_
          exact True.intro
         ·refine And.intro (And.intro rfl (And.intro rfl (Exists.intro _ (And.intro rfl (by rw [hb0]; exact WkC.refl _))))) ?_
          exact True.intro
         ) ?_
        intro p hi1; obtain ⟨k, a, acc, e⟩ := p; rcases e with _ | _
        ·dsimp only [cond] at hi1 ⊢
         refine awp_seq (awp_seq (awp_region rfl ?_))
         refine sP (opp_mv (v := .int _ _) rfl rfl) rfl rfl ?_
         refine sP (opp_mv (v := .sl _ _ _ _) rfl rfl) rfl rfl ?_
         refine sP (opp_lenSl rfl rfl un38) rfl rfl ?_
         refine sP (opp_cmp rfl rfl rfl rfl) rfl rfl ?_
         refine awp_cond _ rfl (fun ht160 => ?_) (fun ht160 => ?_)
         ·(try simp only [cmpI, errD_nil, qa, qb, qc, qd] at ht160)
          refine awp_skip (awp_seq (awp_block ?_))
          have hba : (b.getD (Int.toNat (a : Int)) 0).toNat = Sp.fld b a 1 := (fld1 b a (by omega)).symm
          have hfa := fld_lt b a 1
          obtain ⟨m, hm1, hm2, hm3⟩ := msgsQ_more b k a acc (by rw [hi1.1]; exact hp) (by omega)
          have hlm : ((b.drop (a + 1)).take (Sp.fld b a 1)).length = Sp.fld b a 1 := by rw [List.length_take, List.length_drop]; omega
          refine awp_draw hmix rfl (by kernel_rfl) ?_
          refine dP (fun _ => false) (opp_fieldP rfl rfl fld70_0 rfl) rfl rfl ?_
          refine dP (fun n => Nat.beq n 12) (opp_loadP rfl rfl rfl rfl bi rfl ty68) rfl rfl ?_
          refine dP (fun _ => false) (opp_mv (v := .sl _ _ _ _) rfl rfl) rfl rfl ?_
          refine dP (fun _ => false) (opp_mv (v := .int _ _) rfl rfl) rfl rfl ?_
          refine dP (fun _ => false) (opp_arith rfl rfl rfl (.inl ⟨rfl, w64 (by omega)⟩)) rfl rfl ?_
          refine dP (fun _ => false) (opp_mv (v := .int _ _) rfl rfl) rfl rfl ?_
          refine dP (fun _ => false) (opp_arith rfl rfl rfl (.inl ⟨rfl, w64 (by omega)⟩)) rfl rfl ?_
          refine dP (fun _ => false) (opp_mv (v := .sl _ _ _ _) rfl rfl) rfl rfl ?_
          refine dP (fun _ => false) (opp_mv (v := .int _ _) rfl rfl) rfl rfl ?_
          refine dP (fun _ => false) (opp_indexSl rfl rfl rfl el38 (by omega) (by omega)) rfl rfl ?_
          refine dP (fun _ => false) (opp_loadF rfl rfl ty5) rfl rfl ?_
          refine dP (fun _ => false) (opp_convInt rfl rfl un5s un3 (w64 (by omega))) rfl rfl ?_
          rw [hba]
          refine dP (fun _ => false) (opp_arith rfl rfl rfl (.inl ⟨rfl, w64 (by omega)⟩)) rfl rfl ?_
          refine dP (fun _ => false) (opp_sliceSl rfl rfl rfl rfl el38 (by omega) (by omega) (by omega)) rfl rfl ?_
          refine dP (fun _ => false) (opp_bytesStr rfl rfl ((b.drop (a + 1)).take (Sp.fld b a 1)) (by rw [hlm]; omega) (fun j hj => by show _ = bAt _ j; rw [bAt_take _ _ _ (by omega), bAt_drop]; first | rfl | (congr 1; omega)) un38 unu8 un9) rfl rfl ?_
          refine dR (fun _ => false) (opr_buildSlice (n := 184) (g := fun j => if j = 0 then .str _ else .str []) rfl eb68 z9 (by decide) rfl rfl) rfl rfl rfl ?_
          refine dR (fun n => !([] : List Nat).contains n) (opr_append (d := 185) rfl rfl rfl (by omega) (.osl0 rfl (by omega)) eb68 z9 (by omega) (by omega)) rfl rfl rfl ?_
          refine dP (fun _ => false) (opp_fieldP rfl rfl fld70_0 rfl) rfl rfl ?_
          refine dR0 (fun n => Nat.beq n 12) (opr_store (v := .osl _ _ _ _ _) (trn := (.agg [.osl _ _ _ _ _, _])) rfl rfl rfl rfl bi rfl rfl rfl rfl fr2 ty68 (fun _ _ h => h)) rfl rfl rfl ?_
          refine And.intro (by kernel_rfl) ?_
          have hby4 : (b.getD (Int.toNat (a : Int)) 0).toNat < 256 := UInt8.toNat_lt _
          refine awp_region rfl ?_
          refine sP (opp_mv (v := .int _ _) rfl rfl) rfl rfl ?_
          refine sP (opp_arith rfl rfl rfl (.inl ⟨rfl, w64 (by omega)⟩)) rfl rfl ?_
          refine sP (opp_mv (v := .sl _ _ _ _) rfl rfl) rfl rfl ?_
          refine sP (opp_mv (v := .int _ _) rfl rfl) rfl rfl ?_
          refine sP (opp_indexSl rfl rfl rfl el38 (by omega) (by omega)) rfl rfl ?_
          refine sP (opp_loadF rfl rfl ty5) rfl rfl ?_
          refine sP (opp_convInt rfl rfl un5s un3 (w64 (by omega))) rfl rfl ?_
          refine sP (opp_arith rfl rfl rfl (.inl ⟨rfl, w64 (by omega)⟩)) rfl rfl ?_
          refine sP (opp_as (v := .int _ _) rfl rfl) rfl rfl ?_
          refine Exists.intro ((m, a + 1 + Sp.fld b a 1, acc ++ [(b.drop (a + 1)).take (Sp.fld b a 1)], false)) (And.intro (And.intro (And.intro (by rw [← hm3]; exact hi1.1) (And.intro (by have h3 := hi1.2.1; show (acc ++ [_]).length ≤ a + 1 + Sp.fld b a 1; rw [List.length_append, List.length_singleton]; omega) (And.intro hm2 (by simp)))) (by first | omega | (dsimp only; omega))) (by
           refine imp_over [(1004, 185)] rfl rfl (by kernel_rfl) ?_ ?_
           ·refine And.intro (by exact Or.inr (And.intro rfl (WkV.of (by show AV.int .i64 _ = AV.int .i64 _; congr 1; rw [hba]; rfl)))) ?_
            iterate 30 refine And.intro wkv ?_
            exact True.intro
           ·refine And.intro (And.intro rfl (And.intro rfl (Exists.intro _ (And.intro rfl (by exact WkC.of (by show AV.agg [AV.osl 185 1 0 _ _, AV.int IntKind.i64 (Sp.fld b 0 1 : Nat)] = AV.agg [AV.osl 185 1 0 _ _, AV.int IntKind.i64 (Sp.fld b 0 1 : Nat)]; simp)))))) ?_
            refine And.intro (And.intro rfl (And.intro rfl (Exists.intro _ (And.intro rfl (by show WkC (AV.arr 1 _ _) (AV.arr 1 _ _); rw [List.length_append]; exact WkC.arr (fun j hj => mstr_eq acc _ j (by simpa using hj))))))) ?_
            exact True.intro
           ))
         ·(try simp only [cmpI, errD_nil, qa, qb, qc, qd] at ht160)
          refine awp_exit ?_
          have hfin : acc = (Sp.msgsQ b (Sp.fld b 1 1) 2 []).1 := by rw [← hi1.1]; exact (msgsQ_done b k a acc (by rw [hi1.1]; exact hp) (by omega)).symm
          first | (have hff : (false = true ↔ acc = []) := hi1.2.2.2) | (have hac : acc = [] := hi1.2.2.2.1 rfl; refine awp_wkH 12 (.agg [.sl 1 true 0 (strAt []), .int .i64 (Sp.fld b 0 1 : Nat)]) rfl (Wk.c (.agg (.cons .sl0 (.cons .refl .nil)))) ?_)
          refine awp_region rfl ?_
          refine sP (opp_fieldP rfl rfl fld33_8 rfl) rfl rfl ?_
          refine sP (opp_loadP rfl rfl rfl rfl bi rfl ty30) rfl rfl ?_
          refine sP (opp_loadP rfl rfl rfl rfl bi rfl ty70) rfl rfl ?_
          first | (have hff : (false = true ↔ acc = []) := hi1.2.2.2; refine al_sh [(189, .agg [.sl 1 false acc.length (strAt acc), .int .i64 (Sp.fld b 0 1 : Nat)])] [(12, none), (1004, none)] hO rfl (And.intro shut True.intro) True.intro ?_) | skip
          refine sR (opr_buildSlice (n := 190) (g := fun j => if j = 0 then .agg _ else .agg [.sl 1 true 0 (fun _ => .top), .int .i64 0]) rfl eb30 z70 (by decide) rfl rfl) rfl rfl rfl ?_
          refine sR (opr_appendNil (d := 191) rfl rfl (.osl0 rfl (by omega)) eb30 z70 (by omega) (by omega) (by omega)) rfl rfl rfl ?_
          refine sP (opp_fieldP rfl rfl fld33_8 rfl) rfl rfl ?_
          refine sR0 (opr_store (v := .osl _ _ _ _ _) (trn := (.agg [_, _, _, _, _, _, _, _, .osl _ _ _ _ _, _])) rfl rfl rfl rfl bi rfl rfl rfl rfl fr2 ty30 (fun _ _ h => h)) rfl rfl rfl ?_
          refine awp_seq (awp_region rfl ?_)
          refine sP (opp_loadP rfl rfl rfl rfl bi rfl ty33) rfl rfl ?_
          refine sR0 (opr_store (v := .agg _) (trn := (.agg _)) rfl rfl rfl rfl bi rfl rfl rfl rfl fr2 ty33 (fun _ _ h => h)) rfl rfl rfl ?_
          refine awp_ret ?_
          repeat (first | refine athen_ret ?_ | refine ain_ret ?_)
          refine gpost_ret (gend1 (r0 := .agg _) true (.cell rfl rfl rfl (by exact True.intro) rfl ty33 .nil) shut rfl ?_ rfl (And.intro (Exists.intro _ (Exists.intro _ (And.intro rfl (And.intro shut (And.intro (fun h => by cases h) (And.intro ?_ rfl)))))) True.intro))
          ·exact .refl
          ·have hpe : AV.agg [AV.sl 1 false acc.length (strAt acc), AV.int .i64 (Sp.fld b 0 1 : Nat)] = ptAV (Sp.portQ b).1 := by rw [hq, ← hfin]; unfold ptAV; dsimp only; rw [show decide (acc = []) = false by rw [decide_eq_false_iff_not]; intro h; simpa using hi1.2.2.2.2 h]
           exact .arr (fun j hj => by rw [if_pos (by omega), show j = 0 by omega]; exact hpe)
        ·dsimp only [cond] at hi1 ⊢
         refine awp_seq (awp_seq (awp_region rfl ?_))
         refine sP (opp_mv (v := .int _ _) rfl rfl) rfl rfl ?_
         refine sP (opp_mv (v := .sl _ _ _ _) rfl rfl) rfl rfl ?_
         refine sP (opp_lenSl rfl rfl un38) rfl rfl ?_
         refine sP (opp_cmp rfl rfl rfl rfl) rfl rfl ?_
         refine awp_cond _ rfl (fun ht160 => ?_) (fun ht160 => ?_)
         ·(try simp only [cmpI, errD_nil, qa, qb, qc, qd] at ht160)
          refine awp_skip (awp_seq (awp_block ?_))
          have hba : (b.getD (Int.toNat (a : Int)) 0).toNat = Sp.fld b a 1 := (fld1 b a (by omega)).symm
          have hfa := fld_lt b a 1
          obtain ⟨m, hm1, hm2, hm3⟩ := msgsQ_more b k a acc (by rw [hi1.1]; exact hp) (by omega)
          have hlm : ((b.drop (a + 1)).take (Sp.fld b a 1)).length = Sp.fld b a 1 := by rw [List.length_take, List.length_drop]; omega
          refine awp_draw hmix rfl (by kernel_rfl) ?_
          refine dP (fun _ => false) (opp_fieldP rfl rfl fld70_0 rfl) rfl rfl ?_
          refine dP (fun n => Nat.beq n 12) (opp_loadP rfl rfl rfl rfl bi rfl ty68) rfl rfl ?_
          refine dP (fun _ => false) (opp_mv (v := .sl _ _ _ _) rfl rfl) rfl rfl ?_
          refine dP (fun _ => false) (opp_mv (v := .int _ _) rfl rfl) rfl rfl ?_
          refine dP (fun _ => false) (opp_arith rfl rfl rfl (.inl ⟨rfl, w64 (by omega)⟩)) rfl rfl ?_
          refine dP (fun _ => false) (opp_mv (v := .int _ _) rfl rfl) rfl rfl ?_
          refine dP (fun _ => false) (opp_arith rfl rfl rfl (.inl ⟨rfl, w64 (by omega)⟩)) rfl rfl ?_
          refine dP (fun _ => false) (opp_mv (v := .sl _ _ _ _) rfl rfl) rfl rfl ?_
          refine dP (fun _ => false) (opp_mv (v := .int _ _) rfl rfl) rfl rfl ?_
          refine dP (fun _ => false) (opp_indexSl rfl rfl rfl el38 (by omega) (by omega)) rfl rfl ?_
          refine dP (fun _ => false) (opp_loadF rfl rfl ty5) rfl rfl ?_
          refine dP (fun _ => false) (opp_convInt rfl rfl un5s un3 (w64 (by omega))) rfl rfl ?_
          rw [hba]
          refine dP (fun _ => false) (opp_arith rfl rfl rfl (.inl ⟨rfl, w64 (by omega)⟩)) rfl rfl ?_
          refine dP (fun _ => false) (opp_sliceSl rfl rfl rfl rfl el38 (by omega) (by omega) (by omega)) rfl rfl ?_
          refine dP (fun _ => false) (opp_bytesStr rfl rfl ((b.drop (a + 1)).take (Sp.fld b a 1)) (by rw [hlm]; omega) (fun j hj => by show _ = bAt _ j; rw [bAt_take _ _ _ (by omega), bAt_drop]; first | rfl | (congr 1; omega)) un38 unu8 un9) rfl rfl ?_
          refine dR (fun _ => false) (opr_buildSlice (n := 184) (g := fun j => if j = 0 then .str _ else .str []) rfl eb68 z9 (by decide) rfl rfl) rfl rfl rfl ?_
          refine dR (fun n => !([] : List Nat).contains n) (opr_appendNil (d := 185) rfl rfl (.osl0 rfl (by omega)) eb68 z9 (by omega) (by omega) (by omega)) rfl rfl rfl ?_
          refine dP (fun _ => false) (opp_fieldP rfl rfl fld70_0 rfl) rfl rfl ?_
          refine dR0 (fun n => Nat.beq n 12) (opr_store (v := .osl _ _ _ _ _) (trn := (.agg [.osl _ _ _ _ _, _])) rfl rfl rfl rfl bi rfl rfl rfl rfl fr2 ty68 (fun _ _ h => h)) rfl rfl rfl ?_
          refine And.intro (by kernel_rfl) ?_
          have hby4 : (b.getD (Int.toNat (a : Int)) 0).toNat < 256 := UInt8.toNat_lt _
          refine awp_region rfl ?_
          refine sP (opp_mv (v := .int _ _) rfl rfl) rfl rfl ?_
          refine sP (opp_arith rfl rfl rfl (.inl ⟨rfl, w64 (by omega)⟩)) rfl rfl ?_
          refine sP (opp_mv (v := .sl _ _ _ _) rfl rfl) rfl rfl ?_
          refine sP (opp_mv (v := .int _ _) rfl rfl) rfl rfl ?_
          refine sP (opp_indexSl rfl rfl rfl el38 (by omega) (by omega)) rfl rfl ?_
          refine sP (opp_loadF rfl rfl ty5) rfl rfl ?_
          refine sP (opp_convInt rfl rfl un5s un3 (w64 (by omega))) rfl rfl ?_
          refine sP (opp_arith rfl rfl rfl (.inl ⟨rfl, w64 (by omega)⟩)) rfl rfl ?_
          refine sP (opp_as (v := .int _ _) rfl rfl) rfl rfl ?_
          have hac : acc = [] := hi1.2.2.2.1 rfl
          refine Exists.intro ((m, a + 1 + Sp.fld b a 1, acc ++ [(b.drop (a + 1)).take (Sp.fld b a 1)], false)) (And.intro (And.intro (And.intro (by rw [← hm3]; exact hi1.1) (And.intro (by rw [hac]; simp; omega) (And.intro hm2 (by simp)))) (by first | omega | (dsimp only; omega))) (by
           refine imp_over [(1004, 185)] rfl rfl (by kernel_rfl) ?_ ?_
           ·refine And.intro (by exact Or.inr (And.intro rfl (WkV.of (by show AV.int .i64 _ = AV.int .i64 _; congr 1; rw [hba]; rfl)))) ?_
            iterate 30 refine And.intro wkv ?_
            exact True.intro
           ·refine And.intro (And.intro rfl (And.intro rfl (Exists.intro _ (And.intro rfl (by exact WkC.of (by show AV.agg [AV.osl 185 1 0 _ _, AV.int IntKind.i64 (Sp.fld b 0 1 : Nat)] = AV.agg [AV.osl 185 1 0 _ _, AV.int IntKind.i64 (Sp.fld b 0 1 : Nat)]; rw [hac]; simp)))))) ?_
            refine And.intro (And.intro rfl (And.intro rfl (Exists.intro _ (And.intro rfl (by show WkC (AV.arr 1 _ _) (AV.arr 1 _ _); rw [hac]; exact WkC.arr (fun j hj => by have h0 : j = 0 := (by simpa using hj); subst h0; simp [strAt])))))) ?_
            exact True.intro
           ))
         ·(try simp only [cmpI, errD_nil, qa, qb, qc, qd] at ht160)
          refine awp_exit ?_
          have hfin : acc = (Sp.msgsQ b (Sp.fld b 1 1) 2 []).1 := by rw [← hi1.1]; exact (msgsQ_done b k a acc (by rw [hi1.1]; exact hp) (by omega)).symm
          first | (have hff : (false = true ↔ acc = []) := hi1.2.2.2) | (have hac : acc = [] := hi1.2.2.2.1 rfl; refine awp_wkH 12 (.agg [.sl 1 true 0 (strAt []), .int .i64 (Sp.fld b 0 1 : Nat)]) rfl (Wk.c (.agg (.cons .sl0 (.cons .refl .nil)))) ?_)
          refine awp_region rfl ?_
          refine sP (opp_fieldP rfl rfl fld33_8 rfl) rfl rfl ?_
          refine sP (opp_loadP rfl rfl rfl rfl bi rfl ty30) rfl rfl ?_
          refine sP (opp_loadP rfl rfl rfl rfl bi rfl ty70) rfl rfl ?_
          first | (have hff : (false = true ↔ acc = []) := hi1.2.2.2; refine al_sh [(189, .agg [.sl 1 false acc.length (strAt acc), .int .i64 (Sp.fld b 0 1 : Nat)])] [(12, none), (1004, none)] hO rfl (And.intro shut True.intro) True.intro ?_) | skip
          refine sR (opr_buildSlice (n := 190) (g := fun j => if j = 0 then .agg _ else .agg [.sl 1 true 0 (fun _ => .top), .int .i64 0]) rfl eb30 z70 (by decide) rfl rfl) rfl rfl rfl ?_
          refine sR (opr_appendNil (d := 191) rfl rfl (.osl0 rfl (by omega)) eb30 z70 (by omega) (by omega) (by omega)) rfl rfl rfl ?_
          refine sP (opp_fieldP rfl rfl fld33_8 rfl) rfl rfl ?_
          refine sR0 (opr_store (v := .osl _ _ _ _ _) (trn := (.agg [_, _, _, _, _, _, _, _, .osl _ _ _ _ _, _])) rfl rfl rfl rfl bi rfl rfl rfl rfl fr2 ty30 (fun _ _ h => h)) rfl rfl rfl ?_
          refine awp_seq (awp_region rfl ?_)
          refine sP (opp_loadP rfl rfl rfl rfl bi rfl ty33) rfl rfl ?_
          refine sR0 (opr_store (v := .agg _) (trn := (.agg _)) rfl rfl rfl rfl bi rfl rfl rfl rfl fr2 ty33 (fun _ _ h => h)) rfl rfl rfl ?_
          refine awp_ret ?_
          repeat (first | refine athen_ret ?_ | refine ain_ret ?_)
          refine gpost_ret (gend1 (r0 := .agg _) true (.cell rfl rfl rfl (by exact True.intro) rfl ty33 .nil) shut rfl ?_ rfl (And.intro (Exists.intro _ (Exists.intro _ (And.intro rfl (And.intro shut (And.intro (fun h => by cases h) (And.intro ?_ rfl)))))) True.intro))
          ·exact .refl
          ·have hpe : AV.agg [AV.sl 1 true 0 (strAt []), AV.int .i64 (Sp.fld b 0 1 : Nat)] = ptAV (Sp.portQ b).1 := by rw [hq, ← hfin, hac]; rfl
           exact .arr (fun j hj => by rw [if_pos (by omega), show j = 0 by omega]; exact hpe)
       ·(try simp only [cmpI, errD_nil, qa, qb, qc, qd] at ht150)
        exfalso; first | omega | (simp at ht150; done)
set_option maxHeartbeats 1000000 in
theorem cg51j (b : List UInt8) (nn : Bool) (h0 : b.length = 65) (l : List Pg) (hl : l.length ≤ 4294967296) (v : Nat → Value) : AGen (V ea cds gl) 51 [.agg [.val (v 0), .val (v 1), .val (v 2), .val (v 3), .val (v 4), .val (v 5), .val (v 6), .val (v 7), .val (v 8), .osl 1002 66 0 l.length l.length], rcAV ⟨9, nn, b⟩] [(1002, some (.arr 66 l.length (pgAt l)))]
  (.agg [.val (v 0), .val (v 1), .val (v 2), .val (v 3), .val (v 4), .val (v 5), .val (v 6), .val (v 7), .val (v 8), .osl 216 66 0 (l.length + 1) (l.length + 1)]) [(1002, none), (216, some (.arr 66 (l.length + 1) (pgAt (l ++ [Sp.page b]))))] := by
 unfold rcAV; dsimp only
 refine agen_of_body (N := 219) Tryd.func51 rfl rfl (Nat.le_of_ble_eq_true rfl) fun C hV hN hM hO => ?_
 obtain ⟨_, _, w0, G0, σ0, _, own0⟩ := C; dsimp only at hV hN hM hO; subst hV; subst hN; subst hM
 refine awp_seq (awp_region rfl ?_)
 refine sR (opr_box (y := .agg _) (n := 2) rfl rfl rfl) rfl rfl rfl ?_
 refine sR (opr_box (y := .agg _) (n := 3) rfl rfl rfl) rfl rfl rfl ?_
 refine sR (opr_alloc (n := 4) rfl z33) rfl rfl rfl ?_
 refine awp_seq (awp_region rfl ?_)
 refine sP (opp_fieldP rfl rfl fld94_1 rfl) rfl rfl ?_
 refine sP (opp_loadP rfl rfl rfl rfl bi rfl ty38) rfl rfl ?_
 refine sP (opp_as (v := .sl _ _ _ _) rfl rfl) rfl rfl ?_
 refine awp_seq (awp_seq (awp_region rfl ?_))
 refine sP (opp_fieldP rfl rfl fld94_0 rfl) rfl rfl ?_
 refine sP (opp_loadP rfl rfl rfl rfl bi rfl ty3) rfl rfl ?_
 refine awp_block (awp_seq (awp_region rfl ?_))
 refine sP (opp_cmp rfl rfl rfl rfl) rfl rfl ?_
 refine sP (opp_as (v := .bool _) rfl rfl) rfl rfl ?_
 refine awp_cond _ rfl (fun ht20 => ?_) (fun ht20 => ?_)
 ·(try simp only [cmpI, errD_nil, qa, qb, qc, qd] at ht20)
  exfalso; first | omega | (simp at ht20; done)
 ·(try simp only [cmpI, errD_nil, qa, qb, qc, qd] at ht20)
  refine awp_seq (awp_region rfl ?_)
  refine sP (opp_cmp rfl rfl rfl rfl) rfl rfl ?_
  refine sP (opp_as (v := .bool _) rfl rfl) rfl rfl ?_
  refine awp_cond _ rfl (fun ht28 => ?_) (fun ht28 => ?_)
  ·(try simp only [cmpI, errD_nil, qa, qb, qc, qd] at ht28)
   exfalso; first | omega | (simp at ht28; done)
  ·(try simp only [cmpI, errD_nil, qa, qb, qc, qd] at ht28)
   refine awp_seq (awp_region rfl ?_)
   refine sP (opp_cmp rfl rfl rfl rfl) rfl rfl ?_
   refine sP (opp_as (v := .bool _) rfl rfl) rfl rfl ?_
   refine awp_cond _ rfl (fun ht69 => ?_) (fun ht69 => ?_)
   ·(try simp only [cmpI, errD_nil, qa, qb, qc, qd] at ht69)
    exfalso; first | omega | (simp at ht69; done)
   ·(try simp only [cmpI, errD_nil, qa, qb, qc, qd] at ht69)
    refine awp_seq (awp_region rfl ?_)
    refine sP (opp_cmp rfl rfl rfl rfl) rfl rfl ?_
    refine sP (opp_as (v := .bool _) rfl rfl) rfl rfl ?_
    refine awp_cond _ rfl (fun ht88 => ?_) (fun ht88 => ?_)
    ·(try simp only [cmpI, errD_nil, qa, qb, qc, qd] at ht88)
     exfalso; first | omega | (simp at ht88; done)
    ·(try simp only [cmpI, errD_nil, qa, qb, qc, qd] at ht88)
     refine awp_seq (awp_region rfl ?_)
     refine sP (opp_cmp rfl rfl rfl rfl) rfl rfl ?_
     refine sP (opp_as (v := .bool _) rfl rfl) rfl rfl ?_
     refine awp_cond _ rfl (fun ht112 => ?_) (fun ht112 => ?_)
     ·(try simp only [cmpI, errD_nil, qa, qb, qc, qd] at ht112)
      exfalso; first | omega | (simp at ht112; done)
     ·(try simp only [cmpI, errD_nil, qa, qb, qc, qd] at ht112)
      refine awp_seq (awp_region rfl ?_)
      refine sP (opp_cmp rfl rfl rfl rfl) rfl rfl ?_
      refine sP (opp_as (v := .bool _) rfl rfl) rfl rfl ?_
      refine awp_cond _ rfl (fun ht131 => ?_) (fun ht131 => ?_)
      ·(try simp only [cmpI, errD_nil, qa, qb, qc, qd] at ht131)
       exfalso; first | omega | (simp at ht131; done)
      ·(try simp only [cmpI, errD_nil, qa, qb, qc, qd] at ht131)
       refine awp_seq (awp_region rfl ?_)
       refine sP (opp_cmp rfl rfl rfl rfl) rfl rfl ?_
       refine sP (opp_as (v := .bool _) rfl rfl) rfl rfl ?_
       refine awp_cond _ rfl (fun ht150 => ?_) (fun ht150 => ?_)
       ·(try simp only [cmpI, errD_nil, qa, qb, qc, qd] at ht150)
        exfalso; first | omega | (simp at ht150; done)
       ·(try simp only [cmpI, errD_nil, qa, qb, qc, qd] at ht150)
        refine awp_seq (awp_region rfl ?_)
        refine sP (opp_cmp rfl rfl rfl rfl) rfl rfl ?_
        refine sP (opp_as (v := .bool _) rfl rfl) rfl rfl ?_
        refine awp_cond _ rfl (fun ht193 => ?_) (fun ht193 => ?_)
        ·(try simp only [cmpI, errD_nil, qa, qb, qc, qd] at ht193)
         refine awp_seq ?_
         have hby0 : (b.getD (Int.toNat 0) 0).toNat < 256 := UInt8.toNat_lt _
         refine awp_region rfl ?_
         refine sP (opp_mv (v := .sl _ _ _ _) rfl rfl) rfl rfl ?_
         refine sP (opp_indexSl rfl rfl rfl el38 (by omega) (by omega)) rfl rfl ?_
         refine sP (opp_loadF rfl rfl ty5) rfl rfl ?_
         refine sP (opp_cmp rfl rfl rfl rfl) rfl rfl ?_
         refine sP (opp_build rfl z80 bld80 rfl [.int .i64 0, .bool _, .arr 1 64 (fun _ => .int .u8 0)] rfl) rfl rfl ?_
         refine sR (opr_alloc (n := 14) rfl z80) rfl rfl rfl ?_
         refine sR0 (opr_store (v := .agg _) (trn := (.agg _)) rfl rfl rfl rfl bi rfl rfl rfl rfl fr2 ty80 (fun _ _ h => h)) rfl rfl rfl ?_
         refine awp_seq (awp_seq (awp_region rfl ?_))
         refine sP (opp_as (v := .int _ _) rfl rfl) rfl rfl ?_
         refine awp_block ?_
         refine awp_loopK (ι := Nat) (fun i => i ≤ 64) (fun i => [(15, .int .i64 (i : Int)), (200, .top), (201, .top), (202, .top), (203, .top), (204, .top), (205, .top), (206, .top), (207, .top), (208, .top), (209, .top), (210, .top), (211, .top)]) (fun i => [(14, some (.agg [.int .i64 0, .bool (Sp.page b).dirty, .arr 1 64 (pgA b i)]))]) [] (fun i => 64 - i) (0) (Nat.zero_le _) (by
          refine imp_over [] rfl rfl (by kernel_rfl) ?_ ?_
          ·iterate 13 refine And.intro wkv ?_
           exact True.intro
          ·refine And.intro (And.intro rfl (And.intro rfl (Exists.intro _ (And.intro rfl (by rw [← pg_dirty b]; exact Wk.c (Wk.agg (.cons .refl (.cons .refl (.cons (.arr (fun j hj => by unfold pgA; rw [if_neg (Nat.not_lt_zero j)]; rfl)) .nil))))))))) ?_
           exact True.intro
          ) ?_
         intro i hi1
         refine awp_seq (awp_seq (awp_region rfl ?_))
         refine sP (opp_mv (v := .int _ _) rfl rfl) rfl rfl ?_
         refine sP (opp_cmp rfl rfl rfl rfl) rfl rfl ?_
         refine awp_cond _ rfl (fun ht201 => ?_) (fun ht201 => ?_)
         ·(try simp only [cmpI, errD_nil, qa, qb, qc, qd] at ht201)
          refine awp_skip (awp_seq (awp_block (awp_region rfl ?_)))
          refine sP (opp_mv (v := .int _ _) rfl rfl) rfl rfl ?_
          refine sP (opp_mv (v := .sl _ _ _ _) rfl rfl) rfl rfl ?_
          refine sP (opp_mv (v := .int _ _) rfl rfl) rfl rfl ?_
          refine sP (opp_arith rfl rfl rfl (.inl ⟨rfl, w64 (by omega)⟩)) rfl rfl ?_
          refine sP (opp_indexSl rfl rfl rfl el38 (by omega) (by omega)) rfl rfl ?_
          refine sP (opp_loadF rfl rfl ty5) rfl rfl ?_
          refine sP (opp_fieldP rfl rfl fld80_2 rfl) rfl rfl ?_
          rw [show Int.toNat (1 + (i : Int)) = i + 1 by omega]
          refine sP (opp_indexArrP rfl rfl rfl arr78 (by omega) (by omega)) rfl rfl ?_
          refine sR0 (opr_store (v := .int _ _) (trn := (.agg [_, _, _])) rfl rfl rfl rfl bi rfl rfl rfl rfl fr2 ty5 (fun _ _ h => h)) rfl rfl rfl ?_
          refine awp_region rfl ?_
          refine sP (opp_mv (v := .int _ _) rfl rfl) rfl rfl ?_
          refine sP (opp_arith rfl rfl rfl (.inl ⟨rfl, w64 (by omega)⟩)) rfl rfl ?_
          refine sP (opp_as (v := .int _ _) rfl rfl) rfl rfl ?_
          refine Exists.intro (i + 1) (And.intro (And.intro (by (show i + 1 ≤ 64; omega)) (by first | omega | (dsimp only; omega))) (by
           refine imp_over [] rfl rfl (by kernel_rfl) ?_ ?_
           ·iterate 13 refine And.intro wkv ?_
            exact True.intro
           ·refine And.intro (And.intro rfl (And.intro rfl (Exists.intro _ (And.intro rfl (by show WkC (AV.agg [_, _, AV.arr 1 64 _]) (AV.agg [_, _, AV.arr 1 64 _]); exact Wk.c (Wk.agg (.cons .refl (.cons .refl (.cons (.arr (fun j hj => pgA_next b i j)) .nil))))))))) ?_
            exact True.intro
           ))
         ·(try simp only [cmpI, errD_nil, qa, qb, qc, qd] at ht201)
          refine awp_exit ?_
          have hie : i = 64 := by omega
          subst hie
          refine awp_region rfl ?_
          refine sP (opp_fieldP rfl rfl fld33_9 rfl) rfl rfl ?_
          refine sP (opp_loadP rfl rfl rfl rfl bi rfl ty31) rfl rfl ?_
          refine sP (opp_loadP rfl rfl rfl rfl bi rfl ty80) rfl rfl ?_
          refine sR (opr_buildSlice (n := 215) (g := fun j => if j = 0 then .agg _ else .agg [.int .i64 0, .bool false, .arr 1 64 (fun _ => .int .u8 0)]) rfl eb31 z80 (by decide) rfl rfl) rfl rfl rfl ?_
          refine sR (opr_append (d := 216) rfl rfl rfl (by omega) (.osl0 rfl (by omega)) eb31 z80 (by omega) (by omega)) rfl rfl rfl ?_
          refine sP (opp_fieldP rfl rfl fld33_9 rfl) rfl rfl ?_
          refine sR0 (opr_store (v := .osl _ _ _ _ _) (trn := (.agg [_, _, _, _, _, _, _, _, _, .osl _ _ _ _ _])) rfl rfl rfl rfl bi rfl rfl rfl rfl fr2 ty31 (fun _ _ h => h)) rfl rfl rfl ?_
          refine awp_seq (awp_region rfl ?_)
          refine sP (opp_loadP rfl rfl rfl rfl bi rfl ty33) rfl rfl ?_
          refine sR0 (opr_store (v := .agg _) (trn := (.agg _)) rfl rfl rfl rfl bi rfl rfl rfl rfl fr2 ty33 (fun _ _ h => h)) rfl rfl rfl ?_
          refine awp_ret ?_
          repeat (first | refine athen_ret ?_ | refine ain_ret ?_)
          refine gpost_ret (gend1 (r0 := .agg _) false (.cell rfl rfl rfl (by exact True.intro) rfl ty33 .nil) shut rfl ?_ rfl (And.intro (Exists.intro _ (Exists.intro _ (And.intro rfl (And.intro shut (And.intro (fun h => by cases h) (And.intro ?_ rfl)))))) True.intro))
          ·exact .refl
          ·exact .arr (fun j hj => by by_cases h : j < l.length; rw [if_pos h, pgAt, pgAt, snoc_lt _ _ _ _ h]; rw [if_neg h, if_pos (by omega), pgAt, snoc_eq _ _ _ _ (by omega)]; exact pgA_all b h0)
        ·(try simp only [cmpI, errD_nil, qa, qb, qc, qd] at ht193)
         exfalso; first | omega | (simp at ht193; done)
set_option maxHeartbeats 1000000 in
theorem cg51k (b : List UInt8) (nn : Bool) (h0 : b.length = 65) (f : Nat → AV) (v : Nat → Value) : AGen (V ea cds gl) 51 [.agg [.val (v 0), .val (v 1), .val (v 2), .val (v 3), .val (v 4), .val (v 5), .val (v 6), .val (v 7), .val (v 8), .sl 66 true 0 f], rcAV ⟨9, nn, b⟩] []
  (.agg [.val (v 0), .val (v 1), .val (v 2), .val (v 3), .val (v 4), .val (v 5), .val (v 6), .val (v 7), .val (v 8), .osl 216 66 0 1 1]) [(216, some (.arr 66 1 (pgAt [Sp.page b])))] := by
 unfold rcAV; dsimp only
 refine agen_of_body (N := 219) Tryd.func51 rfl rfl (Nat.le_of_ble_eq_true rfl) fun C hV hN hM hO => ?_
 obtain ⟨_, _, w0, G0, σ0, _, own0⟩ := C; dsimp only at hV hN hM hO; subst hV; subst hN; subst hM
 refine awp_seq (awp_region rfl ?_)
 refine sR (opr_box (y := .agg _) (n := 2) rfl rfl rfl) rfl rfl rfl ?_
 refine sR (opr_box (y := .agg _) (n := 3) rfl rfl rfl) rfl rfl rfl ?_
 refine sR (opr_alloc (n := 4) rfl z33) rfl rfl rfl ?_
 refine awp_seq (awp_region rfl ?_)
 refine sP (opp_fieldP rfl rfl fld94_1 rfl) rfl rfl ?_
 refine sP (opp_loadP rfl rfl rfl rfl bi rfl ty38) rfl rfl ?_
 refine sP (opp_as (v := .sl _ _ _ _) rfl rfl) rfl rfl ?_
 refine awp_seq (awp_seq (awp_region rfl ?_))
 refine sP (opp_fieldP rfl rfl fld94_0 rfl) rfl rfl ?_
 refine sP (opp_loadP rfl rfl rfl rfl bi rfl ty3) rfl rfl ?_
 refine awp_block (awp_seq (awp_region rfl ?_))
 refine sP (opp_cmp rfl rfl rfl rfl) rfl rfl ?_
 refine sP (opp_as (v := .bool _) rfl rfl) rfl rfl ?_
 refine awp_cond _ rfl (fun ht20 => ?_) (fun ht20 => ?_)
 ·(try simp only [cmpI, errD_nil, qa, qb, qc, qd] at ht20)
  exfalso; first | omega | (simp at ht20; done)
 ·(try simp only [cmpI, errD_nil, qa, qb, qc, qd] at ht20)
  refine awp_seq (awp_region rfl ?_)
  refine sP (opp_cmp rfl rfl rfl rfl) rfl rfl ?_
  refine sP (opp_as (v := .bool _) rfl rfl) rfl rfl ?_
  refine awp_cond _ rfl (fun ht28 => ?_) (fun ht28 => ?_)
  ·(try simp only [cmpI, errD_nil, qa, qb, qc, qd] at ht28)
   exfalso; first | omega | (simp at ht28; done)
  ·(try simp only [cmpI, errD_nil, qa, qb, qc, qd] at ht28)
   refine awp_seq (awp_region rfl ?_)
   refine sP (opp_cmp rfl rfl rfl rfl) rfl rfl ?_
   refine sP (opp_as (v := .bool _) rfl rfl) rfl rfl ?_
   refine awp_cond _ rfl (fun ht69 => ?_) (fun ht69 => ?_)
   ·(try simp only [cmpI, errD_nil, qa, qb, qc, qd] at ht69)
    exfalso; first | omega | (simp at ht69; done)
   ·(try simp only [cmpI, errD_nil, qa, qb, qc, qd] at ht69)
    refine awp_seq (awp_region rfl ?_)
    refine sP (opp_cmp rfl rfl rfl rfl) rfl rfl ?_
    refine sP (opp_as (v := .bool _) rfl rfl) rfl rfl ?_
    refine awp_cond _ rfl (fun ht88 => ?_) (fun ht88 => ?_)
    ·(try simp only [cmpI, errD_nil, qa, qb, qc, qd] at ht88)
     exfalso; first | omega | (simp at ht88; done)
    ·(try simp only [cmpI, errD_nil, qa, qb, qc, qd] at ht88)
     refine awp_seq (awp_region rfl ?_)
     refine sP (opp_cmp rfl rfl rfl rfl) rfl rfl ?_
     refine sP (opp_as (v := .bool _) rfl rfl) rfl rfl ?_
     refine awp_cond _ rfl (fun ht112 => ?_) (fun ht112 => ?_)
     ·(try simp only [cmpI, errD_nil, qa, qb, qc, qd] at ht112)
      exfalso; first | omega | (simp at ht112; done)
     ·(try simp only [cmpI, errD_nil, qa, qb, qc, qd] at ht112)
      refine awp_seq (awp_region rfl ?_)
      refine sP (opp_cmp rfl rfl rfl rfl) rfl rfl ?_
      refine sP (opp_as (v := .bool _) rfl rfl) rfl rfl ?_
      refine awp_cond _ rfl (fun ht131 => ?_) (fun ht131 => ?_)
      ·(try simp only [cmpI, errD_nil, qa, qb, qc, qd] at ht131)
       exfalso; first | omega | (simp at ht131; done)
      ·(try simp only [cmpI, errD_nil, qa, qb, qc, qd] at ht131)
       refine awp_seq (awp_region rfl ?_)
       refine sP (opp_cmp rfl rfl rfl rfl) rfl rfl ?_
       refine sP (opp_as (v := .bool _) rfl rfl) rfl rfl ?_
       refine awp_cond _ rfl (fun ht150 => ?_) (fun ht150 => ?_)
       ·(try simp only [cmpI, errD_nil, qa, qb, qc, qd] at ht150)
        exfalso; first | omega | (simp at ht150; done)
       ·(try simp only [cmpI, errD_nil, qa, qb, qc, qd] at ht150)
        refine awp_seq (awp_region rfl ?_)
        refine sP (opp_cmp rfl rfl rfl rfl) rfl rfl ?_
        refine sP (opp_as (v := .bool _) rfl rfl) rfl rfl ?_
        refine awp_cond _ rfl (fun ht193 => ?_) (fun ht193 => ?_)
        ·(try simp only [cmpI, errD_nil, qa, qb, qc, qd] at ht193)
         refine awp_seq ?_
         have hby0 : (b.getD (Int.toNat 0) 0).toNat < 256 := UInt8.toNat_lt _
         refine awp_region rfl ?_
         refine sP (opp_mv (v := .sl _ _ _ _) rfl rfl) rfl rfl ?_
         refine sP (opp_indexSl rfl rfl rfl el38 (by omega) (by omega)) rfl rfl ?_
         refine sP (opp_loadF rfl rfl ty5) rfl rfl ?_
         refine sP (opp_cmp rfl rfl rfl rfl) rfl rfl ?_
         refine sP (opp_build rfl z80 bld80 rfl [.int .i64 0, .bool _, .arr 1 64 (fun _ => .int .u8 0)] rfl) rfl rfl ?_
         refine sR (opr_alloc (n := 14) rfl z80) rfl rfl rfl ?_
         refine sR0 (opr_store (v := .agg _) (trn := (.agg _)) rfl rfl rfl rfl bi rfl rfl rfl rfl fr2 ty80 (fun _ _ h => h)) rfl rfl rfl ?_
         refine awp_seq (awp_seq (awp_region rfl ?_))
         refine sP (opp_as (v := .int _ _) rfl rfl) rfl rfl ?_
         refine awp_block ?_
         refine awp_loopK (ι := Nat) (fun i => i ≤ 64) (fun i => [(15, .int .i64 (i : Int)), (200, .top), (201, .top), (202, .top), (203, .top), (204, .top), (205, .top), (206, .top), (207, .top), (208, .top), (209, .top), (210, .top), (211, .top)]) (fun i => [(14, some (.agg [.int .i64 0, .bool (Sp.page b).dirty, .arr 1 64 (pgA b i)]))]) [] (fun i => 64 - i) (0) (Nat.zero_le _) (by
          refine imp_over [] rfl rfl (by kernel_rfl) ?_ ?_
          ·iterate 13 refine And.intro wkv ?_
           exact True.intro
          ·refine And.intro (And.intro rfl (And.intro rfl (Exists.intro _ (And.intro rfl (by rw [← pg_dirty b]; exact Wk.c (Wk.agg (.cons .refl (.cons .refl (.cons (.arr (fun j hj => by unfold pgA; rw [if_neg (Nat.not_lt_zero j)]; rfl)) .nil))))))))) ?_
           exact True.intro
          ) ?_
         intro i hi1
         refine awp_seq (awp_seq (awp_region rfl ?_))
         refine sP (opp_mv (v := .int _ _) rfl rfl) rfl rfl ?_
         refine sP (opp_cmp rfl rfl rfl rfl) rfl rfl ?_
         refine awp_cond _ rfl (fun ht201 => ?_) (fun ht201 => ?_)
         ·(try simp only [cmpI, errD_nil, qa, qb, qc, qd] at ht201)
          refine awp_skip (awp_seq (awp_block (awp_region rfl ?_)))
          refine sP (opp_mv (v := .int _ _) rfl rfl) rfl rfl ?_
          refine sP (opp_mv (v := .sl _ _ _ _) rfl rfl) rfl rfl ?_
          refine sP (opp_mv (v := .int _ _) rfl rfl) rfl rfl ?_
          refine sP (opp_arith rfl rfl rfl (.inl ⟨rfl, w64 (by omega)⟩)) rfl rfl ?_
          refine sP (opp_indexSl rfl rfl rfl el38 (by omega) (by omega)) rfl rfl ?_
          refine sP (opp_loadF rfl rfl ty5) rfl rfl ?_
          refine sP (opp_fieldP rfl rfl fld80_2 rfl) rfl rfl ?_
          rw [show Int.toNat (1 + (i : Int)) = i + 1 by omega]
          refine sP (opp_indexArrP rfl rfl rfl arr78 (by omega) (by omega)) rfl rfl ?_
          refine sR0 (opr_store (v := .int _ _) (trn := (.agg [_, _, _])) rfl rfl rfl rfl bi rfl rfl rfl rfl fr2 ty5 (fun _ _ h => h)) rfl rfl rfl ?_
          refine awp_region rfl ?_
          refine sP (opp_mv (v := .int _ _) rfl rfl) rfl rfl ?_
          refine sP (opp_arith rfl rfl rfl (.inl ⟨rfl, w64 (by omega)⟩)) rfl rfl ?_
          refine sP (opp_as (v := .int _ _) rfl rfl) rfl rfl ?_
          refine Exists.intro (i + 1) (And.intro (And.intro (by (show i + 1 ≤ 64; omega)) (by first | omega | (dsimp only; omega))) (by
           refine imp_over [] rfl rfl (by kernel_rfl) ?_ ?_
           ·iterate 13 refine And.intro wkv ?_
            exact True.intro
           ·refine And.intro (And.intro rfl (And.intro rfl (Exists.intro _ (And.intro rfl (by show WkC (AV.agg [_, _, AV.arr 1 64 _]) (AV.agg [_, _, AV.arr 1 64 _]); exact Wk.c (Wk.agg (.cons .refl (.cons .refl (.cons (.arr (fun j hj => pgA_next b i j)) .nil))))))))) ?_
            exact True.intro
           ))
         ·(try simp only [cmpI, errD_nil, qa, qb, qc, qd] at ht201)
          refine awp_exit ?_
          have hie : i = 64 := by omega
          subst hie
          refine awp_region rfl ?_
          refine sP (opp_fieldP rfl rfl fld33_9 rfl) rfl rfl ?_
          refine sP (opp_loadP rfl rfl rfl rfl bi rfl ty31) rfl rfl ?_
          refine sP (opp_loadP rfl rfl rfl rfl bi rfl ty80) rfl rfl ?_
          refine sR (opr_buildSlice (n := 215) (g := fun j => if j = 0 then .agg _ else .agg [.int .i64 0, .bool false, .arr 1 64 (fun _ => .int .u8 0)]) rfl eb31 z80 (by decide) rfl rfl) rfl rfl rfl ?_
          refine sR (opr_appendNil (d := 216) rfl rfl (.osl0 rfl (by omega)) eb31 z80 (by omega) (by omega) (by omega)) rfl rfl rfl ?_
          refine sP (opp_fieldP rfl rfl fld33_9 rfl) rfl rfl ?_
          refine sR0 (opr_store (v := .osl _ _ _ _ _) (trn := (.agg [_, _, _, _, _, _, _, _, _, .osl _ _ _ _ _])) rfl rfl rfl rfl bi rfl rfl rfl rfl fr2 ty31 (fun _ _ h => h)) rfl rfl rfl ?_
          refine awp_seq (awp_region rfl ?_)
          refine sP (opp_loadP rfl rfl rfl rfl bi rfl ty33) rfl rfl ?_
          refine sR0 (opr_store (v := .agg _) (trn := (.agg _)) rfl rfl rfl rfl bi rfl rfl rfl rfl fr2 ty33 (fun _ _ h => h)) rfl rfl rfl ?_
          refine awp_ret ?_
          repeat (first | refine athen_ret ?_ | refine ain_ret ?_)
          refine gpost_ret (gend1 (r0 := .agg _) true (.cell rfl rfl rfl (by exact True.intro) rfl ty33 .nil) shut rfl ?_ rfl (And.intro (Exists.intro _ (Exists.intro _ (And.intro rfl (And.intro shut (And.intro (fun h => by cases h) (And.intro ?_ rfl)))))) True.intro))
          ·exact .refl
          ·exact .arr (fun j hj => by rw [if_pos (by omega), show j = 0 by omega]; exact pgA_all b h0)
        ·(try simp only [cmpI, errD_nil, qa, qb, qc, qd] at ht193)
         exfalso; first | omega | (simp at ht193; done)
set_option maxHeartbeats 1000000 in
theorem cg51l (b : List UInt8) (nn : Bool) (t : Int) (h1 : t ≠ 1) (h3 : t ≠ 3) (h4 : t ≠ 4) (h5 : t ≠ 5) (h6 : t ≠ 6) (h7 : t ≠ 7) (h8 : t ≠ 8) (h9 : t ≠ 9) (v : Nat → Value) : AGen (V ea cds gl) 51 [.agg [.val (v 0), .val (v 1), .val (v 2), .val (v 3), .val (v 4), .val (v 5), .val (v 6), .val (v 7), .val (v 8), .val (v 9)], rcAV ⟨t, nn, b⟩] []
  (.agg [.val (v 0), .val (v 1), .val (v 2), .val (v 3), .val (v 4), .val (v 5), .val (v 6), .val (v 7), .val (v 8), .val (v 9)]) [] := by
 unfold rcAV; dsimp only
 refine agen_of_body (N := 219) Tryd.func51 rfl rfl (Nat.le_of_ble_eq_true rfl) fun C hV hN hM hO => ?_
 obtain ⟨_, _, w0, G0, σ0, _, own0⟩ := C; dsimp only at hV hN hM hO; subst hV; subst hN; subst hM
 refine awp_seq (awp_region rfl ?_)
 refine sR (opr_box (y := .agg _) (n := 2) rfl rfl rfl) rfl rfl rfl ?_
 refine sR (opr_box (y := .agg _) (n := 3) rfl rfl rfl) rfl rfl rfl ?_
 refine sR (opr_alloc (n := 4) rfl z33) rfl rfl rfl ?_
 refine awp_seq (awp_region rfl ?_)
 refine sP (opp_fieldP rfl rfl fld94_1 rfl) rfl rfl ?_
 refine sP (opp_loadP rfl rfl rfl rfl bi rfl ty38) rfl rfl ?_
 refine sP (opp_as (v := .sl _ _ _ _) rfl rfl) rfl rfl ?_
 refine awp_seq (awp_seq (awp_region rfl ?_))
 refine sP (opp_fieldP rfl rfl fld94_0 rfl) rfl rfl ?_
 refine sP (opp_loadP rfl rfl rfl rfl bi rfl ty3) rfl rfl ?_
 refine awp_block (awp_seq (awp_region rfl ?_))
 refine sP (opp_cmp rfl rfl rfl rfl) rfl rfl ?_
 refine sP (opp_as (v := .bool _) rfl rfl) rfl rfl ?_
 refine awp_cond _ rfl (fun ht20 => ?_) (fun ht20 => ?_)
 ·(try simp only [cmpI, errD_nil, qa, qb, qc, qd] at ht20)
  exfalso; omega
 ·(try simp only [cmpI, errD_nil, qa, qb, qc, qd] at ht20)
  refine awp_seq (awp_region rfl ?_)
  refine sP (opp_cmp rfl rfl rfl rfl) rfl rfl ?_
  refine sP (opp_as (v := .bool _) rfl rfl) rfl rfl ?_
  refine awp_cond _ rfl (fun ht28 => ?_) (fun ht28 => ?_)
  ·(try simp only [cmpI, errD_nil, qa, qb, qc, qd] at ht28)
   exfalso; omega
  ·(try simp only [cmpI, errD_nil, qa, qb, qc, qd] at ht28)
   refine awp_seq (awp_region rfl ?_)
   refine sP (opp_cmp rfl rfl rfl rfl) rfl rfl ?_
   refine sP (opp_as (v := .bool _) rfl rfl) rfl rfl ?_
   refine awp_cond _ rfl (fun ht69 => ?_) (fun ht69 => ?_)
   ·(try simp only [cmpI, errD_nil, qa, qb, qc, qd] at ht69)
    exfalso; omega
   ·(try simp only [cmpI, errD_nil, qa, qb, qc, qd] at ht69)
    refine awp_seq (awp_region rfl ?_)
    refine sP (opp_cmp rfl rfl rfl rfl) rfl rfl ?_
    refine sP (opp_as (v := .bool _) rfl rfl) rfl rfl ?_
    refine awp_cond _ rfl (fun ht88 => ?_) (fun ht88 => ?_)
    ·(try simp only [cmpI, errD_nil, qa, qb, qc, qd] at ht88)
     exfalso; omega
    ·(try simp only [cmpI, errD_nil, qa, qb, qc, qd] at ht88)
     refine awp_seq (awp_region rfl ?_)
     refine sP (opp_cmp rfl rfl rfl rfl) rfl rfl ?_
     refine sP (opp_as (v := .bool _) rfl rfl) rfl rfl ?_
     refine awp_cond _ rfl (fun ht112 => ?_) (fun ht112 => ?_)
     ·(try simp only [cmpI, errD_nil, qa, qb, qc, qd] at ht112)
      exfalso; omega
     ·(try simp only [cmpI, errD_nil, qa, qb, qc, qd] at ht112)
      refine awp_seq (awp_region rfl ?_)
      refine sP (opp_cmp rfl rfl rfl rfl) rfl rfl ?_
      refine sP (opp_as (v := .bool _) rfl rfl) rfl rfl ?_
      refine awp_cond _ rfl (fun ht131 => ?_) (fun ht131 => ?_)
      ·(try simp only [cmpI, errD_nil, qa, qb, qc, qd] at ht131)
       exfalso; omega
      ·(try simp only [cmpI, errD_nil, qa, qb, qc, qd] at ht131)
       refine awp_seq (awp_region rfl ?_)
       refine sP (opp_cmp rfl rfl rfl rfl) rfl rfl ?_
       refine sP (opp_as (v := .bool _) rfl rfl) rfl rfl ?_
       refine awp_cond _ rfl (fun ht150 => ?_) (fun ht150 => ?_)
       ·(try simp only [cmpI, errD_nil, qa, qb, qc, qd] at ht150)
        exfalso; omega
       ·(try simp only [cmpI, errD_nil, qa, qb, qc, qd] at ht150)
        refine awp_seq (awp_region rfl ?_)
        refine sP (opp_cmp rfl rfl rfl rfl) rfl rfl ?_
        refine sP (opp_as (v := .bool _) rfl rfl) rfl rfl ?_
        refine awp_cond _ rfl (fun ht193 => ?_) (fun ht193 => ?_)
        ·(try simp only [cmpI, errD_nil, qa, qb, qc, qd] at ht193)
         exfalso; omega
        ·(try simp only [cmpI, errD_nil, qa, qb, qc, qd] at ht193)
         refine awp_skip (awp_seq (awp_region rfl ?_))
         refine sP (opp_loadP rfl rfl rfl rfl bi rfl ty33) rfl rfl ?_
         refine sR0 (opr_store (v := .agg _) (trn := (.agg _)) rfl rfl rfl rfl bi rfl rfl rfl rfl fr2 ty33 (fun _ _ h => h)) rfl rfl rfl ?_
         refine awp_ret ?_
         repeat (first | refine athen_ret ?_ | refine ain_ret ?_)
         refine gpost_ret (gend1 (r0 := .agg _) true (.cell rfl rfl rfl (by exact True.intro) rfl ty33 .nil) shut rfl ?_ rfl True.intro)
         ·exact .refl
end
end Go.Proofs.YtpmgdmbcdohgcaaDoor
/- The document's answers for layer 16: the state that records say (walks over this dump). -/
namespace Go.Proofs.YtpmgdmbcdohgcaaDoor
attribute [local irreducible] Tryd.prog
open Go.Fy
set_option linter.unusedSimpArgs false
set_option linter.unusedVariables false
theorem long_8 {b : List UInt8} {n : Bool} (h : Sp.long ⟨8, n, b⟩ = true) : (Sp.portQ b).2 = true := by simpa [Sp.long] using h
theorem rowA_sz (e : Bool) (i z n : Nat) : (rowA e i z n).sz = 1 := by cases e <;> rfl
theorem tyw {P : Program} {t : TypeId} {b : Bool} {n m : Nat} (h : tyOf P t = some (b, n)) (e : n = m := by first | rfl | (simp only [staB, AV.sz, AV.szL, rowA_sz, rowV]; done)) : tyOf P t = some (b, m) := e ▸ h
section
variable {ea : Nat → Addr} {cds : List Nat} {gl : Nat → Option AV}
set_option maxRecDepth 100000 in
set_option maxHeartbeats 4000000 in
theorem c22 (l : List Rc) (nn : Bool) (hn : ∀ r ∈ l, r.nn = false) (hb : ∀ r ∈ l, r.body.length ≤ 4294967296) (hl : l.length ≤ 4294967296) : APure (V ea cds gl) 22 [.sl 2 nn l.length (rcAt l)] false (.tup [staAV (Sp.fill l).1, erAV (Sp.fill l).2]) := by
 refine acalls_of_body (N := 45) Tryd.func22 rfl rfl (Nat.le_of_ble_eq_true rfl) fun C hV hN hM hO => ?_
 obtain ⟨_, _, w0, G0, σ0, _, own0⟩ := C; dsimp only at hV hN hM hO; subst hV; subst hN; subst hM
 refine awp_seq (awp_region rfl ?_)
 refine sR (opr_alloc (n := 2) rfl z33) rfl rfl rfl ?_
 refine sR (opr_alloc (n := 3) rfl z52) rfl rfl rfl ?_
 refine awp_seq (awp_seq (awp_region rfl ?_))
 refine sP (opp_as (v := .int _ _) rfl rfl) rfl rfl ?_
 refine awp_block ?_
 refine awp_loopK (ι := Nat) (fun i => i ≤ l.length ∧ Sp.wrong (l.drop i) i = Sp.wrong l 0) (fun i => [(4, .int .i64 (i : Int)), (7, .top), (8, .top), (9, .top), (10, .top), (11, .top), (12, .top), (13, .top), (14, .top), (15, .top), (16, .top), (17, .top), (18, .top), (19, .top), (20, .top), (21, .top), (22, .top), (23, .top), (24, .top), (25, .top), (26, .top), (27, .top), (28, .top), (29, .top), (30, .top)]) (fun i => []) [] (fun i => l.length - i) (0) (⟨Nat.zero_le _, rfl⟩) (by
  refine imp_over [] rfl rfl (by kernel_rfl) ?_ ?_
  ·iterate 25 refine And.intro wkv ?_
   exact True.intro
  ·exact True.intro
  ) ?_
 intro i hi1
 refine awp_seq (awp_seq (awp_region rfl ?_))
 refine sP (opp_mv (v := .int _ _) rfl rfl) rfl rfl ?_
 first
  | refine sP (opp_mv (v := .sl _ _ _ _) rfl rfl) rfl rfl ?_
  | refine sP (opp_mv (v := .osl _ _ _ _ _) rfl rfl) rfl rfl ?_
 first
  | refine sP (opp_lenSl rfl rfl un54) rfl rfl ?_
  | refine sP (opp_lenOsl rfl rfl un54) rfl rfl ?_
 refine sP (opp_cmp rfl rfl rfl rfl) rfl rfl ?_
 refine awp_cond _ rfl (fun ht10 => ?_) (fun ht10 => ?_)
 ·(try simp only [cmpI, errD_nil, qa, qb, qc, qd] at ht10)
  refine awp_skip (awp_seq (awp_block (awp_seq (awp_seq ?_))))
  have hlt : i < l.length := by omega
  have hrm := rc_mem l i hlt
  have hrn := hn _ hrm
  have hrb := hb _ hrm
  have hw := hi1.2
  rw [drop_rc l i hlt, wrong_cons] at hw
  refine awp_region rfl ?_
  first
   | refine sP (opp_mv (v := .sl _ _ _ _) rfl rfl) rfl rfl ?_
   | refine sP (opp_mv (v := .osl _ _ _ _ _) rfl rfl) rfl rfl ?_
  refine sP (opp_mv (v := .int _ _) rfl rfl) rfl rfl ?_
  first
   | refine sP (opp_indexSl rfl rfl rfl el54 (by omega) (by omega)) rfl rfl ?_
   | refine sP (opp_indexOsl0 rfl rfl rfl el54 (by omega) (by omega)) rfl rfl ?_
   | refine sP (opp_indexOsl rfl rfl rfl el54 (by omega) (by omega)) rfl rfl ?_
  first
   | refine sP (opp_loadP rfl rfl rfl rfl bi rfl (tyw ty94)) rfl rfl ?_
   | refine sP (opp_loadF rfl rfl (tyw ty94)) rfl rfl ?_
  refine sR (opr_call rfl rfl ent49 rfl (c49 (l.getD (Int.toNat (i : Int)) rc0) (by show (l.getD i rc0).body.length ≤ _; omega)) (AViews.refl _ rfl)) rfl rfl rfl ?_ -- d=17 t=4 a=16
  refine sP (opp_not rfl rfl) rfl rfl ?_
  refine awp_cond _ rfl (fun ht18 => ?_) (fun ht18 => ?_)
  ·(try simp only [cmpI, errD_nil, qa, qb, qc, qd] at ht18)
   refine awp_seq (awp_region rfl ?_)
   refine sP (opp_build rfl z33 bld33 rfl [.int .i64 0, .int .i64 0, .int .i64 0, .sl 21 true 0 (fun _ => .top), .sl 1 true 0 (fun _ => .top), .sl 2 true 0 (fun _ => .top), .sl 1 true 0 (fun _ => .top), .sl 1 true 0 (fun _ => .top), .sl 2 true 0 (fun _ => .top), .sl 66 true 0 (fun _ => .top)] rfl) rfl rfl ?_
   refine sP (opp_mv (v := .int _ _) rfl rfl) rfl rfl ?_
   refine sP (opp_build rfl z52 bld52 rfl [.int _ _, .int _ _] rfl) rfl rfl ?_
   refine sR0 (opr_store (v := .agg _) (trn := (.agg _)) rfl rfl rfl rfl bi rfl rfl rfl rfl fr2 (tyw ty33) (fun _ _ h => h)) rfl rfl rfl ?_
   refine sR0 (opr_store (v := .agg _) (trn := (.agg _)) rfl rfl rfl rfl bi rfl rfl rfl rfl fr2 (tyw ty52) (fun _ _ h => h)) rfl rfl rfl ?_
   refine awp_ret ?_
   repeat (first | refine athen_ret ?_ | refine ain_ret ?_)
   first
    | refine apost_ret (aend (l := [.agg _, .agg _]) (.cell rfl rfl rfl (by exact True.intro) rfl (tyw ty33) (.cell rfl rfl rfl (by exact True.intro) rfl (tyw ty52) .nil)) (fun h => by cases h) (.cons (.noN rfl rfl) (.cons (.noN rfl rfl) .nil)) ⟨Wk.v ?_, rfl, rfl⟩)
    | refine apost_ret (aends (l := [.agg _, .agg _]) (.cell rfl rfl rfl (by exact True.intro) rfl (tyw ty33) (.cell rfl rfl rfl (by exact True.intro) rfl (tyw ty52) .nil)) (fun h => by cases h) (.cons shut (fun h => by cases h) (.cons shut (fun h => by cases h) .nil)) rfl ⟨Wk.v ?_, rfl, rfl⟩)
   rw [if_pos (show Sp.long (l.getD i rc0) = false from ht18)] at hw
   rw [show Sp.fill l = (sta0, Sp.ea 5 i) from by unfold Sp.fill; rw [← hw]; rfl]
   exact .tup (.cons (.agg (.cons .refl (.cons .refl (.cons .refl (.cons .sl0 (.cons .sl0 (.cons .sl0 (.cons .sl0 (.cons .sl0 (.cons .sl0 (.cons .sl0 .nil))))))))))) (.cons .refl .nil))
  ·(try simp only [cmpI, errD_nil, qa, qb, qc, qd] at ht18)
   refine awp_skip (awp_seq (awp_region rfl ?_))
   first
    | refine sP (opp_mv (v := .sl _ _ _ _) rfl rfl) rfl rfl ?_
    | refine sP (opp_mv (v := .osl _ _ _ _ _) rfl rfl) rfl rfl ?_
   refine sP (opp_mv (v := .int _ _) rfl rfl) rfl rfl ?_
   first
    | refine sP (opp_indexSl rfl rfl rfl el54 (by omega) (by omega)) rfl rfl ?_
    | refine sP (opp_indexOsl0 rfl rfl rfl el54 (by omega) (by omega)) rfl rfl ?_
    | refine sP (opp_indexOsl rfl rfl rfl el54 (by omega) (by omega)) rfl rfl ?_
   first
    | refine sP (opp_loadP rfl rfl rfl rfl bi rfl (tyw ty94)) rfl rfl ?_
    | refine sP (opp_loadF rfl rfl (tyw ty94)) rfl rfl ?_
   refine sR (opr_call rfl rfl ent50 rfl (c50 (l.getD (Int.toNat (i : Int)) rc0) (by show (l.getD i rc0).body.length ≤ _; omega) (fun h9 => by have := long_t9 h9 ht18; omega)) (AViews.refl _ rfl)) rfl rfl rfl ?_ -- d=26 t=4 a=25
   refine sP (opp_not rfl rfl) rfl rfl ?_
   refine awp_cond _ rfl (fun ht27 => ?_) (fun ht27 => ?_)
   ·(try simp only [cmpI, errD_nil, qa, qb, qc, qd] at ht27)
    refine awp_seq (awp_region rfl ?_)
    refine sP (opp_build rfl z33 bld33 rfl [.int .i64 0, .int .i64 0, .int .i64 0, .sl 21 true 0 (fun _ => .top), .sl 1 true 0 (fun _ => .top), .sl 2 true 0 (fun _ => .top), .sl 1 true 0 (fun _ => .top), .sl 1 true 0 (fun _ => .top), .sl 2 true 0 (fun _ => .top), .sl 66 true 0 (fun _ => .top)] rfl) rfl rfl ?_
    refine sP (opp_mv (v := .int _ _) rfl rfl) rfl rfl ?_
    refine sP (opp_build rfl z52 bld52 rfl [.int _ _, .int _ _] rfl) rfl rfl ?_
    refine sR0 (opr_store (v := .agg _) (trn := (.agg _)) rfl rfl rfl rfl bi rfl rfl rfl rfl fr2 (tyw ty33) (fun _ _ h => h)) rfl rfl rfl ?_
    refine sR0 (opr_store (v := .agg _) (trn := (.agg _)) rfl rfl rfl rfl bi rfl rfl rfl rfl fr2 (tyw ty52) (fun _ _ h => h)) rfl rfl rfl ?_
    refine awp_ret ?_
    repeat (first | refine athen_ret ?_ | refine ain_ret ?_)
    first
     | refine apost_ret (aend (l := [.agg _, .agg _]) (.cell rfl rfl rfl (by exact True.intro) rfl (tyw ty33) (.cell rfl rfl rfl (by exact True.intro) rfl (tyw ty52) .nil)) (fun h => by cases h) (.cons (.noN rfl rfl) (.cons (.noN rfl rfl) .nil)) ⟨Wk.v ?_, rfl, rfl⟩)
     | refine apost_ret (aends (l := [.agg _, .agg _]) (.cell rfl rfl rfl (by exact True.intro) rfl (tyw ty33) (.cell rfl rfl rfl (by exact True.intro) rfl (tyw ty52) .nil)) (fun h => by cases h) (.cons shut (fun h => by cases h) (.cons shut (fun h => by cases h) .nil)) rfl ⟨Wk.v ?_, rfl, rfl⟩)
    rw [if_neg (by rw [show Sp.long (l.getD i rc0) = true from ht18]; simp), if_pos (show Sp.flags (l.getD i rc0) = false from ht27)] at hw
    rw [show Sp.fill l = (sta0, Sp.ea 4 i) from by unfold Sp.fill; rw [← hw]; rfl]
    exact .tup (.cons (.agg (.cons .refl (.cons .refl (.cons .refl (.cons .sl0 (.cons .sl0 (.cons .sl0 (.cons .sl0 (.cons .sl0 (.cons .sl0 (.cons .sl0 .nil))))))))))) (.cons .refl .nil))
   ·(try simp only [cmpI, errD_nil, qa, qb, qc, qd] at ht27)
    refine awp_skip (awp_region rfl ?_)
    refine sP (opp_mv (v := .int _ _) rfl rfl) rfl rfl ?_
    first
     | refine sP (opp_arith rfl rfl rfl (.inl ⟨rfl, w64 (by omega)⟩)) rfl rfl ?_
     | refine sP (opp_arith rfl rfl rfl (.inl ⟨rfl, rfl⟩)) rfl rfl ?_
    refine sP (opp_as (v := .int _ _) rfl rfl) rfl rfl ?_
    rw [if_neg (by rw [show Sp.long (l.getD i rc0) = true from ht18]; simp), if_neg (by rw [show Sp.flags (l.getD i rc0) = true from ht27]; simp)] at hw
    refine Exists.intro (i + 1) (And.intro (And.intro (And.intro (by show i + 1 ≤ _; omega) hw) (by first | omega | (dsimp only; omega))) (by
     refine imp_over [] rfl rfl (by kernel_rfl) ?_ ?_
     ·iterate 25 refine And.intro wkv ?_
      exact True.intro
     ·exact True.intro
     ))
 ·(try simp only [cmpI, errD_nil, qa, qb, qc, qd] at ht10)
  refine awp_exit (awp_seq ?_)
  have hie : i = l.length := by omega
  have hwr : Sp.wrong l 0 = Sp.e0 := by rw [← hi1.2, hie, List.drop_length]; rfl
  have hall := wrong_all l 0 (by rw [hwr]; rfl)
  refine awp_region rfl ?_
  refine sR (opr_alloc (n := 5) rfl z33) rfl rfl rfl ?_
  refine awp_seq (awp_seq (awp_region rfl ?_))
  refine sP (opp_as (v := .int _ _) rfl rfl) rfl rfl ?_
  refine awp_block ?_
  refine awp_loopK (ι := Nat × Bool × Bool × Bool × Sta) (fun p => p.1 ≤ l.length ∧ (l.take p.1).foldl Sp.putR sta0 = p.2.2.2.2 ∧ StaOK p.2.1 p.2.2.1 p.2.2.2.1 p.1 p.2.2.2.2) (fun p => [(6, .int .i64 (p.1 : Int)), (31, .top), (32, .top), (33, .top), (34, .top), (35, .top), (36, .top), (37, .top), (38, .top), (39, .top), (40, .top), (41, .top), (42, .top)]) (fun p => [(5, some (staB p.2.1 p.2.2.1 p.2.2.2.1 p.2.2.2.2)), (1003, rowB p.2.1 21 p.2.2.2.2.procs.length (prAt p.2.2.2.2.procs)), (1008, rowB p.2.2.1 2 p.2.2.2.2.ports.length (ptAt p.2.2.2.2.ports)), (1009, rowB p.2.2.2.1 66 p.2.2.2.2.pages.length (pgAt p.2.2.2.2.pages))]) [1003, 1008, 1009] (fun p => l.length - p.1) ((0, true, true, true, sta0)) (⟨Nat.zero_le _, rfl, by simp [sta0], by simp [sta0], by simp [sta0], Nat.zero_le _, Nat.zero_le _, Nat.zero_le _⟩) (by
   refine imp_over [] rfl rfl (by kernel_rfl) ?_ ?_
   ·iterate 13 refine And.intro wkv ?_
    exact True.intro
   ·refine And.intro (And.intro rfl (And.intro rfl (Exists.intro _ (And.intro rfl (by exact Wk.c (.agg (.cons .refl (.cons .refl (.cons .refl (.cons .sl0 (.cons .sl0 (.cons .sl0 (.cons .sl0 (.cons .sl0 (.cons .sl0 (.cons .sl0 .nil)))))))))))))))) ?_
    exact True.intro
   ) ?_
  intro p hi2; obtain ⟨i, e3, e8, e9, S⟩ := p; obtain ⟨hi, hS, hk⟩ := hi2; dsimp only at hi hS hk ⊢; by_cases hlt : i < l.length; (have hrm := rc_mem l i hlt); (have hrn := hn _ hrm); (have hrb := hb _ hrm); (have hra := hall _ hrm); (have hnx := fold_rc l i hlt); (rw [hS] at hnx); (obtain ⟨r, hr⟩ : ∃ r, l.getD i rc0 = r := ⟨_, rfl⟩); (rw [hr] at hrm hrn hrb hra hnx); (obtain ⟨tag, nr, b⟩ := r); (obtain rfl : nr = false := hrn); (have hcell : rcAt l (Int.toNat (i : Int)) = rcAV ⟨tag, false, b⟩ := congrArg rcAV hr); (rcases put_cases tag e3 e8 e9 with rfl | ⟨rfl, rfl⟩ | ⟨rfl, rfl⟩ | rfl | rfl | rfl | rfl | ⟨rfl, rfl⟩ | ⟨rfl, rfl⟩ | ⟨rfl, rfl⟩ | ⟨rfl, rfl⟩ | hx)
  ·skip
   refine awp_seq (awp_seq (awp_region rfl ?_))
   refine sP (opp_mv (v := .int _ _) rfl rfl) rfl rfl ?_
   first
    | refine sP (opp_mv (v := .sl _ _ _ _) rfl rfl) rfl rfl ?_
    | refine sP (opp_mv (v := .osl _ _ _ _ _) rfl rfl) rfl rfl ?_
   first
    | refine sP (opp_lenSl rfl rfl un54) rfl rfl ?_
    | refine sP (opp_lenOsl rfl rfl un54) rfl rfl ?_
   refine sP (opp_cmp rfl rfl rfl rfl) rfl rfl ?_
   refine awp_cond _ rfl (fun ht34 => ?_) (fun ht34 => ?_)
   ·(try simp only [cmpI, errD_nil, qa, qb, qc, qd] at ht34)
    refine awp_skip (awp_seq (awp_block ?_))
    refine awp_draw hmix rfl (by kernel_rfl) ?_
    first
     | refine dP (fun n => Nat.beq n 5) (opp_loadP rfl rfl rfl rfl bi rfl (tyw ty33)) rfl rfl ?_
     | refine dP (fun n => Nat.beq n 5) (opp_loadF rfl rfl (tyw ty33)) rfl rfl ?_
    first
     | refine dP (fun _ => false) (opp_mv (v := .sl _ _ _ _) rfl rfl) rfl rfl ?_
     | refine dP (fun _ => false) (opp_mv (v := .osl _ _ _ _ _) rfl rfl) rfl rfl ?_
    refine dP (fun _ => false) (opp_mv (v := .int _ _) rfl rfl) rfl rfl ?_
    first
     | refine dP (fun _ => false) (opp_indexSl rfl rfl rfl el54 (by omega) (by omega)) rfl rfl ?_
     | refine dP (fun _ => false) (opp_indexOsl0 rfl rfl rfl el54 (by omega) (by omega)) rfl rfl ?_
     | refine dP (fun _ => false) (opp_indexOsl rfl rfl rfl el54 (by omega) (by omega)) rfl rfl ?_
    rw [hcell]
    first
     | refine dP (fun _ => false) (opp_loadP rfl rfl rfl rfl bi rfl (tyw ty94)) rfl rfl ?_
     | refine dP (fun _ => false) (opp_loadF rfl rfl (tyw ty94)) rfl rfl ?_
     | refine dP (fun n => !([] : List Nat).contains n) (opp_loadP rfl rfl rfl rfl bi rfl (tyw ty94)) rfl rfl ?_
     | refine dP (fun n => !([] : List Nat).contains n) (opp_loadF rfl rfl (tyw ty94)) rfl rfl ?_
    refine dR (fun n => !([] : List Nat).contains n) (opr_callGA (t0 := 37) (rl := []) (A := [.top, .int _ _, .int _ _, .top, .top, .top, .top, .top, .top, .top]) (B := [.top, .int _ _, .int _ _, .top, .top, .top, .top, .top, .top, .top]) (B' := [.top, .int _ _, .int _ _, .top, .top, .top, .top, .top, .top, .top]) (H1 := []) (n1 := []) [true, false, false, true, true, true, true, true, true, true] rfl rfl rfl ent51 rfl rfl (fun vs => cg51a b false (long_1 hra.1) _ _ vs) rfl rfl rfl (by first | rfl | (simp only [oneB, rowA_one, rowV_one]; rfl)) (fun vs => And.intro rfl wka) (And.intro (And.intro rfl wka) True.intro) True.intro rfl (fun _ => rfl) (by simp only [mixB, List.getD_cons_zero, List.getD_cons_succ, cond_true, cond_false]; exact rfl) rfl rfl) rfl rfl rfl ?_
    refine dR0 (fun n => Nat.beq n 5) (opr_store (v := .agg _) (trn := (.agg _)) rfl rfl rfl rfl bi rfl rfl rfl rfl fr2 (tyw ty33) (fun _ _ h => h)) rfl rfl rfl ?_
    refine And.intro (by kernel_rfl) ?_
    refine awp_region rfl ?_
    refine sP (opp_mv (v := .int _ _) rfl rfl) rfl rfl ?_
    first
     | refine sP (opp_arith rfl rfl rfl (.inl ⟨rfl, w64 (by omega)⟩)) rfl rfl ?_
     | refine sP (opp_arith rfl rfl rfl (.inl ⟨rfl, rfl⟩)) rfl rfl ?_
    refine sP (opp_as (v := .int _ _) rfl rfl) rfl rfl ?_
    refine Exists.intro ((i + 1, e3, e8, e9, { S with frame := Sp.fld b 0 4, epoch := Sp.fld b 4 4 })) (And.intro (And.intro (And.intro (by show i + 1 ≤ _; omega) (And.intro (hnx.trans (putR_1 ..)) (hk.up rfl rfl rfl))) (by first | omega | (dsimp only; omega))) (by
     rcases e3 with _ | _ <;> rcases e8 with _ | _ <;> rcases e9 with _ | _
     all_goals
      refine imp_over [] rfl rfl (by kernel_rfl) ?_ ?_
      ·iterate 13 refine And.intro wkv ?_
       exact True.intro
      ·refine And.intro (And.intro rfl (And.intro rfl (Exists.intro _ (And.intro rfl (by first | exact WkC.refl _ | (simp only [staB, snoc_len]; exact WkC.refl _)))))) ?_
       repeat (refine And.intro (And.intro rfl (And.intro rfl (Exists.intro _ (And.intro rfl (by first | exact WkC.refl _ | (simp only [snoc_len]; exact WkC.refl _)))))) ?_)
       exact True.intro
     ))
   ·(try simp only [cmpI, errD_nil, qa, qb, qc, qd] at ht34)
    exfalso; omega
  ·skip
   refine awp_seq (awp_seq (awp_region rfl ?_))
   refine sP (opp_mv (v := .int _ _) rfl rfl) rfl rfl ?_
   first
    | refine sP (opp_mv (v := .sl _ _ _ _) rfl rfl) rfl rfl ?_
    | refine sP (opp_mv (v := .osl _ _ _ _ _) rfl rfl) rfl rfl ?_
   first
    | refine sP (opp_lenSl rfl rfl un54) rfl rfl ?_
    | refine sP (opp_lenOsl rfl rfl un54) rfl rfl ?_
   refine sP (opp_cmp rfl rfl rfl rfl) rfl rfl ?_
   refine awp_cond _ rfl (fun ht34 => ?_) (fun ht34 => ?_)
   ·(try simp only [cmpI, errD_nil, qa, qb, qc, qd] at ht34)
    refine awp_skip (awp_seq (awp_block ?_))
    refine awp_draw hmix rfl (by kernel_rfl) ?_
    first
     | refine dP (fun n => Nat.beq n 5) (opp_loadP rfl rfl rfl rfl bi rfl (tyw ty33)) rfl rfl ?_
     | refine dP (fun n => Nat.beq n 5) (opp_loadF rfl rfl (tyw ty33)) rfl rfl ?_
    first
     | refine dP (fun _ => false) (opp_mv (v := .sl _ _ _ _) rfl rfl) rfl rfl ?_
     | refine dP (fun _ => false) (opp_mv (v := .osl _ _ _ _ _) rfl rfl) rfl rfl ?_
    refine dP (fun _ => false) (opp_mv (v := .int _ _) rfl rfl) rfl rfl ?_
    first
     | refine dP (fun _ => false) (opp_indexSl rfl rfl rfl el54 (by omega) (by omega)) rfl rfl ?_
     | refine dP (fun _ => false) (opp_indexOsl0 rfl rfl rfl el54 (by omega) (by omega)) rfl rfl ?_
     | refine dP (fun _ => false) (opp_indexOsl rfl rfl rfl el54 (by omega) (by omega)) rfl rfl ?_
    rw [hcell]
    first
     | refine dP (fun _ => false) (opp_loadP rfl rfl rfl rfl bi rfl (tyw ty94)) rfl rfl ?_
     | refine dP (fun _ => false) (opp_loadF rfl rfl (tyw ty94)) rfl rfl ?_
     | refine dP (fun n => !([] : List Nat).contains n) (opp_loadP rfl rfl rfl rfl bi rfl (tyw ty94)) rfl rfl ?_
     | refine dP (fun n => !([] : List Nat).contains n) (opp_loadF rfl rfl (tyw ty94)) rfl rfl ?_
    refine dR (fun n => !([] : List Nat).contains n) (opr_callGA (t0 := 37) (rl := [(1002, 1003), (67, 2003)]) (A := [.top, .top, .top, .osl 1002 _ _ _ _, .top, .top, .top, .top, .top, .top]) (B := [.top, .top, .top, .osl 67 _ _ _ _, .top, .top, .top, .top, .top, .top]) (B' := [.top, .top, .top, .osl 2003 _ _ _ _, .top, .top, .top, .top, .top, .top]) (H1 := [(1003, none), (2003, some (.arr _ _ _))]) (n1 := [2003]) [true, true, true, false, true, true, true, true, true, true] rfl rfl rfl ent51 rfl rfl (fun vs => cg51b b false (long_3 hra.1) S.procs (by have := hk.pl; omega) vs) rfl rfl rfl (by first | rfl | (simp only [oneB, rowA_one, rowV_one]; rfl)) (fun vs => And.intro rfl wka) (And.intro (And.intro rfl wka) True.intro) (And.intro (And.intro rfl (Exists.intro _ (And.intro rfl wkc))) True.intro) rfl (fun _ => rfl) (by simp only [mixB, List.getD_cons_zero, List.getD_cons_succ, cond_true, cond_false]; exact rfl) rfl rfl) rfl rfl rfl ?_
    refine dR0 (fun n => Nat.beq n 5) (opr_store (v := .agg _) (trn := (.agg _)) rfl rfl rfl rfl bi rfl rfl rfl rfl fr2 (tyw ty33) (fun _ _ h => h)) rfl rfl rfl ?_
    refine And.intro (by kernel_rfl) ?_
    refine awp_region rfl ?_
    refine sP (opp_mv (v := .int _ _) rfl rfl) rfl rfl ?_
    first
     | refine sP (opp_arith rfl rfl rfl (.inl ⟨rfl, w64 (by omega)⟩)) rfl rfl ?_
     | refine sP (opp_arith rfl rfl rfl (.inl ⟨rfl, rfl⟩)) rfl rfl ?_
    refine sP (opp_as (v := .int _ _) rfl rfl) rfl rfl ?_
    refine Exists.intro ((i + 1, false, e8, e9, { S with procs := S.procs ++ [Sp.proc b] })) (And.intro (And.intro (And.intro (by show i + 1 ≤ _; omega) (And.intro (hnx.trans (putR_3 ..)) (hk.addP _))) (by first | omega | (dsimp only; omega))) (by
     rcases e8 with _ | _ <;> rcases e9 with _ | _
     all_goals
      refine imp_over [(1003, 2003)] rfl rfl (by kernel_rfl) ?_ ?_
      ·iterate 13 refine And.intro wkv ?_
       exact True.intro
      ·refine And.intro (And.intro rfl (And.intro rfl (Exists.intro _ (And.intro rfl (by first | exact WkC.refl _ | (simp only [staB, snoc_len]; exact WkC.refl _)))))) ?_
       repeat (refine And.intro (And.intro rfl (And.intro rfl (Exists.intro _ (And.intro rfl (by first | exact WkC.refl _ | (simp only [snoc_len]; exact WkC.refl _)))))) ?_)
       exact True.intro
     ))
   ·(try simp only [cmpI, errD_nil, qa, qb, qc, qd] at ht34)
    exfalso; omega
  ·skip
   refine awp_seq (awp_seq (awp_region rfl ?_))
   refine sP (opp_mv (v := .int _ _) rfl rfl) rfl rfl ?_
   first
    | refine sP (opp_mv (v := .sl _ _ _ _) rfl rfl) rfl rfl ?_
    | refine sP (opp_mv (v := .osl _ _ _ _ _) rfl rfl) rfl rfl ?_
   first
    | refine sP (opp_lenSl rfl rfl un54) rfl rfl ?_
    | refine sP (opp_lenOsl rfl rfl un54) rfl rfl ?_
   refine sP (opp_cmp rfl rfl rfl rfl) rfl rfl ?_
   refine awp_cond _ rfl (fun ht34 => ?_) (fun ht34 => ?_)
   ·(try simp only [cmpI, errD_nil, qa, qb, qc, qd] at ht34)
    refine awp_skip (awp_seq (awp_block ?_))
    refine awp_draw hmix rfl (by kernel_rfl) ?_
    first
     | refine dP (fun n => Nat.beq n 5) (opp_loadP rfl rfl rfl rfl bi rfl (tyw ty33)) rfl rfl ?_
     | refine dP (fun n => Nat.beq n 5) (opp_loadF rfl rfl (tyw ty33)) rfl rfl ?_
    first
     | refine dP (fun _ => false) (opp_mv (v := .sl _ _ _ _) rfl rfl) rfl rfl ?_
     | refine dP (fun _ => false) (opp_mv (v := .osl _ _ _ _ _) rfl rfl) rfl rfl ?_
    refine dP (fun _ => false) (opp_mv (v := .int _ _) rfl rfl) rfl rfl ?_
    first
     | refine dP (fun _ => false) (opp_indexSl rfl rfl rfl el54 (by omega) (by omega)) rfl rfl ?_
     | refine dP (fun _ => false) (opp_indexOsl0 rfl rfl rfl el54 (by omega) (by omega)) rfl rfl ?_
     | refine dP (fun _ => false) (opp_indexOsl rfl rfl rfl el54 (by omega) (by omega)) rfl rfl ?_
    rw [hcell]
    first
     | refine dP (fun _ => false) (opp_loadP rfl rfl rfl rfl bi rfl (tyw ty94)) rfl rfl ?_
     | refine dP (fun _ => false) (opp_loadF rfl rfl (tyw ty94)) rfl rfl ?_
     | refine dP (fun n => !([] : List Nat).contains n) (opp_loadP rfl rfl rfl rfl bi rfl (tyw ty94)) rfl rfl ?_
     | refine dP (fun n => !([] : List Nat).contains n) (opp_loadF rfl rfl (tyw ty94)) rfl rfl ?_
    refine dR (fun n => !([] : List Nat).contains n) (opr_callGA (t0 := 37) (rl := [(67, 2003)]) (A := [.top, .top, .top, .sl _ _ _ _, .top, .top, .top, .top, .top, .top]) (B := [.top, .top, .top, .osl 67 _ _ _ _, .top, .top, .top, .top, .top, .top]) (B' := [.top, .top, .top, .osl 2003 _ _ _ _, .top, .top, .top, .top, .top, .top]) (H1 := [(2003, some (.arr _ _ _))]) (n1 := [2003]) [true, true, true, false, true, true, true, true, true, true] rfl rfl rfl ent51 rfl rfl (fun vs => cg51c b false (long_3 hra.1) _ vs) rfl rfl rfl (by first | rfl | (simp only [oneB, rowA_one, rowV_one]; rfl)) (fun vs => And.intro rfl wka) (And.intro (And.intro rfl wka) True.intro) True.intro rfl (fun _ => rfl) (by simp only [mixB, List.getD_cons_zero, List.getD_cons_succ, cond_true, cond_false]; exact rfl) rfl rfl) rfl rfl rfl ?_
    refine dR0 (fun n => Nat.beq n 5) (opr_store (v := .agg _) (trn := (.agg _)) rfl rfl rfl rfl bi rfl rfl rfl rfl fr2 (tyw ty33) (fun _ _ h => h)) rfl rfl rfl ?_
    refine And.intro (by kernel_rfl) ?_
    refine awp_region rfl ?_
    refine sP (opp_mv (v := .int _ _) rfl rfl) rfl rfl ?_
    first
     | refine sP (opp_arith rfl rfl rfl (.inl ⟨rfl, w64 (by omega)⟩)) rfl rfl ?_
     | refine sP (opp_arith rfl rfl rfl (.inl ⟨rfl, rfl⟩)) rfl rfl ?_
    refine sP (opp_as (v := .int _ _) rfl rfl) rfl rfl ?_
    have hp0 : S.procs = [] := List.length_eq_zero_iff.1 (hk.p.1 rfl)
    refine Exists.intro ((i + 1, false, e8, e9, { S with procs := S.procs ++ [Sp.proc b] })) (And.intro (And.intro (And.intro (by show i + 1 ≤ _; omega) (And.intro (hnx.trans (putR_3 ..)) (hk.addP _))) (by first | omega | (dsimp only; omega))) (by
     rcases e8 with _ | _ <;> rcases e9 with _ | _
     all_goals
      refine imp_over [(1003, 2003)] rfl rfl (by kernel_rfl) ?_ ?_
      ·iterate 13 refine And.intro wkv ?_
       exact True.intro
      ·refine And.intro (And.intro rfl (And.intro rfl (Exists.intro _ (And.intro rfl (by (simp only [staB, hp0]; exact WkC.refl _)))))) ?_
       repeat (refine And.intro (And.intro rfl (And.intro rfl (Exists.intro _ (And.intro rfl (by first | exact WkC.refl _ | (simp only [hp0]; exact WkC.refl _)))))) ?_)
       exact True.intro
     ))
   ·(try simp only [cmpI, errD_nil, qa, qb, qc, qd] at ht34)
    exfalso; omega
  ·skip
   refine awp_seq (awp_seq (awp_region rfl ?_))
   refine sP (opp_mv (v := .int _ _) rfl rfl) rfl rfl ?_
   first
    | refine sP (opp_mv (v := .sl _ _ _ _) rfl rfl) rfl rfl ?_
    | refine sP (opp_mv (v := .osl _ _ _ _ _) rfl rfl) rfl rfl ?_
   first
    | refine sP (opp_lenSl rfl rfl un54) rfl rfl ?_
    | refine sP (opp_lenOsl rfl rfl un54) rfl rfl ?_
   refine sP (opp_cmp rfl rfl rfl rfl) rfl rfl ?_
   refine awp_cond _ rfl (fun ht34 => ?_) (fun ht34 => ?_)
   ·(try simp only [cmpI, errD_nil, qa, qb, qc, qd] at ht34)
    refine awp_skip (awp_seq (awp_block ?_))
    refine awp_draw hmix rfl (by kernel_rfl) ?_
    first
     | refine dP (fun n => Nat.beq n 5) (opp_loadP rfl rfl rfl rfl bi rfl (tyw ty33)) rfl rfl ?_
     | refine dP (fun n => Nat.beq n 5) (opp_loadF rfl rfl (tyw ty33)) rfl rfl ?_
    first
     | refine dP (fun _ => false) (opp_mv (v := .sl _ _ _ _) rfl rfl) rfl rfl ?_
     | refine dP (fun _ => false) (opp_mv (v := .osl _ _ _ _ _) rfl rfl) rfl rfl ?_
    refine dP (fun _ => false) (opp_mv (v := .int _ _) rfl rfl) rfl rfl ?_
    first
     | refine dP (fun _ => false) (opp_indexSl rfl rfl rfl el54 (by omega) (by omega)) rfl rfl ?_
     | refine dP (fun _ => false) (opp_indexOsl0 rfl rfl rfl el54 (by omega) (by omega)) rfl rfl ?_
     | refine dP (fun _ => false) (opp_indexOsl rfl rfl rfl el54 (by omega) (by omega)) rfl rfl ?_
    rw [hcell]
    first
     | refine dP (fun _ => false) (opp_loadP rfl rfl rfl rfl bi rfl (tyw ty94)) rfl rfl ?_
     | refine dP (fun _ => false) (opp_loadF rfl rfl (tyw ty94)) rfl rfl ?_
     | refine dP (fun n => !([] : List Nat).contains n) (opp_loadP rfl rfl rfl rfl bi rfl (tyw ty94)) rfl rfl ?_
     | refine dP (fun n => !([] : List Nat).contains n) (opp_loadF rfl rfl (tyw ty94)) rfl rfl ?_
    refine dR (fun n => !([] : List Nat).contains n) (opr_callGA (t0 := 37) (rl := []) (A := [.top, .top, .top, .top, .sl _ _ _ _, .top, .top, .top, .top, .top]) (B := [.top, .top, .top, .top, _, .top, .top, .top, .top, .top]) (B' := [.top, .top, .top, .top, _, .top, .top, .top, .top, .top]) (H1 := []) (n1 := []) [true, true, true, true, false, true, true, true, true, true] rfl rfl rfl ent51 rfl rfl (fun vs => cg51d b false hrb _ _ _ vs) rfl rfl rfl (by first | rfl | (simp only [oneB, rowA_one, rowV_one]; rfl)) (fun vs => And.intro rfl wka) (And.intro (And.intro rfl wka) True.intro) True.intro rfl (fun _ => rfl) (by simp only [mixB, List.getD_cons_zero, List.getD_cons_succ, cond_true, cond_false]; exact rfl) rfl rfl) rfl rfl rfl ?_
    refine dR0 (fun n => Nat.beq n 5) (opr_store (v := .agg _) (trn := (.agg _)) rfl rfl rfl rfl bi rfl rfl rfl rfl fr2 (tyw ty33) (fun _ _ h => h)) rfl rfl rfl ?_
    refine And.intro (by kernel_rfl) ?_
    refine awp_region rfl ?_
    refine sP (opp_mv (v := .int _ _) rfl rfl) rfl rfl ?_
    first
     | refine sP (opp_arith rfl rfl rfl (.inl ⟨rfl, w64 (by omega)⟩)) rfl rfl ?_
     | refine sP (opp_arith rfl rfl rfl (.inl ⟨rfl, rfl⟩)) rfl rfl ?_
    refine sP (opp_as (v := .int _ _) rfl rfl) rfl rfl ?_
    refine Exists.intro ((i + 1, e3, e8, e9, { S with ready := Sp.nums b })) (And.intro (And.intro (And.intro (by show i + 1 ≤ _; omega) (And.intro (hnx.trans (putR_4 ..)) (hk.up rfl rfl rfl))) (by first | omega | (dsimp only; omega))) (by
     rcases e3 with _ | _ <;> rcases e8 with _ | _ <;> rcases e9 with _ | _
     all_goals
      refine imp_over [] rfl rfl (by kernel_rfl) ?_ ?_
      ·iterate 13 refine And.intro wkv ?_
       exact True.intro
      ·refine And.intro (And.intro rfl (And.intro rfl (Exists.intro _ (And.intro rfl (by first | exact WkC.refl _ | (simp only [staB, snoc_len]; exact WkC.refl _)))))) ?_
       repeat (refine And.intro (And.intro rfl (And.intro rfl (Exists.intro _ (And.intro rfl (by first | exact WkC.refl _ | (simp only [snoc_len]; exact WkC.refl _)))))) ?_)
       exact True.intro
     ))
   ·(try simp only [cmpI, errD_nil, qa, qb, qc, qd] at ht34)
    exfalso; omega
  ·skip
   refine awp_seq (awp_seq (awp_region rfl ?_))
   refine sP (opp_mv (v := .int _ _) rfl rfl) rfl rfl ?_
   first
    | refine sP (opp_mv (v := .sl _ _ _ _) rfl rfl) rfl rfl ?_
    | refine sP (opp_mv (v := .osl _ _ _ _ _) rfl rfl) rfl rfl ?_
   first
    | refine sP (opp_lenSl rfl rfl un54) rfl rfl ?_
    | refine sP (opp_lenOsl rfl rfl un54) rfl rfl ?_
   refine sP (opp_cmp rfl rfl rfl rfl) rfl rfl ?_
   refine awp_cond _ rfl (fun ht34 => ?_) (fun ht34 => ?_)
   ·(try simp only [cmpI, errD_nil, qa, qb, qc, qd] at ht34)
    refine awp_skip (awp_seq (awp_block ?_))
    refine awp_draw hmix rfl (by kernel_rfl) ?_
    first
     | refine dP (fun n => Nat.beq n 5) (opp_loadP rfl rfl rfl rfl bi rfl (tyw ty33)) rfl rfl ?_
     | refine dP (fun n => Nat.beq n 5) (opp_loadF rfl rfl (tyw ty33)) rfl rfl ?_
    first
     | refine dP (fun _ => false) (opp_mv (v := .sl _ _ _ _) rfl rfl) rfl rfl ?_
     | refine dP (fun _ => false) (opp_mv (v := .osl _ _ _ _ _) rfl rfl) rfl rfl ?_
    refine dP (fun _ => false) (opp_mv (v := .int _ _) rfl rfl) rfl rfl ?_
    first
     | refine dP (fun _ => false) (opp_indexSl rfl rfl rfl el54 (by omega) (by omega)) rfl rfl ?_
     | refine dP (fun _ => false) (opp_indexOsl0 rfl rfl rfl el54 (by omega) (by omega)) rfl rfl ?_
     | refine dP (fun _ => false) (opp_indexOsl rfl rfl rfl el54 (by omega) (by omega)) rfl rfl ?_
    rw [hcell]
    first
     | refine dP (fun _ => false) (opp_loadP rfl rfl rfl rfl bi rfl (tyw ty94)) rfl rfl ?_
     | refine dP (fun _ => false) (opp_loadF rfl rfl (tyw ty94)) rfl rfl ?_
     | refine dP (fun n => !([] : List Nat).contains n) (opp_loadP rfl rfl rfl rfl bi rfl (tyw ty94)) rfl rfl ?_
     | refine dP (fun n => !([] : List Nat).contains n) (opp_loadF rfl rfl (tyw ty94)) rfl rfl ?_
    refine dR (fun n => !([] : List Nat).contains n) (opr_callGA (t0 := 37) (rl := []) (A := [.top, .top, .top, .top, .top, .top, .top, .sl _ _ _ _, .top, .top]) (B := [.top, .top, .top, .top, .top, .top, .top, _, .top, .top]) (B' := [.top, .top, .top, .top, .top, .top, .top, _, .top, .top]) (H1 := []) (n1 := []) [true, true, true, true, true, true, true, false, true, true] rfl rfl rfl ent51 rfl rfl (fun vs => cg51e b false hrb _ _ _ vs) rfl rfl rfl (by first | rfl | (simp only [oneB, rowA_one, rowV_one]; rfl)) (fun vs => And.intro rfl wka) (And.intro (And.intro rfl wka) True.intro) True.intro rfl (fun _ => rfl) (by simp only [mixB, List.getD_cons_zero, List.getD_cons_succ, cond_true, cond_false]; exact rfl) rfl rfl) rfl rfl rfl ?_
    refine dR0 (fun n => Nat.beq n 5) (opr_store (v := .agg _) (trn := (.agg _)) rfl rfl rfl rfl bi rfl rfl rfl rfl fr2 (tyw ty33) (fun _ _ h => h)) rfl rfl rfl ?_
    refine And.intro (by kernel_rfl) ?_
    refine awp_region rfl ?_
    refine sP (opp_mv (v := .int _ _) rfl rfl) rfl rfl ?_
    first
     | refine sP (opp_arith rfl rfl rfl (.inl ⟨rfl, w64 (by omega)⟩)) rfl rfl ?_
     | refine sP (opp_arith rfl rfl rfl (.inl ⟨rfl, rfl⟩)) rfl rfl ?_
    refine sP (opp_as (v := .int _ _) rfl rfl) rfl rfl ?_
    refine Exists.intro ((i + 1, e3, e8, e9, { S with sems := Sp.nums b })) (And.intro (And.intro (And.intro (by show i + 1 ≤ _; omega) (And.intro (hnx.trans (putR_7 ..)) (hk.up rfl rfl rfl))) (by first | omega | (dsimp only; omega))) (by
     rcases e3 with _ | _ <;> rcases e8 with _ | _ <;> rcases e9 with _ | _
     all_goals
      refine imp_over [] rfl rfl (by kernel_rfl) ?_ ?_
      ·iterate 13 refine And.intro wkv ?_
       exact True.intro
      ·refine And.intro (And.intro rfl (And.intro rfl (Exists.intro _ (And.intro rfl (by first | exact WkC.refl _ | (simp only [staB, snoc_len]; exact WkC.refl _)))))) ?_
       repeat (refine And.intro (And.intro rfl (And.intro rfl (Exists.intro _ (And.intro rfl (by first | exact WkC.refl _ | (simp only [snoc_len]; exact WkC.refl _)))))) ?_)
       exact True.intro
     ))
   ·(try simp only [cmpI, errD_nil, qa, qb, qc, qd] at ht34)
    exfalso; omega
  ·skip
   refine awp_seq (awp_seq (awp_region rfl ?_))
   refine sP (opp_mv (v := .int _ _) rfl rfl) rfl rfl ?_
   first
    | refine sP (opp_mv (v := .sl _ _ _ _) rfl rfl) rfl rfl ?_
    | refine sP (opp_mv (v := .osl _ _ _ _ _) rfl rfl) rfl rfl ?_
   first
    | refine sP (opp_lenSl rfl rfl un54) rfl rfl ?_
    | refine sP (opp_lenOsl rfl rfl un54) rfl rfl ?_
   refine sP (opp_cmp rfl rfl rfl rfl) rfl rfl ?_
   refine awp_cond _ rfl (fun ht34 => ?_) (fun ht34 => ?_)
   ·(try simp only [cmpI, errD_nil, qa, qb, qc, qd] at ht34)
    refine awp_skip (awp_seq (awp_block ?_))
    refine awp_draw hmix rfl (by kernel_rfl) ?_
    first
     | refine dP (fun n => Nat.beq n 5) (opp_loadP rfl rfl rfl rfl bi rfl (tyw ty33)) rfl rfl ?_
     | refine dP (fun n => Nat.beq n 5) (opp_loadF rfl rfl (tyw ty33)) rfl rfl ?_
    first
     | refine dP (fun _ => false) (opp_mv (v := .sl _ _ _ _) rfl rfl) rfl rfl ?_
     | refine dP (fun _ => false) (opp_mv (v := .osl _ _ _ _ _) rfl rfl) rfl rfl ?_
    refine dP (fun _ => false) (opp_mv (v := .int _ _) rfl rfl) rfl rfl ?_
    first
     | refine dP (fun _ => false) (opp_indexSl rfl rfl rfl el54 (by omega) (by omega)) rfl rfl ?_
     | refine dP (fun _ => false) (opp_indexOsl0 rfl rfl rfl el54 (by omega) (by omega)) rfl rfl ?_
     | refine dP (fun _ => false) (opp_indexOsl rfl rfl rfl el54 (by omega) (by omega)) rfl rfl ?_
    rw [hcell]
    first
     | refine dP (fun _ => false) (opp_loadP rfl rfl rfl rfl bi rfl (tyw ty94)) rfl rfl ?_
     | refine dP (fun _ => false) (opp_loadF rfl rfl (tyw ty94)) rfl rfl ?_
     | refine dP (fun n => !([] : List Nat).contains n) (opp_loadP rfl rfl rfl rfl bi rfl (tyw ty94)) rfl rfl ?_
     | refine dP (fun n => !([] : List Nat).contains n) (opp_loadF rfl rfl (tyw ty94)) rfl rfl ?_
    refine dR (fun n => !([] : List Nat).contains n) (opr_callGA (t0 := 37) (rl := []) (A := [.top, .top, .top, .top, .top, .sl _ _ _ _, .top, .top, .top, .top]) (B := [.top, .top, .top, .top, .top, _, .top, .top, .top, .top]) (B' := [.top, .top, .top, .top, .top, _, .top, .top, .top, .top]) (H1 := []) (n1 := []) [true, true, true, true, true, false, true, true, true, true] rfl rfl rfl ent51 rfl rfl (fun vs => cg51f b false hrb (long_5 hra.1) _ _ _ vs) rfl rfl rfl (by first | rfl | (simp only [oneB, rowA_one, rowV_one]; rfl)) (fun vs => And.intro rfl wka) (And.intro (And.intro rfl wka) True.intro) True.intro rfl (fun _ => rfl) (by simp only [mixB, List.getD_cons_zero, List.getD_cons_succ, cond_true, cond_false]; exact rfl) rfl rfl) rfl rfl rfl ?_
    refine dR0 (fun n => Nat.beq n 5) (opr_store (v := .agg _) (trn := (.agg _)) rfl rfl rfl rfl bi rfl rfl rfl rfl fr2 (tyw ty33) (fun _ _ h => h)) rfl rfl rfl ?_
    refine And.intro (by kernel_rfl) ?_
    refine awp_region rfl ?_
    refine sP (opp_mv (v := .int _ _) rfl rfl) rfl rfl ?_
    first
     | refine sP (opp_arith rfl rfl rfl (.inl ⟨rfl, w64 (by omega)⟩)) rfl rfl ?_
     | refine sP (opp_arith rfl rfl rfl (.inl ⟨rfl, rfl⟩)) rfl rfl ?_
    refine sP (opp_as (v := .int _ _) rfl rfl) rfl rfl ?_
    refine Exists.intro ((i + 1, e3, e8, e9, { S with timers := Sp.timersOf b })) (And.intro (And.intro (And.intro (by show i + 1 ≤ _; omega) (And.intro (hnx.trans (putR_5 ..)) (hk.up rfl rfl rfl))) (by first | omega | (dsimp only; omega))) (by
     rcases e3 with _ | _ <;> rcases e8 with _ | _ <;> rcases e9 with _ | _
     all_goals
      refine imp_over [] rfl rfl (by kernel_rfl) ?_ ?_
      ·iterate 13 refine And.intro wkv ?_
       exact True.intro
      ·refine And.intro (And.intro rfl (And.intro rfl (Exists.intro _ (And.intro rfl (by first | exact WkC.refl _ | (simp only [staB, snoc_len]; exact WkC.refl _)))))) ?_
       repeat (refine And.intro (And.intro rfl (And.intro rfl (Exists.intro _ (And.intro rfl (by first | exact WkC.refl _ | (simp only [snoc_len]; exact WkC.refl _)))))) ?_)
       exact True.intro
     ))
   ·(try simp only [cmpI, errD_nil, qa, qb, qc, qd] at ht34)
    exfalso; omega
  ·skip
   refine awp_seq (awp_seq (awp_region rfl ?_))
   refine sP (opp_mv (v := .int _ _) rfl rfl) rfl rfl ?_
   first
    | refine sP (opp_mv (v := .sl _ _ _ _) rfl rfl) rfl rfl ?_
    | refine sP (opp_mv (v := .osl _ _ _ _ _) rfl rfl) rfl rfl ?_
   first
    | refine sP (opp_lenSl rfl rfl un54) rfl rfl ?_
    | refine sP (opp_lenOsl rfl rfl un54) rfl rfl ?_
   refine sP (opp_cmp rfl rfl rfl rfl) rfl rfl ?_
   refine awp_cond _ rfl (fun ht34 => ?_) (fun ht34 => ?_)
   ·(try simp only [cmpI, errD_nil, qa, qb, qc, qd] at ht34)
    refine awp_skip (awp_seq (awp_block ?_))
    refine awp_draw hmix rfl (by kernel_rfl) ?_
    first
     | refine dP (fun n => Nat.beq n 5) (opp_loadP rfl rfl rfl rfl bi rfl (tyw ty33)) rfl rfl ?_
     | refine dP (fun n => Nat.beq n 5) (opp_loadF rfl rfl (tyw ty33)) rfl rfl ?_
    first
     | refine dP (fun _ => false) (opp_mv (v := .sl _ _ _ _) rfl rfl) rfl rfl ?_
     | refine dP (fun _ => false) (opp_mv (v := .osl _ _ _ _ _) rfl rfl) rfl rfl ?_
    refine dP (fun _ => false) (opp_mv (v := .int _ _) rfl rfl) rfl rfl ?_
    first
     | refine dP (fun _ => false) (opp_indexSl rfl rfl rfl el54 (by omega) (by omega)) rfl rfl ?_
     | refine dP (fun _ => false) (opp_indexOsl0 rfl rfl rfl el54 (by omega) (by omega)) rfl rfl ?_
     | refine dP (fun _ => false) (opp_indexOsl rfl rfl rfl el54 (by omega) (by omega)) rfl rfl ?_
    rw [hcell]
    first
     | refine dP (fun _ => false) (opp_loadP rfl rfl rfl rfl bi rfl (tyw ty94)) rfl rfl ?_
     | refine dP (fun _ => false) (opp_loadF rfl rfl (tyw ty94)) rfl rfl ?_
     | refine dP (fun n => !([] : List Nat).contains n) (opp_loadP rfl rfl rfl rfl bi rfl (tyw ty94)) rfl rfl ?_
     | refine dP (fun n => !([] : List Nat).contains n) (opp_loadF rfl rfl (tyw ty94)) rfl rfl ?_
    refine dR (fun n => !([] : List Nat).contains n) (opr_callGA (t0 := 37) (rl := []) (A := [.top, .top, .top, .top, .top, .top, .sl _ _ _ _, .top, .top, .top]) (B := [.top, .top, .top, .top, .top, .top, _, .top, .top, .top]) (B' := [.top, .top, .top, .top, .top, .top, _, .top, .top, .top]) (H1 := []) (n1 := []) [true, true, true, true, true, true, false, true, true, true] rfl rfl rfl ent51 rfl rfl (fun vs => cg51g b false hrb _ _ _ vs) rfl rfl rfl (by first | rfl | (simp only [oneB, rowA_one, rowV_one]; rfl)) (fun vs => And.intro rfl wka) (And.intro (And.intro rfl wka) True.intro) True.intro rfl (fun _ => rfl) (by simp only [mixB, List.getD_cons_zero, List.getD_cons_succ, cond_true, cond_false]; exact rfl) rfl rfl) rfl rfl rfl ?_
    refine dR0 (fun n => Nat.beq n 5) (opr_store (v := .agg _) (trn := (.agg _)) rfl rfl rfl rfl bi rfl rfl rfl rfl fr2 (tyw ty33) (fun _ _ h => h)) rfl rfl rfl ?_
    refine And.intro (by kernel_rfl) ?_
    refine awp_region rfl ?_
    refine sP (opp_mv (v := .int _ _) rfl rfl) rfl rfl ?_
    first
     | refine sP (opp_arith rfl rfl rfl (.inl ⟨rfl, w64 (by omega)⟩)) rfl rfl ?_
     | refine sP (opp_arith rfl rfl rfl (.inl ⟨rfl, rfl⟩)) rfl rfl ?_
    refine sP (opp_as (v := .int _ _) rfl rfl) rfl rfl ?_
    refine Exists.intro ((i + 1, e3, e8, e9, { S with up := ups b })) (And.intro (And.intro (And.intro (by show i + 1 ≤ _; omega) (And.intro (hnx.trans (putR_6 ..)) (hk.up rfl rfl rfl))) (by first | omega | (dsimp only; omega))) (by
     rcases e3 with _ | _ <;> rcases e8 with _ | _ <;> rcases e9 with _ | _
     all_goals
      refine imp_over [] rfl rfl (by kernel_rfl) ?_ ?_
      ·iterate 13 refine And.intro wkv ?_
       exact True.intro
      ·refine And.intro (And.intro rfl (And.intro rfl (Exists.intro _ (And.intro rfl (by first | exact WkC.refl _ | (simp only [staB, snoc_len]; exact WkC.refl _)))))) ?_
       repeat (refine And.intro (And.intro rfl (And.intro rfl (Exists.intro _ (And.intro rfl (by first | exact WkC.refl _ | (simp only [snoc_len]; exact WkC.refl _)))))) ?_)
       exact True.intro
     ))
   ·(try simp only [cmpI, errD_nil, qa, qb, qc, qd] at ht34)
    exfalso; omega
  ·skip
   refine awp_seq (awp_seq (awp_region rfl ?_))
   refine sP (opp_mv (v := .int _ _) rfl rfl) rfl rfl ?_
   first
    | refine sP (opp_mv (v := .sl _ _ _ _) rfl rfl) rfl rfl ?_
    | refine sP (opp_mv (v := .osl _ _ _ _ _) rfl rfl) rfl rfl ?_
   first
    | refine sP (opp_lenSl rfl rfl un54) rfl rfl ?_
    | refine sP (opp_lenOsl rfl rfl un54) rfl rfl ?_
   refine sP (opp_cmp rfl rfl rfl rfl) rfl rfl ?_
   refine awp_cond _ rfl (fun ht34 => ?_) (fun ht34 => ?_)
   ·(try simp only [cmpI, errD_nil, qa, qb, qc, qd] at ht34)
    refine awp_skip (awp_seq (awp_block ?_))
    refine awp_draw hmix rfl (by kernel_rfl) ?_
    first
     | refine dP (fun n => Nat.beq n 5) (opp_loadP rfl rfl rfl rfl bi rfl (tyw ty33)) rfl rfl ?_
     | refine dP (fun n => Nat.beq n 5) (opp_loadF rfl rfl (tyw ty33)) rfl rfl ?_
    first
     | refine dP (fun _ => false) (opp_mv (v := .sl _ _ _ _) rfl rfl) rfl rfl ?_
     | refine dP (fun _ => false) (opp_mv (v := .osl _ _ _ _ _) rfl rfl) rfl rfl ?_
    refine dP (fun _ => false) (opp_mv (v := .int _ _) rfl rfl) rfl rfl ?_
    first
     | refine dP (fun _ => false) (opp_indexSl rfl rfl rfl el54 (by omega) (by omega)) rfl rfl ?_
     | refine dP (fun _ => false) (opp_indexOsl0 rfl rfl rfl el54 (by omega) (by omega)) rfl rfl ?_
     | refine dP (fun _ => false) (opp_indexOsl rfl rfl rfl el54 (by omega) (by omega)) rfl rfl ?_
    rw [hcell]
    first
     | refine dP (fun _ => false) (opp_loadP rfl rfl rfl rfl bi rfl (tyw ty94)) rfl rfl ?_
     | refine dP (fun _ => false) (opp_loadF rfl rfl (tyw ty94)) rfl rfl ?_
     | refine dP (fun n => !([] : List Nat).contains n) (opp_loadP rfl rfl rfl rfl bi rfl (tyw ty94)) rfl rfl ?_
     | refine dP (fun n => !([] : List Nat).contains n) (opp_loadF rfl rfl (tyw ty94)) rfl rfl ?_
    refine dR (fun n => !([] : List Nat).contains n) (opr_callGA (t0 := 37) (rl := [(1002, 1008), (191, 2008)]) (A := [.top, .top, .top, .top, .top, .top, .top, .top, .osl 1002 _ _ _ _, .top]) (B := [.top, .top, .top, .top, .top, .top, .top, .top, .osl 191 _ _ _ _, .top]) (B' := [.top, .top, .top, .top, .top, .top, .top, .top, .osl 2008 _ _ _ _, .top]) (H1 := [(1008, none), (2008, some (.arr _ _ _))]) (n1 := [2008]) [true, true, true, true, true, true, true, true, false, true] rfl rfl rfl ent51 rfl rfl (fun vs => cg51h b false hrb (long_8 hra.1) S.ports (by have := hk.ql; omega) vs) rfl rfl rfl (by first | rfl | (simp only [oneB, rowA_one, rowV_one]; rfl)) (fun vs => And.intro rfl wka) (And.intro (And.intro rfl wka) True.intro) (And.intro (And.intro rfl (Exists.intro _ (And.intro rfl wkc))) True.intro) rfl (fun _ => rfl) (by simp only [mixB, List.getD_cons_zero, List.getD_cons_succ, cond_true, cond_false]; exact rfl) rfl rfl) rfl rfl rfl ?_
    refine dR0 (fun n => Nat.beq n 5) (opr_store (v := .agg _) (trn := (.agg _)) rfl rfl rfl rfl bi rfl rfl rfl rfl fr2 (tyw ty33) (fun _ _ h => h)) rfl rfl rfl ?_
    refine And.intro (by kernel_rfl) ?_
    refine awp_region rfl ?_
    refine sP (opp_mv (v := .int _ _) rfl rfl) rfl rfl ?_
    first
     | refine sP (opp_arith rfl rfl rfl (.inl ⟨rfl, w64 (by omega)⟩)) rfl rfl ?_
     | refine sP (opp_arith rfl rfl rfl (.inl ⟨rfl, rfl⟩)) rfl rfl ?_
    refine sP (opp_as (v := .int _ _) rfl rfl) rfl rfl ?_
    refine Exists.intro ((i + 1, e3, false, e9, { S with ports := S.ports ++ [(Sp.portQ b).1] })) (And.intro (And.intro (And.intro (by show i + 1 ≤ _; omega) (And.intro (hnx.trans (putR_8 ..)) (hk.addQ _))) (by first | omega | (dsimp only; omega))) (by
     rcases e3 with _ | _ <;> rcases e9 with _ | _
     all_goals
      refine imp_over [(1008, 2008)] rfl rfl (by kernel_rfl) ?_ ?_
      ·iterate 13 refine And.intro wkv ?_
       exact True.intro
      ·refine And.intro (And.intro rfl (And.intro rfl (Exists.intro _ (And.intro rfl (by first | exact WkC.refl _ | (simp only [staB, snoc_len]; exact WkC.refl _)))))) ?_
       repeat (refine And.intro (And.intro rfl (And.intro rfl (Exists.intro _ (And.intro rfl (by first | exact WkC.refl _ | (simp only [snoc_len]; exact WkC.refl _)))))) ?_)
       exact True.intro
     ))
   ·(try simp only [cmpI, errD_nil, qa, qb, qc, qd] at ht34)
    exfalso; omega
  ·skip
   refine awp_seq (awp_seq (awp_region rfl ?_))
   refine sP (opp_mv (v := .int _ _) rfl rfl) rfl rfl ?_
   first
    | refine sP (opp_mv (v := .sl _ _ _ _) rfl rfl) rfl rfl ?_
    | refine sP (opp_mv (v := .osl _ _ _ _ _) rfl rfl) rfl rfl ?_
   first
    | refine sP (opp_lenSl rfl rfl un54) rfl rfl ?_
    | refine sP (opp_lenOsl rfl rfl un54) rfl rfl ?_
   refine sP (opp_cmp rfl rfl rfl rfl) rfl rfl ?_
   refine awp_cond _ rfl (fun ht34 => ?_) (fun ht34 => ?_)
   ·(try simp only [cmpI, errD_nil, qa, qb, qc, qd] at ht34)
    refine awp_skip (awp_seq (awp_block ?_))
    refine awp_draw hmix rfl (by kernel_rfl) ?_
    first
     | refine dP (fun n => Nat.beq n 5) (opp_loadP rfl rfl rfl rfl bi rfl (tyw ty33)) rfl rfl ?_
     | refine dP (fun n => Nat.beq n 5) (opp_loadF rfl rfl (tyw ty33)) rfl rfl ?_
    first
     | refine dP (fun _ => false) (opp_mv (v := .sl _ _ _ _) rfl rfl) rfl rfl ?_
     | refine dP (fun _ => false) (opp_mv (v := .osl _ _ _ _ _) rfl rfl) rfl rfl ?_
    refine dP (fun _ => false) (opp_mv (v := .int _ _) rfl rfl) rfl rfl ?_
    first
     | refine dP (fun _ => false) (opp_indexSl rfl rfl rfl el54 (by omega) (by omega)) rfl rfl ?_
     | refine dP (fun _ => false) (opp_indexOsl0 rfl rfl rfl el54 (by omega) (by omega)) rfl rfl ?_
     | refine dP (fun _ => false) (opp_indexOsl rfl rfl rfl el54 (by omega) (by omega)) rfl rfl ?_
    rw [hcell]
    first
     | refine dP (fun _ => false) (opp_loadP rfl rfl rfl rfl bi rfl (tyw ty94)) rfl rfl ?_
     | refine dP (fun _ => false) (opp_loadF rfl rfl (tyw ty94)) rfl rfl ?_
     | refine dP (fun n => !([] : List Nat).contains n) (opp_loadP rfl rfl rfl rfl bi rfl (tyw ty94)) rfl rfl ?_
     | refine dP (fun n => !([] : List Nat).contains n) (opp_loadF rfl rfl (tyw ty94)) rfl rfl ?_
    refine dR (fun n => !([] : List Nat).contains n) (opr_callGA (t0 := 37) (rl := [(191, 2008)]) (A := [.top, .top, .top, .top, .top, .top, .top, .top, .sl _ _ _ _, .top]) (B := [.top, .top, .top, .top, .top, .top, .top, .top, .osl 191 _ _ _ _, .top]) (B' := [.top, .top, .top, .top, .top, .top, .top, .top, .osl 2008 _ _ _ _, .top]) (H1 := [(2008, some (.arr _ _ _))]) (n1 := [2008]) [true, true, true, true, true, true, true, true, false, true] rfl rfl rfl ent51 rfl rfl (fun vs => cg51i b false hrb (long_8 hra.1) _ vs) rfl rfl rfl (by first | rfl | (simp only [oneB, rowA_one, rowV_one]; rfl)) (fun vs => And.intro rfl wka) (And.intro (And.intro rfl wka) True.intro) True.intro rfl (fun _ => rfl) (by simp only [mixB, List.getD_cons_zero, List.getD_cons_succ, cond_true, cond_false]; exact rfl) rfl rfl) rfl rfl rfl ?_
    refine dR0 (fun n => Nat.beq n 5) (opr_store (v := .agg _) (trn := (.agg _)) rfl rfl rfl rfl bi rfl rfl rfl rfl fr2 (tyw ty33) (fun _ _ h => h)) rfl rfl rfl ?_
    refine And.intro (by kernel_rfl) ?_
    refine awp_region rfl ?_
    refine sP (opp_mv (v := .int _ _) rfl rfl) rfl rfl ?_
    first
     | refine sP (opp_arith rfl rfl rfl (.inl ⟨rfl, w64 (by omega)⟩)) rfl rfl ?_
     | refine sP (opp_arith rfl rfl rfl (.inl ⟨rfl, rfl⟩)) rfl rfl ?_
    refine sP (opp_as (v := .int _ _) rfl rfl) rfl rfl ?_
    have hp0 : S.ports = [] := List.length_eq_zero_iff.1 (hk.q.1 rfl)
    refine Exists.intro ((i + 1, e3, false, e9, { S with ports := S.ports ++ [(Sp.portQ b).1] })) (And.intro (And.intro (And.intro (by show i + 1 ≤ _; omega) (And.intro (hnx.trans (putR_8 ..)) (hk.addQ _))) (by first | omega | (dsimp only; omega))) (by
     rcases e3 with _ | _ <;> rcases e9 with _ | _
     all_goals
      refine imp_over [(1008, 2008)] rfl rfl (by kernel_rfl) ?_ ?_
      ·iterate 13 refine And.intro wkv ?_
       exact True.intro
      ·refine And.intro (And.intro rfl (And.intro rfl (Exists.intro _ (And.intro rfl (by (simp only [staB, hp0]; exact WkC.refl _)))))) ?_
       repeat (refine And.intro (And.intro rfl (And.intro rfl (Exists.intro _ (And.intro rfl (by first | exact WkC.refl _ | (simp only [hp0]; exact WkC.refl _)))))) ?_)
       exact True.intro
     ))
   ·(try simp only [cmpI, errD_nil, qa, qb, qc, qd] at ht34)
    exfalso; omega
  ·skip
   refine awp_seq (awp_seq (awp_region rfl ?_))
   refine sP (opp_mv (v := .int _ _) rfl rfl) rfl rfl ?_
   first
    | refine sP (opp_mv (v := .sl _ _ _ _) rfl rfl) rfl rfl ?_
    | refine sP (opp_mv (v := .osl _ _ _ _ _) rfl rfl) rfl rfl ?_
   first
    | refine sP (opp_lenSl rfl rfl un54) rfl rfl ?_
    | refine sP (opp_lenOsl rfl rfl un54) rfl rfl ?_
   refine sP (opp_cmp rfl rfl rfl rfl) rfl rfl ?_
   refine awp_cond _ rfl (fun ht34 => ?_) (fun ht34 => ?_)
   ·(try simp only [cmpI, errD_nil, qa, qb, qc, qd] at ht34)
    refine awp_skip (awp_seq (awp_block ?_))
    refine awp_draw hmix rfl (by kernel_rfl) ?_
    first
     | refine dP (fun n => Nat.beq n 5) (opp_loadP rfl rfl rfl rfl bi rfl (tyw ty33)) rfl rfl ?_
     | refine dP (fun n => Nat.beq n 5) (opp_loadF rfl rfl (tyw ty33)) rfl rfl ?_
    first
     | refine dP (fun _ => false) (opp_mv (v := .sl _ _ _ _) rfl rfl) rfl rfl ?_
     | refine dP (fun _ => false) (opp_mv (v := .osl _ _ _ _ _) rfl rfl) rfl rfl ?_
    refine dP (fun _ => false) (opp_mv (v := .int _ _) rfl rfl) rfl rfl ?_
    first
     | refine dP (fun _ => false) (opp_indexSl rfl rfl rfl el54 (by omega) (by omega)) rfl rfl ?_
     | refine dP (fun _ => false) (opp_indexOsl0 rfl rfl rfl el54 (by omega) (by omega)) rfl rfl ?_
     | refine dP (fun _ => false) (opp_indexOsl rfl rfl rfl el54 (by omega) (by omega)) rfl rfl ?_
    rw [hcell]
    first
     | refine dP (fun _ => false) (opp_loadP rfl rfl rfl rfl bi rfl (tyw ty94)) rfl rfl ?_
     | refine dP (fun _ => false) (opp_loadF rfl rfl (tyw ty94)) rfl rfl ?_
     | refine dP (fun n => !([] : List Nat).contains n) (opp_loadP rfl rfl rfl rfl bi rfl (tyw ty94)) rfl rfl ?_
     | refine dP (fun n => !([] : List Nat).contains n) (opp_loadF rfl rfl (tyw ty94)) rfl rfl ?_
    refine dR (fun n => !([] : List Nat).contains n) (opr_callGA (t0 := 37) (rl := [(1002, 1009), (216, 2009)]) (A := [.top, .top, .top, .top, .top, .top, .top, .top, .top, .osl 1002 _ _ _ _]) (B := [.top, .top, .top, .top, .top, .top, .top, .top, .top, .osl 216 _ _ _ _]) (B' := [.top, .top, .top, .top, .top, .top, .top, .top, .top, .osl 2009 _ _ _ _]) (H1 := [(1009, none), (2009, some (.arr _ _ _))]) (n1 := [2009]) [true, true, true, true, true, true, true, true, true, false] rfl rfl rfl ent51 rfl rfl (fun vs => cg51j b false (long_9 hra.1) S.pages (by have := hk.gl; omega) vs) rfl rfl rfl (by first | rfl | (simp only [oneB, rowA_one, rowV_one]; rfl)) (fun vs => And.intro rfl wka) (And.intro (And.intro rfl wka) True.intro) (And.intro (And.intro rfl (Exists.intro _ (And.intro rfl wkc))) True.intro) rfl (fun _ => rfl) (by simp only [mixB, List.getD_cons_zero, List.getD_cons_succ, cond_true, cond_false]; exact rfl) rfl rfl) rfl rfl rfl ?_
    refine dR0 (fun n => Nat.beq n 5) (opr_store (v := .agg _) (trn := (.agg _)) rfl rfl rfl rfl bi rfl rfl rfl rfl fr2 (tyw ty33) (fun _ _ h => h)) rfl rfl rfl ?_
    refine And.intro (by kernel_rfl) ?_
    refine awp_region rfl ?_
    refine sP (opp_mv (v := .int _ _) rfl rfl) rfl rfl ?_
    first
     | refine sP (opp_arith rfl rfl rfl (.inl ⟨rfl, w64 (by omega)⟩)) rfl rfl ?_
     | refine sP (opp_arith rfl rfl rfl (.inl ⟨rfl, rfl⟩)) rfl rfl ?_
    refine sP (opp_as (v := .int _ _) rfl rfl) rfl rfl ?_
    refine Exists.intro ((i + 1, e3, e8, false, { S with pages := S.pages ++ [Sp.page b] })) (And.intro (And.intro (And.intro (by show i + 1 ≤ _; omega) (And.intro (hnx.trans (putR_9 ..)) (hk.addG _))) (by first | omega | (dsimp only; omega))) (by
     rcases e3 with _ | _ <;> rcases e8 with _ | _
     all_goals
      refine imp_over [(1009, 2009)] rfl rfl (by kernel_rfl) ?_ ?_
      ·iterate 13 refine And.intro wkv ?_
       exact True.intro
      ·refine And.intro (And.intro rfl (And.intro rfl (Exists.intro _ (And.intro rfl (by first | exact WkC.refl _ | (simp only [staB, snoc_len]; exact WkC.refl _)))))) ?_
       repeat (refine And.intro (And.intro rfl (And.intro rfl (Exists.intro _ (And.intro rfl (by first | exact WkC.refl _ | (simp only [snoc_len]; exact WkC.refl _)))))) ?_)
       exact True.intro
     ))
   ·(try simp only [cmpI, errD_nil, qa, qb, qc, qd] at ht34)
    exfalso; omega
  ·skip
   refine awp_seq (awp_seq (awp_region rfl ?_))
   refine sP (opp_mv (v := .int _ _) rfl rfl) rfl rfl ?_
   first
    | refine sP (opp_mv (v := .sl _ _ _ _) rfl rfl) rfl rfl ?_
    | refine sP (opp_mv (v := .osl _ _ _ _ _) rfl rfl) rfl rfl ?_
   first
    | refine sP (opp_lenSl rfl rfl un54) rfl rfl ?_
    | refine sP (opp_lenOsl rfl rfl un54) rfl rfl ?_
   refine sP (opp_cmp rfl rfl rfl rfl) rfl rfl ?_
   refine awp_cond _ rfl (fun ht34 => ?_) (fun ht34 => ?_)
   ·(try simp only [cmpI, errD_nil, qa, qb, qc, qd] at ht34)
    refine awp_skip (awp_seq (awp_block ?_))
    refine awp_draw hmix rfl (by kernel_rfl) ?_
    first
     | refine dP (fun n => Nat.beq n 5) (opp_loadP rfl rfl rfl rfl bi rfl (tyw ty33)) rfl rfl ?_
     | refine dP (fun n => Nat.beq n 5) (opp_loadF rfl rfl (tyw ty33)) rfl rfl ?_
    first
     | refine dP (fun _ => false) (opp_mv (v := .sl _ _ _ _) rfl rfl) rfl rfl ?_
     | refine dP (fun _ => false) (opp_mv (v := .osl _ _ _ _ _) rfl rfl) rfl rfl ?_
    refine dP (fun _ => false) (opp_mv (v := .int _ _) rfl rfl) rfl rfl ?_
    first
     | refine dP (fun _ => false) (opp_indexSl rfl rfl rfl el54 (by omega) (by omega)) rfl rfl ?_
     | refine dP (fun _ => false) (opp_indexOsl0 rfl rfl rfl el54 (by omega) (by omega)) rfl rfl ?_
     | refine dP (fun _ => false) (opp_indexOsl rfl rfl rfl el54 (by omega) (by omega)) rfl rfl ?_
    rw [hcell]
    first
     | refine dP (fun _ => false) (opp_loadP rfl rfl rfl rfl bi rfl (tyw ty94)) rfl rfl ?_
     | refine dP (fun _ => false) (opp_loadF rfl rfl (tyw ty94)) rfl rfl ?_
     | refine dP (fun n => !([] : List Nat).contains n) (opp_loadP rfl rfl rfl rfl bi rfl (tyw ty94)) rfl rfl ?_
     | refine dP (fun n => !([] : List Nat).contains n) (opp_loadF rfl rfl (tyw ty94)) rfl rfl ?_
    refine dR (fun n => !([] : List Nat).contains n) (opr_callGA (t0 := 37) (rl := [(216, 2009)]) (A := [.top, .top, .top, .top, .top, .top, .top, .top, .top, .sl _ _ _ _]) (B := [.top, .top, .top, .top, .top, .top, .top, .top, .top, .osl 216 _ _ _ _]) (B' := [.top, .top, .top, .top, .top, .top, .top, .top, .top, .osl 2009 _ _ _ _]) (H1 := [(2009, some (.arr _ _ _))]) (n1 := [2009]) [true, true, true, true, true, true, true, true, true, false] rfl rfl rfl ent51 rfl rfl (fun vs => cg51k b false (long_9 hra.1) _ vs) rfl rfl rfl (by first | rfl | (simp only [oneB, rowA_one, rowV_one]; rfl)) (fun vs => And.intro rfl wka) (And.intro (And.intro rfl wka) True.intro) True.intro rfl (fun _ => rfl) (by simp only [mixB, List.getD_cons_zero, List.getD_cons_succ, cond_true, cond_false]; exact rfl) rfl rfl) rfl rfl rfl ?_
    refine dR0 (fun n => Nat.beq n 5) (opr_store (v := .agg _) (trn := (.agg _)) rfl rfl rfl rfl bi rfl rfl rfl rfl fr2 (tyw ty33) (fun _ _ h => h)) rfl rfl rfl ?_
    refine And.intro (by kernel_rfl) ?_
    refine awp_region rfl ?_
    refine sP (opp_mv (v := .int _ _) rfl rfl) rfl rfl ?_
    first
     | refine sP (opp_arith rfl rfl rfl (.inl ⟨rfl, w64 (by omega)⟩)) rfl rfl ?_
     | refine sP (opp_arith rfl rfl rfl (.inl ⟨rfl, rfl⟩)) rfl rfl ?_
    refine sP (opp_as (v := .int _ _) rfl rfl) rfl rfl ?_
    have hp0 : S.pages = [] := List.length_eq_zero_iff.1 (hk.g.1 rfl)
    refine Exists.intro ((i + 1, e3, e8, false, { S with pages := S.pages ++ [Sp.page b] })) (And.intro (And.intro (And.intro (by show i + 1 ≤ _; omega) (And.intro (hnx.trans (putR_9 ..)) (hk.addG _))) (by first | omega | (dsimp only; omega))) (by
     rcases e3 with _ | _ <;> rcases e8 with _ | _
     all_goals
      refine imp_over [(1009, 2009)] rfl rfl (by kernel_rfl) ?_ ?_
      ·iterate 13 refine And.intro wkv ?_
       exact True.intro
      ·refine And.intro (And.intro rfl (And.intro rfl (Exists.intro _ (And.intro rfl (by (simp only [staB, hp0]; exact WkC.refl _)))))) ?_
       repeat (refine And.intro (And.intro rfl (And.intro rfl (Exists.intro _ (And.intro rfl (by first | exact WkC.refl _ | (simp only [hp0]; exact WkC.refl _)))))) ?_)
       exact True.intro
     ))
   ·(try simp only [cmpI, errD_nil, qa, qb, qc, qd] at ht34)
    exfalso; omega
  ·skip
   refine awp_seq (awp_seq (awp_region rfl ?_))
   refine sP (opp_mv (v := .int _ _) rfl rfl) rfl rfl ?_
   first
    | refine sP (opp_mv (v := .sl _ _ _ _) rfl rfl) rfl rfl ?_
    | refine sP (opp_mv (v := .osl _ _ _ _ _) rfl rfl) rfl rfl ?_
   first
    | refine sP (opp_lenSl rfl rfl un54) rfl rfl ?_
    | refine sP (opp_lenOsl rfl rfl un54) rfl rfl ?_
   refine sP (opp_cmp rfl rfl rfl rfl) rfl rfl ?_
   refine awp_cond _ rfl (fun ht34 => ?_) (fun ht34 => ?_)
   ·(try simp only [cmpI, errD_nil, qa, qb, qc, qd] at ht34)
    refine awp_skip (awp_seq (awp_block ?_))
    refine awp_draw hmix rfl (by kernel_rfl) ?_
    first
     | refine dP (fun n => Nat.beq n 5) (opp_loadP rfl rfl rfl rfl bi rfl (tyw ty33)) rfl rfl ?_
     | refine dP (fun n => Nat.beq n 5) (opp_loadF rfl rfl (tyw ty33)) rfl rfl ?_
    first
     | refine dP (fun _ => false) (opp_mv (v := .sl _ _ _ _) rfl rfl) rfl rfl ?_
     | refine dP (fun _ => false) (opp_mv (v := .osl _ _ _ _ _) rfl rfl) rfl rfl ?_
    refine dP (fun _ => false) (opp_mv (v := .int _ _) rfl rfl) rfl rfl ?_
    first
     | refine dP (fun _ => false) (opp_indexSl rfl rfl rfl el54 (by omega) (by omega)) rfl rfl ?_
     | refine dP (fun _ => false) (opp_indexOsl0 rfl rfl rfl el54 (by omega) (by omega)) rfl rfl ?_
     | refine dP (fun _ => false) (opp_indexOsl rfl rfl rfl el54 (by omega) (by omega)) rfl rfl ?_
    rw [hcell]
    first
     | refine dP (fun _ => false) (opp_loadP rfl rfl rfl rfl bi rfl (tyw ty94)) rfl rfl ?_
     | refine dP (fun _ => false) (opp_loadF rfl rfl (tyw ty94)) rfl rfl ?_
     | refine dP (fun n => !([] : List Nat).contains n) (opp_loadP rfl rfl rfl rfl bi rfl (tyw ty94)) rfl rfl ?_
     | refine dP (fun n => !([] : List Nat).contains n) (opp_loadF rfl rfl (tyw ty94)) rfl rfl ?_
    refine dR (fun n => !([] : List Nat).contains n) (opr_callGA (t0 := 37) (rl := []) (A := [.top, .top, .top, .top, .top, .top, .top, .top, .top, .top]) (B := [.top, .top, .top, .top, .top, .top, .top, .top, .top, .top]) (B' := [.top, .top, .top, .top, .top, .top, .top, .top, .top, .top]) (H1 := []) (n1 := []) [true, true, true, true, true, true, true, true, true, true] rfl rfl rfl ent51 rfl rfl (fun vs => cg51l b false tag hx.1 hx.2.1 hx.2.2.1 hx.2.2.2.1 hx.2.2.2.2.1 hx.2.2.2.2.2.1 hx.2.2.2.2.2.2.1 hx.2.2.2.2.2.2.2 vs) rfl rfl rfl (by first | rfl | (simp only [oneB, rowA_one, rowV_one]; rfl)) (fun vs => And.intro rfl wka) (And.intro (And.intro rfl wka) True.intro) True.intro rfl (fun _ => rfl) (by simp only [mixB, List.getD_cons_zero, List.getD_cons_succ, cond_true, cond_false]; exact rfl) rfl rfl) rfl rfl rfl ?_
    refine dR0 (fun n => Nat.beq n 5) (opr_store (v := .agg _) (trn := (.agg _)) rfl rfl rfl rfl bi rfl rfl rfl rfl fr2 (tyw ty33) (fun _ _ h => h)) rfl rfl rfl ?_
    refine And.intro (by kernel_rfl) ?_
    refine awp_region rfl ?_
    refine sP (opp_mv (v := .int _ _) rfl rfl) rfl rfl ?_
    first
     | refine sP (opp_arith rfl rfl rfl (.inl ⟨rfl, w64 (by omega)⟩)) rfl rfl ?_
     | refine sP (opp_arith rfl rfl rfl (.inl ⟨rfl, rfl⟩)) rfl rfl ?_
    refine sP (opp_as (v := .int _ _) rfl rfl) rfl rfl ?_
    refine Exists.intro ((i + 1, e3, e8, e9, S)) (And.intro (And.intro (And.intro (by show i + 1 ≤ _; omega) (And.intro (hnx.trans (putR_0 _ _ _ _ hx)) (hk.up rfl rfl rfl))) (by first | omega | (dsimp only; omega))) (by
     rcases e3 with _ | _ <;> rcases e8 with _ | _ <;> rcases e9 with _ | _
     all_goals
      refine imp_over [] rfl rfl (by kernel_rfl) ?_ ?_
      ·iterate 13 refine And.intro wkv ?_
       exact True.intro
      ·refine And.intro (And.intro rfl (And.intro rfl (Exists.intro _ (And.intro rfl (by first | exact WkC.refl _ | (simp only [staB, snoc_len]; exact WkC.refl _)))))) ?_
       repeat (refine And.intro (And.intro rfl (And.intro rfl (Exists.intro _ (And.intro rfl (by first | exact WkC.refl _ | (simp only [snoc_len]; exact WkC.refl _)))))) ?_)
       exact True.intro
     ))
   ·(try simp only [cmpI, errD_nil, qa, qb, qc, qd] at ht34)
    exfalso; omega
  ·skip
   refine awp_seq (awp_seq (awp_region rfl ?_))
   refine sP (opp_mv (v := .int _ _) rfl rfl) rfl rfl ?_
   first
    | refine sP (opp_mv (v := .sl _ _ _ _) rfl rfl) rfl rfl ?_
    | refine sP (opp_mv (v := .osl _ _ _ _ _) rfl rfl) rfl rfl ?_
   first
    | refine sP (opp_lenSl rfl rfl un54) rfl rfl ?_
    | refine sP (opp_lenOsl rfl rfl un54) rfl rfl ?_
   refine sP (opp_cmp rfl rfl rfl rfl) rfl rfl ?_
   refine awp_cond _ rfl (fun ht34 => ?_) (fun ht34 => ?_)
   ·(try simp only [cmpI, errD_nil, qa, qb, qc, qd] at ht34)
    exfalso; omega
   ·(try simp only [cmpI, errD_nil, qa, qb, qc, qd] at ht34)
    refine awp_exit (awp_seq ?_)
    rcases e3 with _ | _ <;> rcases e8 with _ | _ <;> rcases e9 with _ | _
    all_goals skip
    all_goals refine awp_draw hmix rfl (by kernel_rfl) ?_
    all_goals first
     | refine dP (fun n => Nat.beq n 5) (opp_loadP rfl rfl rfl rfl bi rfl (tyw ty33)) rfl rfl ?_
     | refine dP (fun n => Nat.beq n 5) (opp_loadF rfl rfl (tyw ty33)) rfl rfl ?_
    all_goals refine dR (fun n => !([] : List Nat).contains n) (opr_call rfl rfl ent39 rfl (c39) (AViews.refl _ rfl)) rfl rfl rfl ?_ -- d=44 t=52 a=
    all_goals refine dR0 (fun n => Nat.beq n 2) (opr_store (v := .agg _) (trn := (.agg _)) rfl rfl rfl rfl bi rfl rfl rfl rfl fr2 (tyw ty33) (fun _ _ h => h)) rfl rfl rfl ?_
    all_goals refine dR0 (fun n => Nat.beq n 3) (opr_store (v := .agg _) (trn := (.agg _)) rfl rfl rfl rfl bi rfl rfl rfl rfl fr2 (tyw ty52) (fun _ _ h => h)) rfl rfl rfl ?_
    all_goals refine And.intro (by kernel_rfl) ?_
    all_goals refine awp_ret ?_
    all_goals repeat (first | refine athen_ret ?_ | refine ain_ret ?_)
    all_goals first
     | refine apost_ret (aend (l := [.agg _, .agg _]) (.cell rfl rfl rfl (by exact True.intro) rfl (tyw ty33) (.cell rfl rfl rfl (by exact True.intro) rfl (tyw ty52) .nil)) (fun h => by cases h) (.cons (.noN rfl rfl) (.cons (.noN rfl rfl) .nil)) ⟨Wk.v ?_, rfl, rfl⟩)
     | refine apost_ret (aends (l := [.agg _, .agg _]) (.cell rfl rfl rfl (by exact True.intro) rfl (tyw ty33) (.cell rfl rfl rfl (by exact True.intro) rfl (tyw ty52) .nil)) (fun h => by cases h) (.cons shut (fun h => by cases h) (.cons shut (fun h => by cases h) .nil)) rfl ⟨Wk.v ?_, rfl, rfl⟩)
    all_goals have hie : i = l.length := by omega
    all_goals rw [show Sp.fill l = (S, Sp.e0) from by unfold Sp.fill; rw [hwr, ← hS, hie, List.take_length]; rfl]
    all_goals exact .tup (.cons (.agg (.cons .refl (.cons .refl (.cons .refl (.cons (wkrow hk.p) (.cons .refl (.cons .refl (.cons .refl (.cons .refl (.cons (wkrow hk.q) (.cons (wkrow hk.g) .nil))))))))))) (.cons .refl .nil))
end
end Go.Proofs.YtpmgdmbcdohgcaaDoor
/- Plain Lean: states with any numbers in them (my own text; no program in sight). -/
set_option linter.unusedSimpArgs false
namespace Go.Fy
structure PrG where
  regs : Nat → Int
  pc : Int
  state : Int
  prio : Int
  wait : Int
  obj : Int
def prG (p : PrG) : AV := .agg [.arr 1 16 (fun j => .int .u32 (p.regs j)), .int .u32 p.pc, .int .i64 p.state, .int .i64 p.prio, .int .i64 p.wait, .int .i64 p.obj]
structure PtG where
  nn : Bool
  n : Nat
  msgs : Nat → List UInt8
  age : Int
def strG (m : Nat → List UInt8) (j : Nat) : AV := .str (m j)
def ptG (p : PtG) : AV := .agg [.sl 1 p.nn p.n (strG p.msgs), .int .i64 p.age]
structure PgG where
  rights : Int
  dirty : Bool
  data : Nat → Int
def pgG (g : PgG) : AV := .agg [.int .i64 g.rights, .bool g.dirty, .arr 1 64 (fun j => .int .u8 (g.data j))]
def prGA (P : Nat → PrG) (j : Nat) : AV := prG (P j)
def ptGA (P : Nat → PtG) (j : Nat) : AV := ptG (P j)
def pgGA (P : Nat → PgG) (j : Nat) : AV := pgG (P j)
def intG (f : Nat → Int) (j : Nat) : AV := .int .i64 (f j)
def boolG (f : Nat → Bool) (j : Nat) : AV := .bool (f j)
def tmG (f : Nat → Int × Int) (j : Nat) : AV := .agg [.int .i64 (f j).1, .int .i64 (f j).2]
structure StG where
  id : Int
  fr : Int
  ep : Int
  pb : Bool
  pn : Nat
  procs : Nat → PrG
  rb : Bool
  rn : Nat
  ready : Nat → Int
  tb : Bool
  tn : Nat
  timers : Nat → Int × Int
  ub : Bool
  un : Nat
  up : Nat → Bool
  sb : Bool
  sn : Nat
  sems : Nat → Int
  qb : Bool
  qn : Nat
  ports : Nat → PtG
  gb : Bool
  gn : Nat
  pages : Nat → PgG
def staG (s : StG) : AV := .agg [.int .i64 s.id, .int .i64 s.fr, .int .i64 s.ep, .sl 21 s.pb s.pn (prGA s.procs), .sl 1 s.rb s.rn (intG s.ready), .sl 2 s.tb s.tn (tmG s.timers), .sl 1 s.ub s.un (boolG s.up), .sl 1 s.sb s.sn (intG s.sems),
  .sl 2 s.qb s.qn (ptGA s.ports), .sl 66 s.gb s.gn (pgGA s.pages)]
/-- No row longer than any that a machine holds. -/
structure StG.ok (x : StG) : Prop where
  p : x.pn ≤ 140737488355328
  r : x.rn ≤ 140737488355328
  t : x.tn ≤ 140737488355328
  u : x.un ≤ 140737488355328
  s : x.sn ≤ 140737488355328
  q : x.qn ≤ 140737488355328
  m : ∀ j, j < x.qn → (x.ports j).n ≤ 140737488355328
  g : x.gn ≤ 140737488355328
/-- The same, field by field. -/
structure SameG (a b : StG) : Prop where
  id : a.id = b.id
  fr : a.fr = b.fr
  ep : a.ep = b.ep
  pn : a.pn = b.pn
  procs : ∀ j, j < a.pn → a.procs j = b.procs j
  rn : a.rn = b.rn
  ready : ∀ j, j < a.rn → a.ready j = b.ready j
  tn : a.tn = b.tn
  timers : ∀ j, j < a.tn → a.timers j = b.timers j
  un : a.un = b.un
  up : ∀ j, j < a.un → a.up j = b.up j
  sn : a.sn = b.sn
  sems : ∀ j, j < a.sn → a.sems j = b.sems j
  qn : a.qn = b.qn
  ports : ∀ j, j < a.qn → (a.ports j).age = (b.ports j).age ∧ (a.ports j).n = (b.ports j).n ∧ ∀ i, i < (a.ports j).n → (a.ports j).msgs i = (b.ports j).msgs i
  gn : a.gn = b.gn
  pages : ∀ j, j < a.gn → a.pages j = b.pages j
theorem SameG.refl (a : StG) : SameG a a := ⟨rfl, rfl, rfl, rfl, fun _ _ => rfl, rfl, fun _ _ => rfl, rfl, fun _ _ => rfl, rfl, fun _ _ => rfl, rfl, fun _ _ => rfl, rfl, fun _ _ => ⟨rfl, rfl, fun _ _ => rfl⟩, rfl, fun _ _ => rfl⟩
/-- A state that records say, so. -/
def stOf (s : Sta) : StG := ⟨0, s.frame, s.epoch, decide (s.procs.length = 0), s.procs.length, fun j => ⟨fun k => (((s.procs.getD j pr0).regs.getD k 0 : Nat) : Int), (s.procs.getD j pr0).pc, (s.procs.getD j pr0).state, (s.procs.getD j pr0).prio, (s.procs.getD j pr0).wait, (s.procs.getD j pr0).obj⟩,
  decide (s.ready.length = 0), s.ready.length, fun j => ((s.ready.getD j 0 : Nat) : Int), decide (s.timers.length = 0), s.timers.length, fun j => ((((s.timers.getD j (0, 0)).1 : Nat) : Int), (((s.timers.getD j (0, 0)).2 : Nat) : Int)),
  decide (s.up.length = 0), s.up.length, fun j => s.up.getD j false, decide (s.sems.length = 0), s.sems.length, fun j => ((s.sems.getD j 0 : Nat) : Int),
  decide (s.ports.length = 0), s.ports.length, fun j => ⟨decide ((s.ports.getD j pt0).msgs = []), (s.ports.getD j pt0).msgs.length, fun k => (s.ports.getD j pt0).msgs.getD k [], (s.ports.getD j pt0).age⟩,
  decide (s.pages.length = 0), s.pages.length, fun j => ⟨0, (s.pages.getD j pg0).dirty, fun k => (((s.pages.getD j pg0).data.getD k 0).toNat : Int)⟩⟩
end Go.Fy
