/- My own texts, packed: L19x, FyA5, FyA6, L20x, L21x, L22x, L23x. -/
import Derived.Test.YtpmgdmbcdohgcaaDoorM7
/- Layer 16: a process out of bytes (walks over this dump). -/
namespace Go.Proofs.YtpmgdmbcdohgcaaDoor
attribute [local irreducible] Tryd.prog
open Go.Fy
set_option linter.unusedSimpArgs false
set_option linter.unusedVariables false
def regAt (b : List UInt8) (i j : Nat) : AV := .int .u32 ((if j ≤ i then (Sp.proc b).regs.getD j 0 else 0 : Nat) : Int)
def upTo (k q n : Nat) : AV := .int .i64 ((bif Nat.blt q k then n else 0 : Nat) : Int)
theorem regs_get (b : List UInt8) (i : Nat) (h : i < 15) : (Sp.proc b).regs.getD (i + 1) 0 = Sp.fld b (4 * i) 4 := by
  simp [Sp.proc, List.getD_eq_getElem?_getD, h]
theorem regAt_next (b : List UInt8) (i j : Nat) (h : i < 15) : (if j = ((i : Int) + 1).toNat then AV.int .u32 (Sp.fld b (4 * i) 4 : Nat) else regAt b i j) = regAt b (i + 1) j := by
  rw [show ((i : Int) + 1).toNat = i + 1 by omega]
  by_cases h1 : j = i + 1
  · subst h1; rw [if_pos rfl]; unfold regAt; rw [if_pos (Nat.le_refl _), regs_get b i h]
  · rw [if_neg h1]; unfold regAt
    by_cases h2 : j ≤ i
    · rw [if_pos h2, if_pos (by omega)]
    · rw [if_neg h2, if_neg (by omega)]
section
variable {ea : Nat → Addr} {cds : List Nat} {gl : Nat → Option AV}
theorem c53 (b : List UInt8) (h0 : b.length = 68) : APure (V ea cds gl) 53 [.sl 1 false b.length (bAt b)] false (prAV (Sp.proc b)) := by
 refine acalls_of_body (N := 55) Tryd.func53 rfl rfl (Nat.le_of_ble_eq_true rfl) fun C hV hN hM hO => ?_
 obtain ⟨_, _, w0, G0, σ0, _, own0⟩ := C; dsimp only at hV hN hM hO; subst hV; subst hN; subst hM
 refine awp_seq (awp_region rfl ?_)
 refine sR (opr_alloc (n := 2) rfl z116) rfl rfl rfl ?_
 refine awp_seq (awp_region rfl ?_)
 refine sP (opp_mv (v := .sl _ _ _ _) rfl rfl) rfl rfl ?_
 refine sR (opr_callO (rl := [(8, 13)]) (r1 := .ptr _ _ _) (H1 := [(13, some (.agg [.sl _ _ _ _, .int _ _, .int _ _]))]) (n1 := [13]) rfl rfl ent45 rfl (co45 b (by omega)) (AViews.refl _ rfl) rfl rfl rfl rfl) rfl rfl rfl ?_
 refine sP (opp_as (v := .ptr _ _ _) rfl rfl) rfl rfl ?_
 refine awp_seq (awp_region rfl ?_)
 refine sR (opr_alloc (n := 4) rfl z116) rfl rfl rfl ?_
 refine awp_seq (awp_seq (awp_region rfl ?_))
 refine sP (opp_as (v := .int _ _) rfl rfl) rfl rfl ?_
 refine awp_block ?_
 refine awp_loopK (ι := Nat) (fun i => i ≤ 15) (fun i => [(5, .int .i64 ((i : Int) + 1)), (6, .top), (7, .top), (14, .top), (15, .top), (16, .top), (17, .top), (18, .top), (19, .top), (20, .top), (21, .top), (22, .top), (23, .top), (24, .top), (25, .top), (26, .top), (27, .top)]) (fun i => [(13, some (.agg [.sl 1 false b.length (bAt b), .int .i64 ((4 * i : Nat) : Int), .int .i64 (b.length : Int)])), (4, some (.agg [.arr 1 16 (regAt b i), .int .u32 0, .int .i64 0, .int .i64 0, .int .i64 0, .int .i64 0]))]) [] (fun i => 15 - i) (0) (Nat.zero_le _) (by
  refine imp_over [] rfl rfl (by kernel_rfl) ?_ ?_
  ·iterate 17 refine And.intro wkv ?_
   exact True.intro
  ·refine And.intro (And.intro rfl (And.intro rfl (Exists.intro _ (And.intro rfl wkc)))) ?_
   refine And.intro (And.intro rfl (And.intro rfl (Exists.intro _ (And.intro rfl (by exact Wk.c (Wk.agg (.cons (.arr (fun j hj => by unfold regAt; by_cases h : j ≤ 0; rw [if_pos h, show j = 0 by omega]; rfl; rw [if_neg h]; rfl)) (.cons .refl (.cons .refl (.cons .refl (.cons .refl (.cons .refl .nil)))))))))))) ?_
   exact True.intro
  ) ?_
 intro i hi1
 refine awp_seq (awp_seq (awp_region rfl ?_))
 refine sP (opp_mv (v := .int _ _) rfl rfl) rfl rfl ?_
 refine sP (opp_cmp rfl rfl rfl rfl) rfl rfl ?_
 refine awp_cond _ rfl (fun ht15 => ?_) (fun ht15 => ?_)
 ·(try simp only [cmpI, errD_nil, qa, qb, qc, qd] at ht15)
  refine awp_skip (awp_seq (awp_block (awp_seq (awp_region rfl ?_))))
  refine sP (opp_mv (v := .ptr _ _ _) rfl rfl) rfl rfl ?_
  refine sR (opr_callG (rl := [(1, 13)]) (r1 := .tup [.int _ _, .err _]) (H1 := [(13, some (.agg [.sl _ _ _ _, .int _ _, .int _ _]))]) (n1 := []) rfl rfl ent47 (cg47c b false (4 * i) b.length (by omega) (by omega) (by omega)) (And.intro (And.intro rfl wka) True.intro) (And.intro (And.intro rfl (Exists.intro _ (And.intro rfl wkc))) True.intro) rfl rfl rfl rfl) rfl rfl rfl ?_
  refine sP (opp_mv (v := .tup _) rfl rfl) rfl rfl ?_
  refine sP (opp_extract rfl rfl rfl) rfl rfl ?_
  refine sP (opp_extract rfl rfl rfl) rfl rfl ?_
  refine sP (opp_as (v := .int _ _) rfl rfl) rfl rfl ?_
  refine sP (opp_as (v := .err _) rfl rfl) rfl rfl ?_
  have hf := fld_lt b (4 * i) 4
  refine awp_region rfl ?_
  refine sP (opp_mv (v := .int _ _) rfl rfl) rfl rfl ?_
  refine sP (opp_mv (v := .int _ _) rfl rfl) rfl rfl ?_
  refine sP (opp_convInt rfl rfl un3s un45 (wu32 (by omega))) rfl rfl ?_
  refine sP (opp_fieldP rfl rfl fld116_0 rfl) rfl rfl ?_
  refine sP (opp_indexArrP rfl rfl rfl arr114 (by omega) (by omega)) rfl rfl ?_
  refine sR0 (opr_store (v := .int _ _) (trn := (.agg [_, _, _, _, _, _])) rfl rfl rfl rfl bi rfl rfl rfl rfl fr2 ty45 (fun _ _ h => h)) rfl rfl rfl ?_
  refine awp_region rfl ?_
  refine sP (opp_mv (v := .int _ _) rfl rfl) rfl rfl ?_
  refine sP (opp_arith rfl rfl rfl (.inl ⟨rfl, w64 (by omega)⟩)) rfl rfl ?_
  refine sP (opp_as (v := .int _ _) rfl rfl) rfl rfl ?_
  refine Exists.intro (i + 1) (And.intro (And.intro (by omega) (by first | omega | (dsimp only; omega))) (by
   refine imp_over [] rfl rfl (by kernel_rfl) ?_ ?_
   ·refine And.intro (by exact Or.inr (And.intro rfl (WkV.of (by show AV.int .i64 _ = AV.int .i64 _; simp)))) ?_
    iterate 16 refine And.intro wkv ?_
    exact True.intro
   ·refine And.intro (And.intro rfl (And.intro rfl (Exists.intro _ (And.intro rfl (by exact WkC.of (by show AV.agg [_, AV.int .i64 _, _] = AV.agg [_, AV.int .i64 _, _]; rw [show 4 * i + 4 = 4 * (i + 1) by omega]; rfl)))))) ?_
    refine And.intro (And.intro rfl (And.intro rfl (Exists.intro _ (And.intro rfl (by show WkC (AV.agg [AV.arr 1 16 _, _, _, _, _, _]) (AV.agg [AV.arr 1 16 _, _, _, _, _, _]); exact Wk.c (Wk.agg (.cons (.arr (fun j hj => regAt_next b i j (by omega))) (.cons .refl (.cons .refl (.cons .refl (.cons .refl (.cons .refl .nil)))))))))))) ?_
    exact True.intro
   ))
 ·(try simp only [cmpI, errD_nil, qa, qb, qc, qd] at ht15)
  refine awp_exit (awp_seq ?_)
  have hie : i = 15 := by omega
  subst hie
  refine awp_region rfl ?_
  refine sP (opp_mv (v := .ptr _ _ _) rfl rfl) rfl rfl ?_
  refine sR (opr_callG (rl := [(1, 13)]) (r1 := .tup [.int _ _, .err _]) (H1 := [(13, some (.agg [.sl _ _ _ _, .int _ _, .int _ _]))]) (n1 := []) rfl rfl ent47 (cg47c b false 60 b.length (by omega) (by omega) (by omega)) (And.intro (And.intro rfl wka) True.intro) (And.intro (And.intro rfl (Exists.intro _ (And.intro rfl wkc))) True.intro) rfl rfl rfl rfl) rfl rfl rfl ?_
  refine sP (opp_mv (v := .tup _) rfl rfl) rfl rfl ?_
  refine sP (opp_extract rfl rfl rfl) rfl rfl ?_
  refine sP (opp_extract rfl rfl rfl) rfl rfl ?_
  refine sP (opp_as (v := .int _ _) rfl rfl) rfl rfl ?_
  refine sP (opp_as (v := .err _) rfl rfl) rfl rfl ?_
  refine awp_seq ?_
  have hf := fld_lt b 60 4
  refine awp_region rfl ?_
  refine sP (opp_mv (v := .int _ _) rfl rfl) rfl rfl ?_
  refine sP (opp_convInt rfl rfl un3s un45 (wu32 (by omega))) rfl rfl ?_
  refine sP (opp_fieldP rfl rfl fld116_1 rfl) rfl rfl ?_
  refine sR0 (opr_store (v := .int _ _) (trn := (.agg [_, .int _ _, _, _, _, _])) rfl rfl rfl rfl bi rfl rfl rfl rfl fr2 ty45 (fun _ _ h => h)) rfl rfl rfl ?_
  refine awp_seq (awp_seq (awp_region rfl ?_))
  refine sP (opp_fieldP rfl rfl fld116_2 rfl) rfl rfl ?_
  refine sP (opp_fieldP rfl rfl fld116_3 rfl) rfl rfl ?_
  refine sP (opp_fieldP rfl rfl fld116_4 rfl) rfl rfl ?_
  refine sP (opp_fieldP rfl rfl fld116_5 rfl) rfl rfl ?_
  refine sR (opr_build4 (n := 40) rfl eb147 z146 rfl rfl rfl rfl) rfl rfl rfl ?_
  refine sP (opp_lenOsl rfl rfl un147) rfl rfl ?_
  refine sP (opp_mv (v := .int _ _) rfl rfl) rfl rfl ?_
  refine awp_block ?_
  refine awp_loopK (ι := Nat) (fun k => k ≤ 4) (fun k => [(11, .top), (42, .int .i64 (k : Int)), (43, .top), (44, .top), (45, .top), (46, .top), (47, .top), (48, .top), (49, .top), (50, .top), (51, .top), (52, .top), (53, .top)]) (fun k => [(13, some (.agg [.sl 1 false b.length (bAt b), .int .i64 ((64 + k : Nat) : Int), .int .i64 (b.length : Int)])), (4, some (.agg [.arr 1 16 (regAt b 15), .int .u32 (Sp.fld b 60 4 : Nat), upTo k 0 (Sp.fld b 64 1), upTo k 1 (Sp.fld b 65 1), upTo k 2 (Sp.fld b 66 1), upTo k 3 (Sp.fld b 67 1)]))]) [] (fun k => 4 - k) (0) (Nat.zero_le _) (by
   refine imp_over [] rfl rfl (by kernel_rfl) ?_ ?_
   ·iterate 13 refine And.intro wkv ?_
    exact True.intro
   ·refine And.intro (And.intro rfl (And.intro rfl (Exists.intro _ (And.intro rfl wkc)))) ?_
    refine And.intro (And.intro rfl (And.intro rfl (Exists.intro _ (And.intro rfl wkc)))) ?_
    exact True.intro
   ) ?_
  intro k hk; have hk5 : k = 0 ∨ k = 1 ∨ k = 2 ∨ k = 3 ∨ k = 4 := (by omega); rcases hk5 with rfl | rfl | rfl | rfl | rfl
  ·skip
   refine awp_seq (awp_region rfl ?_)
   refine sP (opp_cmp rfl rfl rfl rfl) rfl rfl ?_
   refine awp_seq ?_
   refine awp_cond _ rfl (fun ht43 => ?_) (fun ht43 => ?_)
   ·(try simp only [cmpI, errD_nil, qa, qb, qc, qd] at ht43)
    refine awp_skip (awp_seq (awp_block (awp_seq (awp_region rfl ?_))))
    refine sP (opp_indexOsl0 rfl rfl rfl el147 (by omega) (by omega)) rfl rfl ?_
    refine sP (opp_loadP rfl rfl rfl rfl bi rfl ty146) rfl rfl ?_
    refine sP (opp_as (v := .ptr _ _ _) rfl rfl) rfl rfl ?_
    refine awp_region rfl ?_
    refine sP (opp_mv (v := .ptr _ _ _) rfl rfl) rfl rfl ?_
    refine sP (opp_mv (v := .ptr _ _ _) rfl rfl) rfl rfl ?_
    refine sR (opr_callG (rl := [(1, 13)]) (r1 := .tup [.int _ _, .err _]) (H1 := [(13, some (.agg [.sl _ _ _ _, .int _ _, .int _ _]))]) (n1 := []) rfl rfl ent56 (cg56c b false 64 b.length (by omega) (by omega) (by omega)) (And.intro (And.intro rfl wka) True.intro) (And.intro (And.intro rfl (Exists.intro _ (And.intro rfl wkc))) True.intro) rfl rfl rfl rfl) rfl rfl rfl ?_
    refine sP (opp_mv (v := .tup _) rfl rfl) rfl rfl ?_
    refine sP (opp_extract rfl rfl rfl) rfl rfl ?_
    refine sP (opp_extract rfl rfl rfl) rfl rfl ?_
    refine sP (opp_nilCheckP rfl rfl) rfl rfl ?_
    refine sR0 (opr_store (v := .int _ _) (trn := (.agg [_, _, _, _, _, _])) rfl rfl rfl rfl bi rfl rfl rfl rfl fr2 ty3 (fun _ _ h => h)) rfl rfl rfl ?_
    refine awp_region rfl ?_
    refine sP (opp_arith rfl rfl rfl (.inl ⟨rfl, w64 (by omega)⟩)) rfl rfl ?_
    refine sP (opp_mv (v := .int _ _) rfl rfl) rfl rfl ?_
    refine Exists.intro (1) (And.intro (And.intro (by omega) (by first | omega | (dsimp only; omega))) (by
     refine imp_over [] rfl rfl (by kernel_rfl) ?_ ?_
     ·iterate 13 refine And.intro wkv ?_
      exact True.intro
     ·refine And.intro (And.intro rfl (And.intro rfl (Exists.intro _ (And.intro rfl wkc)))) ?_
      refine And.intro (And.intro rfl (And.intro rfl (Exists.intro _ (And.intro rfl wkc)))) ?_
      exact True.intro
     ))
   ·(try simp only [cmpI, errD_nil, qa, qb, qc, qd] at ht43)
    exfalso; simp [cmpI] at ht43
  ·skip
   refine awp_seq (awp_region rfl ?_)
   refine sP (opp_cmp rfl rfl rfl rfl) rfl rfl ?_
   refine awp_seq ?_
   refine awp_cond _ rfl (fun ht43 => ?_) (fun ht43 => ?_)
   ·(try simp only [cmpI, errD_nil, qa, qb, qc, qd] at ht43)
    refine awp_skip (awp_seq (awp_block (awp_seq (awp_region rfl ?_))))
    refine sP (opp_indexOsl0 rfl rfl rfl el147 (by omega) (by omega)) rfl rfl ?_
    refine sP (opp_loadP rfl rfl rfl rfl bi rfl ty146) rfl rfl ?_
    refine sP (opp_as (v := .ptr _ _ _) rfl rfl) rfl rfl ?_
    refine awp_region rfl ?_
    refine sP (opp_mv (v := .ptr _ _ _) rfl rfl) rfl rfl ?_
    refine sP (opp_mv (v := .ptr _ _ _) rfl rfl) rfl rfl ?_
    refine sR (opr_callG (rl := [(1, 13)]) (r1 := .tup [.int _ _, .err _]) (H1 := [(13, some (.agg [.sl _ _ _ _, .int _ _, .int _ _]))]) (n1 := []) rfl rfl ent56 (cg56c b false 65 b.length (by omega) (by omega) (by omega)) (And.intro (And.intro rfl wka) True.intro) (And.intro (And.intro rfl (Exists.intro _ (And.intro rfl wkc))) True.intro) rfl rfl rfl rfl) rfl rfl rfl ?_
    refine sP (opp_mv (v := .tup _) rfl rfl) rfl rfl ?_
    refine sP (opp_extract rfl rfl rfl) rfl rfl ?_
    refine sP (opp_extract rfl rfl rfl) rfl rfl ?_
    refine sP (opp_nilCheckP rfl rfl) rfl rfl ?_
    refine sR0 (opr_store (v := .int _ _) (trn := (.agg [_, _, _, _, _, _])) rfl rfl rfl rfl bi rfl rfl rfl rfl fr2 ty3 (fun _ _ h => h)) rfl rfl rfl ?_
    refine awp_region rfl ?_
    refine sP (opp_arith rfl rfl rfl (.inl ⟨rfl, w64 (by omega)⟩)) rfl rfl ?_
    refine sP (opp_mv (v := .int _ _) rfl rfl) rfl rfl ?_
    refine Exists.intro (2) (And.intro (And.intro (by omega) (by first | omega | (dsimp only; omega))) (by
     refine imp_over [] rfl rfl (by kernel_rfl) ?_ ?_
     ·iterate 13 refine And.intro wkv ?_
      exact True.intro
     ·refine And.intro (And.intro rfl (And.intro rfl (Exists.intro _ (And.intro rfl wkc)))) ?_
      refine And.intro (And.intro rfl (And.intro rfl (Exists.intro _ (And.intro rfl wkc)))) ?_
      exact True.intro
     ))
   ·(try simp only [cmpI, errD_nil, qa, qb, qc, qd] at ht43)
    exfalso; simp [cmpI] at ht43
  ·skip
   refine awp_seq (awp_region rfl ?_)
   refine sP (opp_cmp rfl rfl rfl rfl) rfl rfl ?_
   refine awp_seq ?_
   refine awp_cond _ rfl (fun ht43 => ?_) (fun ht43 => ?_)
   ·(try simp only [cmpI, errD_nil, qa, qb, qc, qd] at ht43)
    refine awp_skip (awp_seq (awp_block (awp_seq (awp_region rfl ?_))))
    refine sP (opp_indexOsl0 rfl rfl rfl el147 (by omega) (by omega)) rfl rfl ?_
    refine sP (opp_loadP rfl rfl rfl rfl bi rfl ty146) rfl rfl ?_
    refine sP (opp_as (v := .ptr _ _ _) rfl rfl) rfl rfl ?_
    refine awp_region rfl ?_
    refine sP (opp_mv (v := .ptr _ _ _) rfl rfl) rfl rfl ?_
    refine sP (opp_mv (v := .ptr _ _ _) rfl rfl) rfl rfl ?_
    refine sR (opr_callG (rl := [(1, 13)]) (r1 := .tup [.int _ _, .err _]) (H1 := [(13, some (.agg [.sl _ _ _ _, .int _ _, .int _ _]))]) (n1 := []) rfl rfl ent56 (cg56c b false 66 b.length (by omega) (by omega) (by omega)) (And.intro (And.intro rfl wka) True.intro) (And.intro (And.intro rfl (Exists.intro _ (And.intro rfl wkc))) True.intro) rfl rfl rfl rfl) rfl rfl rfl ?_
    refine sP (opp_mv (v := .tup _) rfl rfl) rfl rfl ?_
    refine sP (opp_extract rfl rfl rfl) rfl rfl ?_
    refine sP (opp_extract rfl rfl rfl) rfl rfl ?_
    refine sP (opp_nilCheckP rfl rfl) rfl rfl ?_
    refine sR0 (opr_store (v := .int _ _) (trn := (.agg [_, _, _, _, _, _])) rfl rfl rfl rfl bi rfl rfl rfl rfl fr2 ty3 (fun _ _ h => h)) rfl rfl rfl ?_
    refine awp_region rfl ?_
    refine sP (opp_arith rfl rfl rfl (.inl ⟨rfl, w64 (by omega)⟩)) rfl rfl ?_
    refine sP (opp_mv (v := .int _ _) rfl rfl) rfl rfl ?_
    refine Exists.intro (3) (And.intro (And.intro (by omega) (by first | omega | (dsimp only; omega))) (by
     refine imp_over [] rfl rfl (by kernel_rfl) ?_ ?_
     ·iterate 13 refine And.intro wkv ?_
      exact True.intro
     ·refine And.intro (And.intro rfl (And.intro rfl (Exists.intro _ (And.intro rfl wkc)))) ?_
      refine And.intro (And.intro rfl (And.intro rfl (Exists.intro _ (And.intro rfl wkc)))) ?_
      exact True.intro
     ))
   ·(try simp only [cmpI, errD_nil, qa, qb, qc, qd] at ht43)
    exfalso; simp [cmpI] at ht43
  ·skip
   refine awp_seq (awp_region rfl ?_)
   refine sP (opp_cmp rfl rfl rfl rfl) rfl rfl ?_
   refine awp_seq ?_
   refine awp_cond _ rfl (fun ht43 => ?_) (fun ht43 => ?_)
   ·(try simp only [cmpI, errD_nil, qa, qb, qc, qd] at ht43)
    refine awp_skip (awp_seq (awp_block (awp_seq (awp_region rfl ?_))))
    refine sP (opp_indexOsl0 rfl rfl rfl el147 (by omega) (by omega)) rfl rfl ?_
    refine sP (opp_loadP rfl rfl rfl rfl bi rfl ty146) rfl rfl ?_
    refine sP (opp_as (v := .ptr _ _ _) rfl rfl) rfl rfl ?_
    refine awp_region rfl ?_
    refine sP (opp_mv (v := .ptr _ _ _) rfl rfl) rfl rfl ?_
    refine sP (opp_mv (v := .ptr _ _ _) rfl rfl) rfl rfl ?_
    refine sR (opr_callG (rl := [(1, 13)]) (r1 := .tup [.int _ _, .err _]) (H1 := [(13, some (.agg [.sl _ _ _ _, .int _ _, .int _ _]))]) (n1 := []) rfl rfl ent56 (cg56c b false 67 b.length (by omega) (by omega) (by omega)) (And.intro (And.intro rfl wka) True.intro) (And.intro (And.intro rfl (Exists.intro _ (And.intro rfl wkc))) True.intro) rfl rfl rfl rfl) rfl rfl rfl ?_
    refine sP (opp_mv (v := .tup _) rfl rfl) rfl rfl ?_
    refine sP (opp_extract rfl rfl rfl) rfl rfl ?_
    refine sP (opp_extract rfl rfl rfl) rfl rfl ?_
    refine sP (opp_nilCheckP rfl rfl) rfl rfl ?_
    refine sR0 (opr_store (v := .int _ _) (trn := (.agg [_, _, _, _, _, _])) rfl rfl rfl rfl bi rfl rfl rfl rfl fr2 ty3 (fun _ _ h => h)) rfl rfl rfl ?_
    refine awp_region rfl ?_
    refine sP (opp_arith rfl rfl rfl (.inl ⟨rfl, w64 (by omega)⟩)) rfl rfl ?_
    refine sP (opp_mv (v := .int _ _) rfl rfl) rfl rfl ?_
    refine Exists.intro (4) (And.intro (And.intro (by omega) (by first | omega | (dsimp only; omega))) (by
     refine imp_over [] rfl rfl (by kernel_rfl) ?_ ?_
     ·iterate 13 refine And.intro wkv ?_
      exact True.intro
     ·refine And.intro (And.intro rfl (And.intro rfl (Exists.intro _ (And.intro rfl wkc)))) ?_
      refine And.intro (And.intro rfl (And.intro rfl (Exists.intro _ (And.intro rfl wkc)))) ?_
      exact True.intro
     ))
   ·(try simp only [cmpI, errD_nil, qa, qb, qc, qd] at ht43)
    exfalso; simp [cmpI] at ht43
  ·skip
   refine awp_seq (awp_region rfl ?_)
   refine sP (opp_cmp rfl rfl rfl rfl) rfl rfl ?_
   refine awp_seq ?_
   refine awp_cond _ rfl (fun ht43 => ?_) (fun ht43 => ?_)
   ·(try simp only [cmpI, errD_nil, qa, qb, qc, qd] at ht43)
    exfalso; simp [cmpI] at ht43
   ·(try simp only [cmpI, errD_nil, qa, qb, qc, qd] at ht43)
    refine awp_exit (awp_seq (awp_region rfl ?_))
    refine sP (opp_loadP rfl rfl rfl rfl bi rfl ty116) rfl rfl ?_
    refine sR0 (opr_store (v := .agg _) (trn := (.agg _)) rfl rfl rfl rfl bi rfl rfl rfl rfl fr2 ty116 (fun _ _ h => h)) rfl rfl rfl ?_
    refine awp_ret ?_
    repeat (first | refine athen_ret ?_ | refine ain_ret ?_)
    refine apost_ret (aend1 (r0 := .agg _) (.cell rfl rfl rfl (by exact True.intro) rfl ty116 .nil) (.noN rfl rfl) ⟨Wk.v ?_, rfl, rfl⟩)
    exact .agg (.cons (.arr (fun j hj => by unfold regAt; rw [if_pos (by omega)])) (.cons .refl (.cons .refl (.cons .refl (.cons .refl (.cons .refl .nil))))))
end
end Go.Proofs.YtpmgdmbcdohgcaaDoor
/- The engine, 29: calls that are told a part of a struct that is handed over (my own text; any program). -/
set_option linter.unusedSimpArgs false
namespace Go.Fy
open Go.RowKit
/-- Like ρ, but at one slot. -/
def atT (t0 : Nat) (X : AV) (ρ : Operand → AV) : Operand → AV
  | .tmp t => bif Nat.beq t t0 then X else ρ (.tmp t)
  | x => ρ x
def notT (t0 : Nat) : Operand → Bool
  | .tmp t => !Nat.beq t t0
  | _ => true
theorem atT_not {t0 : Nat} {X : AV} {ρ : Operand → AV} : ∀ {x : Operand}, notT t0 x = true → atT t0 X ρ x = ρ x
  | .tmp t, h => by simp only [notT, Bool.not_eq_true'] at h; simp only [atT, h, cond_false]
  | .const _, _ => rfl
  | .global _, _ => rfl
  | .func _, _ => rfl
section
variable {C : Ctx} {o : Oper} {ρ : Operand → AV} {η : Nat → Option AV}
/-- A call of a function that is told only some of the fields of its first argument (m: the others) and answers that struct. -/
theorem opr_callGA {fo : Operand} {as1 : Array Operand} {ts : Array TypeId} {g : FuncId} {args : List AV} {H H0 H1 : List (Nat × Option AV)} {n1 : List Nat} {rl : List (Nat × Nat)} {t0 : Nat} {xs : List Operand} {A B B' Y Z : List AV} (m : List Bool)
    (ho : o.op = .call { callee := .value fo, args := as1, argTypes := ts }) (hf : ρ fo = .fn g []) (hfo : notT t0 fo = true) (he : Ent C.V.P g)
    (has : as1.toList = .tmp t0 :: xs) (hxs : xs.all (notT t0) = true)
    (h : ∀ vs : Nat → Value, AGen C.V g (.agg (mixB m A 0 fun k => .val (vs k)) :: args) H (.agg (mixB m B 0 fun k => .val (vs k))) H0)
    (hY : ρ (.tmp t0) = .agg Y) (hm : m.length = Y.length) (hB : B'.length = m.length) (hone : oneB m Y = true)
    (hv0 : ∀ vs : Nat → Value, (AV.agg (mixB m A 0 fun k => .val (vs k))).inB (H.map (·.1)) = true ∧ WkV (.agg (mixB m Y 0 fun k => .val (vs k))) ((AV.agg (mixB m A 0 fun k => .val (vs k))).ren (ap rl)))
    (hv : AArg C rl (H.map (·.1)) (xs.map ρ) args) (hin : HIn η rl (H.map (·.1)) H)
    (hH : (H0.map fun p => (ap rl p.1, p.2.map (AV.ren (ap rl)))) = H1) (hBr : ∀ vs : Nat → Value, (AV.agg (mixB m B 0 fun k => .val (vs k))).ren (ap rl) = .agg (mixB m B' 0 fun k => .val (vs k)))
    (hZ : (mixB m B' 0 fun k => Y.getD k .top) = Z)
    (hn1 : ((H0.filter fun p => !keyIn H p.1).map fun p => ap rl p.1) = n1) (hok : okG rl H H0 = true) :
    OpR C o ρ η ⟨.agg Z, H1, n1⟩ := by
  intro hd S hρ hη hn a w ⟨σ, hc⟩
  obtain ⟨F, HS, nmS⟩ := S
  have hx0 := hρ (.tmp t0) (by simp [ho, Op.operands, Call.operands, ← Array.mem_toList_iff, has]) _ _ rfl (ev_rel hc _)
  rw [hY] at hx0
  simp only [RelV] at hx0
  obtain ⟨cs, hcs, hrel⟩ := hx0
  obtain ⟨vs, hdown, hup⟩ := mix_down m Y cs.toList 0 (fun k => Y.getD k .top) hm (oneB_out hone) (fun j hj => by simp [hj]) hrel
  have hcS : ConcS C ⟨(t0, .agg (mixB m Y 0 fun k => .val (vs k))) :: F, HS, nmS⟩ a w σ := by
    refine ⟨hc.ok, hc.defers, hc.size, hc.kept, hc.σ0, hc.inj, hc.blk, hc.env, fun t => ?_⟩
    show RelV (C.RE ⟨F, HS, nmS⟩ w σ) (getF ((t0, _) :: F) t) _
    rw [getF_cons]
    by_cases e : t0 = t
    · subst e
      rw [if_pos rfl]
      have : a.tmps.getD t0 undef = .agg cs := hcs
      rw [this]
      simp only [RelV]
      exact ⟨cs, rfl, hdown⟩
    · rw [if_neg e]; exact hc.slot t
  have hmap : as1.toList.map (atT t0 (.agg (mixB m Y 0 fun k => .val (vs k))) ρ) = .agg (mixB m Y 0 fun k => .val (vs k)) :: xs.map ρ := by
    rw [has, List.map_cons]
    congr 1
    · simp [atT, Nat.beq_refl]
    · exact List.map_congr_left fun x hx => atT_not (List.all_eq_true.1 hxs x hx)
  have hcall := opr_callG_le (C := C) (o := o) (ρ := atT t0 (.agg (mixB m Y 0 fun k => .val (vs k))) ρ) (η := η) (rl := rl) ho (by rw [atT_not hfo]; exact hf) he (h vs) (by
      rw [hmap]; exact ⟨hv0 vs, hv⟩) hin (hBr vs) hH hn1 hok hd ⟨(t0, .agg (mixB m Y 0 fun k => .val (vs k))) :: F, HS, nmS⟩ (fun x hx => by
      cases x with
      | tmp t =>
        show Sub C.V (getF ((t0, _) :: F) t) _
        rw [getF_cons]
        by_cases e : t0 = t
        · subst e; rw [if_pos rfl]; simp only [atT, Nat.beq_refl, cond_true]; exact Sub.refl _ _
        · rw [if_neg e]
          have e2 : Nat.beq t t0 = false := Bool.eq_false_iff.2 fun e' => e (Nat.eq_of_beq_eq_true e').symm
          simp only [atT, e2, cond_false]; exact hρ _ hx
      | const v => exact hρ _ hx
      | global v => exact hρ _ hx
      | func v => exact hρ _ hx) hη hn a w σ hcS
  refine Oper.wp_mono (fun a' w' ⟨σ', h1, h2, v, ha'⟩ => ⟨σ', ?_⟩) hcall
  subst hZ
  have hle : (C.RE ⟨F, HS, nmS⟩ w σ).le (C.RE (St.upd ⟨F, HS, nmS⟩ o.dst ⟨.agg (mixB m B' 0 fun k => Y.getD k .top), H1, n1⟩) w' σ') := h2
  refine ⟨h1.ok, h1.defers, h1.size, h1.kept, h1.σ0, h1.inj, h1.blk, h1.env, fun t => ?_⟩
  have hs1 := h1.slot
  have hold : ∀ t, RelV (C.RE (St.upd ⟨F, HS, nmS⟩ o.dst ⟨.agg (mixB m B' 0 fun k => Y.getD k .top), H1, n1⟩) w' σ') (getF F t) (a.tmps.getD t undef) := fun t => RelV.le hle _ _ (hc.slot t)
  revert hs1 hold
  generalize hE : C.RE (St.upd ⟨F, HS, nmS⟩ o.dst ⟨.agg (mixB m B' 0 fun k => Y.getD k .top), H1, n1⟩) w' σ' = E' at hle
  intro hs1 hold
  have hs2 : ∀ t, RelV E' (getF (St.upd ⟨(t0, .agg (mixB m Y 0 fun k => .val (vs k))) :: F, HS, nmS⟩ o.dst ⟨.agg (mixB m B' 0 fun k => .val (vs k)), H1, n1⟩).F t) (a'.tmps.getD t undef) := fun t => by rw [← hE]; exact hs1 t
  show RelV E' (getF (St.upd ⟨F, HS, nmS⟩ o.dst ⟨.agg (mixB m B' 0 fun k => Y.getD k .top), H1, n1⟩).F t) (a'.tmps.getD t undef)
  cases hdst : o.dst with
  | none =>
    rw [hdst] at ha'
    subst ha'
    exact hold t
  | some d =>
    rw [hdst] at ha' hs2
    have h3 := hs2 d
    simp only [St.upd, getF_cons, if_true] at h3
    show RelV E' (getF ((d, _) :: F) t) _
    rw [getF_cons]
    by_cases e : d = t
    · subst e
      rw [if_pos rfl]
      simp only [RelV] at h3 ⊢
      obtain ⟨cs', hcs', hrel'⟩ := h3
      exact ⟨cs', hcs', hup E' B' cs'.toList hB hle hrel'⟩
    · rw [if_neg e]
      subst ha'
      have := hold t
      simpa [Act.put, Array.getD_eq_getD_getElem?, Array.getElem?_setIfInBounds_ne e] using this
end
end Go.Fy
/- The engine, 30: rows over arrays, copy (my own text; any program). -/
set_option linter.unusedSimpArgs false
namespace Go.Fy
open Go.RowKit
theorem bound_run {E : RE} {ρ : Operand → AV} {ε : Operand → Value} {d : Int} {lo : Option Operand} {l : Int} (hr : ∀ x, lo = some x → RelV E (ρ x) (ε x)) (hlo : bound d (lo.map ρ) = some l) :
    lo.map ε = none ∧ l = d ∨ ∃ k, lo.map ε = some (.int k l) := by
  cases lo with
  | none => simp [bound] at hlo; left; exact ⟨rfl, hlo.symm⟩
  | some y =>
    have e := hr y rfl
    simp only [Option.map_some] at hlo ⊢
    cases hy : ρ y <;> simp only [hy, bound] at hlo <;> first | (cases hlo; done) | skip
    rw [hy] at e; simp only [RelV] at e
    right; simp only [Option.some.injEq] at hlo; subst hlo; exact ⟨_, by rw [e]⟩
section
variable {V : Env} {o : Oper} {ρ : Operand → AV} {η : Nat → Option AV}
/-- a[l:h] of an array that lies in an own block. -/
theorem opp_sliceArrP {x : Operand} {lo hi : Option Operand} {t : TypeId} {z n b off q : Nat} {p : List Nat} {f : Nat → AV} {tr : AV} {l h : Int} {g : Bool} (ho : o.op = .slice t x lo hi none)
    (hx : ρ x = .ptr b p off) (hH : η b = some tr) (hg : getP p tr = some (.arr z n f)) (hin : inP p tr) (hoff : offP p tr = off) (hq : q * z = off) (hlo : bound 0 (lo.map ρ) = some l) (hhi : bound n (hi.map ρ) = some h) (ht : arrOf V.P t = some (n, z, g))
    (h0 : 0 ≤ l) (h1 : l ≤ h) (h2 : h ≤ n) : OpP V o ρ η (.osl b z (q + l.toNat) (h - l).toNat (n - l.toNat)) :=
  opp_val fun E ε _ _ hr hη => by
    have e1 := hr x (by simp [ho, Op.operands])
    rw [hx] at e1
    simp only [RelV, Rel, List.cons.injEq, and_true] at e1
    obtain ⟨hm, ha⟩ := e1
    have e2 := bound_run (fun y hy => hr y (by simp [ho, Op.operands, hy])) hlo
    have e3 := bound_run (fun y hy => hr y (by simp [ho, Op.operands, hy])) hhi
    obtain ⟨e, hu, hz, -⟩ := arrOf_spec ht
    obtain ⟨hbm, c, ty, fr, cs, rest, g1, g2, g3, g4⟩ := hη b tr hH
    obtain ⟨k1, k2⟩ := rel_getP p tr cs _ g3 hg hin
    rw [hoff] at k2
    have hsz : (AV.arr z n f).sz = n * z := by simp [AV.sz]
    rw [hsz] at k2
    have hcl : cs.length ≤ c.size := by rw [← Array.length_toList, g2]; simp
    refine ⟨.slice (some (if n = l.toNat then ⟨E.σ b, off, none⟩ else (⟨E.σ b, off, none⟩ : Addr).add (l.toNat * z))) (h.toNat - l.toNat) (n - l.toNat), ?_, ?_⟩
    · simp only [execOp, ho, ha, Option.map_none, Instr.sliceAt, Sem.run_bind, run_underlying hu, Result.andThen, Sem.run_pure, Instr.sureAddr,
        sliceBounds_run false n n _ _ l h e2 e3 h0 h1 h2, hz]
    · simp only [RelV, Rel, List.cons.injEq, and_true, Value.slice.injEq]
      refine ⟨hm, by omega, if n = l.toNat then off else off + l.toNat * z, n - l.toNat, ⟨?_, by omega, rfl⟩, Nat.le_refl _, fun hpos => ?_, c, ty, fr, g1, ?_⟩
      · split
        · rfl
        · rw [add_eq rfl]
      · rw [if_neg (by omega), Nat.add_mul, hq]
      · have e5 : q + l.toNat + (n - l.toNat) = q + n := by omega
        rw [e5, Nat.add_mul, hq]; omega
end
theorem arr_drop {E : RE} {z n m : Nat} {f : Nat → AV} {as1 : List Value} (h : Rel E (.arr z m f) as1) (hn : n ≤ m) : Rel E (.arr z (m - n) fun j => f (n + j)) (as1.drop (n * z)) := by
  simp only [Rel] at *
  refine ⟨by rw [List.length_drop, h.1, Nat.sub_mul], fun j hj => ?_⟩
  have := h.2 (n + j) (by omega)
  rw [List.drop_drop, ← Nat.add_mul]; exact this
section
variable {C : Ctx} {o : Oper} {ρ : Operand → AV} {η : Nat → Option AV}
/-- copy(s, x): s an own row (from element q of what lies there on), x any row. -/
theorem opr_copy {s x : Operand} {t t2 e : TypeId} {z by_ i q nd c m k : Nat} {p : List Nat} {tr trn : AV} {f g : Nat → AV} {j? : Option Nat} (ho : o.op = .call { callee := .builtin .copy, args := #[s, x], argTypes := #[t, t2] })
    (hs : ρ s = .osl i z q nd c) (hH : η i = some tr) (hg : getP p tr = some (.arr z m f)) (hin : inP p tr) (hoff : offP p tr = q * z) (hnm : nd ≤ m) (hx : RowV η (ρ x) z k g j?) (ht : elB C.V.P t = some (e, z, by_))
    (htr : ∀ (E : RE) cs, Rel E (setP p tr (.arr z m fun j => if j < min k nd then g j else f j)) cs → Rel E trn cs) : OpR C o ρ η ⟨.int .i64 (min k nd : Nat), [(i, some trn)], []⟩ := by
  intro hd S hρ hη hn a w ⟨σ, hc⟩
  have e1 := hρ s (by simp [ho, Op.operands, Call.operands]) _ _ rfl (ev_rel hc s)
  have e2 := hρ x (by simp [ho, Op.operands, Call.operands]) _ _ rfl (ev_rel hc x)
  rw [hs] at e1
  have hi := hη i tr hH
  obtain ⟨ax, capx, news, e2, hkc, hsome, hnone, hh, hr⟩ := hx.cells (fun i y hi => ⟨(hc.blk i y (hη i y hi)).1, (hc.blk i y (hη i y hi)).2.2.2⟩) e2
  simp only [RelV, Rel, List.cons.injEq, and_true] at e1
  obtain ⟨-, hndc, of, capd, e1, hcc, hof, cb, tb, fb, hheap, hcsz⟩ := e1
  have hheap' : w.heap[σ i]? = some (.cells cb tb fb) := hheap
  have hl : news.length = k * z := by simp only [Rel] at hr; exact hr.1
  obtain ⟨c1, ty, fr, cs, rest, b1, b2, b3, b4⟩ := (hc.blk i tr hi).2.2.2
  have b1' : w.heap[σ i]? = some (.cells c1 ty fr) := b1
  obtain ⟨g1, g2⟩ := rel_getP p tr cs _ b3 hg hin
  have hsz : (AV.arr z m f).sz = m * z := by simp [AV.sz]
  rw [hsz] at g1 g2
  rw [hoff] at g1 g2
  have hcl : cs.length ≤ c1.size := by rw [← Array.length_toList, b2]; simp
  obtain ⟨M, hM⟩ : ∃ M, min k nd * z = M := ⟨_, rfl⟩
  let ds := news.take M
  have hkz : M ≤ k * z := hM ▸ Nat.mul_le_mul_right _ (Nat.min_le_left _ _)
  have hmz : M ≤ m * z := hM ▸ Nat.mul_le_mul_right _ (Nat.le_trans (Nat.min_le_right _ _) hnm)
  have hdl : ds.length = M := by simp only [ds, List.length_take, hl]; omega
  have hrt : Rel (C.RE S w σ) (.arr z (min k nd) g) ds := by
    have := Rel.le (RE.bare_le _) _ _ (arr_take hr (Nat.min_le_left k nd))
    rw [hM] at this; exact this
  obtain ⟨hu, i', hi', hz1, hz2⟩ := elB_spec ht
  have hfc : (Builtin.firstCells z (min k nd) (.slice ax k capx)).run C.V.P w = .ok ds.toArray w := by
    cases ax with
    | none =>
      have hk0 := (hnone rfl).1
      have : ds = [] := List.length_eq_zero_iff.1 (by rw [hdl, ← hM, hk0]; simp)
      rw [this]
      exact run_firstCells_none w _ _ _ _
    | some b =>
      refine run_firstCells_some w z (min k nd) b k capx ds (hdl.trans hM.symm) fun j v hj => ?_
      have hjl := (List.getElem?_eq_some_iff.1 hj).1
      have hk : 0 < k := by
        rcases Nat.eq_zero_or_pos k with h | h
        · subst h; simp at hkz; omega
        · exact h
      obtain ⟨b', q1, q2, -⟩ := hsome hk
      cases q1
      rw [add_eq q2]
      have := hh b rfl j v (by
        simp only [ds] at hj
        rw [List.getElem?_take_of_lt (by omega)] at hj; exact hj)
      rwa [Nat.zero_add] at this
  have hst : (storeCells ⟨σ i, of, none⟩ ds).run C.V.P w = .ok () (w.setCells (σ i) (q * z) ds) := by
    rcases Nat.eq_zero_or_pos nd with h0 | h0
    · have : ds = [] := List.length_eq_zero_iff.1 (by rw [hdl, ← hM, h0]; simp)
      rw [this]; rfl
    · have hof' := hof (by omega)
      subst hof'
      have := run_storeCells_cells (P := C.V.P) (σ i) (q * z) ds 0 w (fun j hj => by
          simp only [World.cell?, b1', Option.isSome_none, Bool.false_eq_true, if_false, Nat.add_zero]
          rw [Array.getElem?_eq_getElem (by omega)]; rfl)
        (fun j hj => b4 _ (by omega)) (Rel.cells _ _ hrt)
      simpa using this
  have hrun : (execOp a.eval o).run C.V.P w = .ok (.value (.int .i64 (min k nd : Nat))) (w.setCells (σ i) (q * z) ds) := by
    have h5 : (Builtin.copy_ #[t, t2] o.type #[.slice (some ⟨σ i, of, none⟩) nd capd, .slice ax k capx]).run C.V.P w = .ok (goInt (min k nd : Nat)) (w.setCells (σ i) (q * z) ds) := by
      have hz3 : i'.size = z := hz1
      have h6 : Nat.min k nd = min k nd := rfl
      simp [Builtin.copy_, run_underlying hu, Builtin.lenOf, sizeOf, typeInfo, hi', hz3, h6, hfc, hst, Result.andThen]
    have e1' : a.eval s = .slice (some ⟨σ i, of, none⟩) nd capd := e1
    simp [execOp, ho, resolve, invoke, builtin, e1', e2, h5, Result.andThen, goInt]
  unfold Oper.wp
  rw [hrun]
  have hw := hc.write i tr trn hi (q * z) ds (fun c' t' fr' hc' => by
      rw [b1'] at hc'; simp only [Option.some.injEq, Obj.cells.injEq] at hc'; obtain ⟨rfl, -, -⟩ := hc'; rw [hdl]; omega)
    (fun E hE cs' rest' hr' _ => by
      obtain ⟨k1, k2⟩ := rel_getP p tr cs' _ hr' hg hin
      rw [hsz] at k1 k2
      rw [hoff] at k1 k2
      have hd2 : ds.length ≤ ((cs'.drop (q * z)).take (m * z)).length := by rw [hdl, List.length_take, List.length_drop]; omega
      have hnew : Rel E (.arr z m fun j => if j < min k nd then g j else f j) (ds ++ ((cs'.drop (q * z)).take (m * z)).drop M) := by
        have h7 := arr_append (Rel.le hE _ _ hrt) (arr_drop (n := min k nd) k1 (by have := Nat.min_le_right k nd; omega))
        rw [hM] at h7
        have e6 : min k nd + (m - min k nd) = m := by have := Nat.min_le_right k nd; omega
        rw [e6] at h7
        exact h7.arr_congr fun j hj => by
          by_cases hlt : j < min k nd
          · rw [if_pos hlt, if_pos hlt]
          · rw [if_neg hlt, if_neg hlt]; congr 1; omega
      have h8 := rel_setP p tr cs' _ (.arr z m fun j => if j < min k nd then g j else f j) _ hr' hg hin hnew (by simp [AV.sz]) (fun _ => rfl)
      rw [hoff] at h8
      have e7 : splice cs' (q * z) (ds ++ ((cs'.drop (q * z)).take (m * z)).drop M) = splice cs' (q * z) ds := by
        apply List.ext_getElem?
        intro j
        have hll : (ds ++ ((cs'.drop (q * z)).take (m * z)).drop M).length = m * z := by
          rw [List.length_append, hdl, List.length_drop, List.length_take, List.length_drop]; omega
        rw [splice_getElem? (by rw [hll]; exact k2), splice_getElem? (by rw [hdl]; omega), hll, hdl]
        by_cases c1 : q * z ≤ j ∧ j < q * z + m * z
        · rw [if_pos c1]
          by_cases c2 : j < q * z + M
          · rw [if_pos ⟨c1.1, c2⟩, List.getElem?_append_left (by rw [hdl]; omega)]
          · rw [if_neg (by omega), List.getElem?_append_right (by rw [hdl]; omega), List.getElem?_drop, List.getElem?_take_of_lt (by omega), List.getElem?_drop]
            congr 1; omega
        · rw [if_neg c1, if_neg (by omega)]
      rw [e7] at h8
      exact ⟨_, rest', splice_append_left (by rw [hdl]; omega), htr E _ h8⟩)
  exact ⟨σ, hw.put o.dst _ _ hd (by simp [RelV])⟩
end
end Go.Fy
/- Layer 16: a record put to a state (walks over this dump). -/
namespace Go.Proofs.YtpmgdmbcdohgcaaDoor
attribute [local irreducible] Tryd.prog
open Go.Fy
set_option linter.unusedSimpArgs false
set_option linter.unusedVariables false
theorem tms_len (b : List UInt8) : (Sp.timersOf b).length = b.length / 5 := by simp [Sp.timersOf]
theorem tms_get (b : List UInt8) (j : Nat) (h : j < b.length / 5) : tmAt (Sp.timersOf b) j = .agg [.int .i64 (Sp.fld b (5 * j) 1 : Nat), .int .i64 (Sp.fld b (5 * j + 1) 4 : Nat)] := by
  simp [tmAt, Sp.timersOf, List.getD_eq_getElem?_getD, h]
theorem snoc_lt {α : Type} (l : List α) (x d : α) (j : Nat) (h : j < l.length) : (l ++ [x]).getD j d = l.getD j d := by
  simp only [List.getD_eq_getElem?_getD, List.getElem?_append, if_pos h]
theorem snoc_eq {α : Type} (l : List α) (x d : α) (j : Nat) (h : j = l.length) : (l ++ [x]).getD j d = x := by
  subst h; simp [List.getD_eq_getElem?_getD, List.getElem?_append]
section
variable {ea : Nat → Addr} {cds : List Nat} {gl : Nat → Option AV}
theorem cg26a (b : List UInt8) (h0 : b.length = 8) (v : Nat → Value) (x y : Int) : AGen (V ea cds gl) 26 [.ptr 1 [] 0, rcAV ⟨1, false, b⟩] [(1, some (.agg [.val (v 0), .int .i64 x, .int .i64 y, .val (v 3), .val (v 4), .val (v 5), .val (v 6), .val (v 7), .val (v 8), .val (v 9)]))]
  (.tup []) [(1, some (.agg [.val (v 0), .int .i64 (Sp.fld b 0 4 : Nat), .int .i64 (Sp.fld b 4 4 : Nat), .val (v 3), .val (v 4), .val (v 5), .val (v 6), .val (v 7), .val (v 8), .val (v 9)]))] := by
 unfold rcAV
 refine agen_of_body (N := 163) Tryd.func26 rfl rfl (Nat.le_of_ble_eq_true rfl) fun C hV hN hM hO => ?_
 obtain ⟨_, _, w0, G0, σ0, _, own0⟩ := C; dsimp only at hV hN hM hO; subst hV; subst hN; subst hM
 refine awp_seq (awp_region rfl ?_)
 refine sR (opr_box (y := .agg _) (n := 3) rfl rfl rfl) rfl rfl rfl ?_
 refine awp_seq (awp_region rfl ?_)
 refine sP (opp_fieldP rfl rfl fld40_1 rfl) rfl rfl ?_
 refine sP (opp_loadP rfl rfl rfl rfl bi rfl ty38) rfl rfl ?_
 refine sR (opr_callO (rl := [(8, 16)]) (r1 := .ptr _ _ _) (H1 := [(16, some (.agg [.sl _ _ _ _, .int _ _, .int _ _]))]) (n1 := [16]) rfl rfl ent45 rfl (co45 b (by omega)) (AViews.refl _ rfl) rfl rfl rfl rfl) rfl rfl rfl ?_
 refine sP (opp_as (v := .ptr _ _ _) rfl rfl) rfl rfl ?_
 refine awp_seq (awp_region rfl ?_)
 refine sP (opp_fieldP rfl rfl fld40_0 rfl) rfl rfl ?_
 refine sP (opp_loadP rfl rfl rfl rfl bi rfl ty3) rfl rfl ?_
 refine awp_block (awp_seq (awp_region rfl ?_))
 refine sP (opp_cmp rfl rfl rfl rfl) rfl rfl ?_
 refine sP (opp_as (v := .bool _) rfl rfl) rfl rfl ?_
 refine awp_cond _ rfl (fun ht19 => ?_) (fun ht19 => ?_)
 ·(try simp only [cmpI, errD_nil, qa, qb, qc, qd] at ht19)
  refine awp_seq (awp_region rfl ?_)
  refine sP (opp_mv (v := .ptr _ _ _) rfl rfl) rfl rfl ?_
  refine sP (opp_mv (v := .ptr _ _ _) rfl rfl) rfl rfl ?_
  refine sR (opr_callG (rl := [(1, 16)]) (r1 := .tup [.int _ _, .err _]) (H1 := [(16, some (.agg [.sl _ _ _ _, .int _ _, .int _ _]))]) (n1 := []) rfl rfl ent47 (cg47c b false 0 b.length (by omega) (by omega) (by omega)) (And.intro (And.intro rfl wka) True.intro) (And.intro (And.intro rfl (Exists.intro _ (And.intro rfl wkc))) True.intro) rfl rfl rfl rfl) rfl rfl rfl ?_
  refine sP (opp_mv (v := .tup _) rfl rfl) rfl rfl ?_
  refine sP (opp_extract rfl rfl rfl) rfl rfl ?_
  refine sP (opp_extract rfl rfl rfl) rfl rfl ?_
  refine sP (opp_nilCheckP rfl rfl) rfl rfl ?_
  refine sP (opp_fieldP rfl rfl fld33_1 rfl) rfl rfl ?_
  refine sR0 (opr_store (v := .int _ _) (trn := (.agg [_, .int _ _, _, _, _, _, _, _, _, _])) rfl rfl rfl rfl bi rfl rfl rfl rfl fr2 ty3 (fun _ _ h => h)) rfl rfl rfl ?_
  refine awp_region rfl ?_
  refine sP (opp_mv (v := .ptr _ _ _) rfl rfl) rfl rfl ?_
  refine sP (opp_mv (v := .ptr _ _ _) rfl rfl) rfl rfl ?_
  refine sR (opr_callG (rl := [(1, 16)]) (r1 := .tup [.int _ _, .err _]) (H1 := [(16, some (.agg [.sl _ _ _ _, .int _ _, .int _ _]))]) (n1 := []) rfl rfl ent47 (cg47c b false 4 b.length (by omega) (by omega) (by omega)) (And.intro (And.intro rfl wka) True.intro) (And.intro (And.intro rfl (Exists.intro _ (And.intro rfl wkc))) True.intro) rfl rfl rfl rfl) rfl rfl rfl ?_
  refine sP (opp_mv (v := .tup _) rfl rfl) rfl rfl ?_
  refine sP (opp_extract rfl rfl rfl) rfl rfl ?_
  refine sP (opp_extract rfl rfl rfl) rfl rfl ?_
  refine sP (opp_nilCheckP rfl rfl) rfl rfl ?_
  refine sP (opp_fieldP rfl rfl fld33_2 rfl) rfl rfl ?_
  refine sR0 (opr_store (v := .int _ _) (trn := (.agg [_, _, .int _ _, _, _, _, _, _, _, _])) rfl rfl rfl rfl bi rfl rfl rfl rfl fr2 ty3 (fun _ _ h => h)) rfl rfl rfl ?_
  repeat (first | refine athen_ret ?_ | refine ain_ret ?_)
  refine gpost_ret (gends (l := []) true .nil (fun h => by cases h) .nil rfl .refl rfl (And.intro (Exists.intro _ (Exists.intro _ (And.intro rfl (And.intro shut (And.intro (fun h => by cases h) (And.intro ?_ rfl)))))) True.intro))
  ·exact .refl
 ·(try simp only [cmpI, errD_nil, qa, qb, qc, qd] at ht19)
  exfalso; first | omega | (simp at ht19; done)
theorem cg26b (b : List UInt8) (h0 : b.length = 68) (v : Nat → Value) (l : List Pr) (hl : l.length ≤ 4294967296) : AGen (V ea cds gl) 26 [.ptr 1 [] 0, rcAV ⟨3, false, b⟩] [(1, some (.agg [.val (v 0), .val (v 1), .val (v 2), .osl 2 21 0 l.length l.length, .val (v 4), .val (v 5), .val (v 6), .val (v 7), .val (v 8), .val (v 9)])), (2, some (.arr 21 l.length (prAt l)))]
  (.tup []) [(1, some (.agg [.val (v 0), .val (v 1), .val (v 2), .osl 48 21 0 (l.length + 1) (l.length + 1), .val (v 4), .val (v 5), .val (v 6), .val (v 7), .val (v 8), .val (v 9)])), (2, none), (48, some (.arr 21 (l.length + 1) (prAt (l ++ [Sp.proc b]))))] := by
 unfold rcAV
 refine agen_of_body (N := 163) Tryd.func26 rfl rfl (Nat.le_of_ble_eq_true rfl) fun C hV hN hM hO => ?_
 obtain ⟨_, _, w0, G0, σ0, _, own0⟩ := C; dsimp only at hV hN hM hO; subst hV; subst hN; subst hM
 refine awp_seq (awp_region rfl ?_)
 refine sR (opr_box (y := .agg _) (n := 3) rfl rfl rfl) rfl rfl rfl ?_
 refine awp_seq (awp_region rfl ?_)
 refine sP (opp_fieldP rfl rfl fld40_1 rfl) rfl rfl ?_
 refine sP (opp_loadP rfl rfl rfl rfl bi rfl ty38) rfl rfl ?_
 refine sR (opr_callO (rl := [(8, 16)]) (r1 := .ptr _ _ _) (H1 := [(16, some (.agg [.sl _ _ _ _, .int _ _, .int _ _]))]) (n1 := [16]) rfl rfl ent45 rfl (co45 b (by omega)) (AViews.refl _ rfl) rfl rfl rfl rfl) rfl rfl rfl ?_
 refine sP (opp_as (v := .ptr _ _ _) rfl rfl) rfl rfl ?_
 refine awp_seq (awp_region rfl ?_)
 refine sP (opp_fieldP rfl rfl fld40_0 rfl) rfl rfl ?_
 refine sP (opp_loadP rfl rfl rfl rfl bi rfl ty3) rfl rfl ?_
 refine awp_block (awp_seq (awp_region rfl ?_))
 refine sP (opp_cmp rfl rfl rfl rfl) rfl rfl ?_
 refine sP (opp_as (v := .bool _) rfl rfl) rfl rfl ?_
 refine awp_cond _ rfl (fun ht19 => ?_) (fun ht19 => ?_)
 ·(try simp only [cmpI, errD_nil, qa, qb, qc, qd] at ht19)
  exfalso; first | omega | (simp at ht19; done)
 ·(try simp only [cmpI, errD_nil, qa, qb, qc, qd] at ht19)
  refine awp_seq (awp_region rfl ?_)
  refine sP (opp_cmp rfl rfl rfl rfl) rfl rfl ?_
  refine sP (opp_as (v := .bool _) rfl rfl) rfl rfl ?_
  refine awp_cond _ rfl (fun ht37 => ?_) (fun ht37 => ?_)
  ·(try simp only [cmpI, errD_nil, qa, qb, qc, qd] at ht37)
   refine awp_draw hmix rfl (by kernel_rfl) ?_
   refine dP (fun _ => false) (opp_mv (v := .ptr _ _ _) rfl rfl) rfl rfl ?_
   refine dP (fun _ => false) (opp_mv (v := .ptr _ _ _) rfl rfl) rfl rfl ?_
   refine dP (fun _ => false) (opp_nilCheckP rfl rfl) rfl rfl ?_
   refine dP (fun _ => false) (opp_fieldP rfl rfl fld33_3 rfl) rfl rfl ?_
   refine dP (fun n => Nat.beq n 1) (opp_loadP rfl rfl rfl rfl bi rfl ty26) rfl rfl ?_
   refine dP (fun _ => false) (opp_fieldP rfl rfl fld40_1 rfl) rfl rfl ?_
   refine dP (fun n => Nat.beq n 3) (opp_loadP rfl rfl rfl rfl bi rfl ty38) rfl rfl ?_
   refine dR (fun n => !([] : List Nat).contains n) (opr_call rfl rfl ent53 rfl (c53 b h0) (AViews.refl _ rfl)) rfl rfl rfl ?_ -- d=46 t=116 a=45
   refine dR (fun _ => false) (opr_buildSlice (n := 47) (g := fun j => if j = 0 then .agg _ else .agg [.arr 1 16 (fun _ => .int .u32 0), .int .u32 0, .int .i64 0, .int .i64 0, .int .i64 0, .int .i64 0]) rfl eb26 z116 (by decide) rfl rfl) rfl rfl rfl ?_
   refine dR (fun n => !([] : List Nat).contains n) (opr_append (d := 48) rfl rfl rfl (by omega) (.osl0 rfl (by omega)) eb26 z116 (by omega) (by omega)) rfl rfl rfl ?_
   refine dP (fun _ => false) (opp_nilCheckP rfl rfl) rfl rfl ?_
   refine dP (fun _ => false) (opp_fieldP rfl rfl fld33_3 rfl) rfl rfl ?_
   refine dR0 (fun n => Nat.beq n 1) (opr_store (v := .osl _ _ _ _ _) (trn := (.agg [_, _, _, .osl _ _ _ _ _, _, _, _, _, _, _])) rfl rfl rfl rfl bi rfl rfl rfl rfl fr2 ty26 (fun _ _ h => h)) rfl rfl rfl ?_
   refine And.intro (by kernel_rfl) ?_
   repeat (first | refine athen_ret ?_ | refine ain_ret ?_)
   refine gpost_ret (gends (l := []) false .nil (fun h => by cases h) .nil rfl .refl rfl (And.intro (Exists.intro _ (Exists.intro _ (And.intro rfl (And.intro shut (And.intro (fun h => by cases h) (And.intro ?_ rfl)))))) (And.intro (Exists.intro _ (Exists.intro _ (And.intro rfl (And.intro shut (And.intro (fun h => by cases h) (And.intro ?_ rfl)))))) True.intro)))
   ·exact .refl
   ·exact .arr (fun j hj => by by_cases h : j < l.length; rw [if_pos h, prAt, prAt, snoc_lt _ _ _ _ h]; rw [if_neg h, if_pos (by omega), prAt, snoc_eq _ _ _ _ (by omega)]; rfl)
  ·(try simp only [cmpI, errD_nil, qa, qb, qc, qd] at ht37)
   exfalso; first | omega | (simp at ht37; done)
theorem cg26c (b : List UInt8) (h0 : b.length = 68) (v : Nat → Value) (f : Nat → AV) : AGen (V ea cds gl) 26 [.ptr 1 [] 0, rcAV ⟨3, false, b⟩] [(1, some (.agg [.val (v 0), .val (v 1), .val (v 2), .sl 21 true 0 f, .val (v 4), .val (v 5), .val (v 6), .val (v 7), .val (v 8), .val (v 9)]))]
  (.tup []) [(1, some (.agg [.val (v 0), .val (v 1), .val (v 2), .osl 48 21 0 1 1, .val (v 4), .val (v 5), .val (v 6), .val (v 7), .val (v 8), .val (v 9)])), (48, some (.arr 21 1 (prAt [Sp.proc b])))] := by
 unfold rcAV
 refine agen_of_body (N := 163) Tryd.func26 rfl rfl (Nat.le_of_ble_eq_true rfl) fun C hV hN hM hO => ?_
 obtain ⟨_, _, w0, G0, σ0, _, own0⟩ := C; dsimp only at hV hN hM hO; subst hV; subst hN; subst hM
 refine awp_seq (awp_region rfl ?_)
 refine sR (opr_box (y := .agg _) (n := 3) rfl rfl rfl) rfl rfl rfl ?_
 refine awp_seq (awp_region rfl ?_)
 refine sP (opp_fieldP rfl rfl fld40_1 rfl) rfl rfl ?_
 refine sP (opp_loadP rfl rfl rfl rfl bi rfl ty38) rfl rfl ?_
 refine sR (opr_callO (rl := [(8, 16)]) (r1 := .ptr _ _ _) (H1 := [(16, some (.agg [.sl _ _ _ _, .int _ _, .int _ _]))]) (n1 := [16]) rfl rfl ent45 rfl (co45 b (by omega)) (AViews.refl _ rfl) rfl rfl rfl rfl) rfl rfl rfl ?_
 refine sP (opp_as (v := .ptr _ _ _) rfl rfl) rfl rfl ?_
 refine awp_seq (awp_region rfl ?_)
 refine sP (opp_fieldP rfl rfl fld40_0 rfl) rfl rfl ?_
 refine sP (opp_loadP rfl rfl rfl rfl bi rfl ty3) rfl rfl ?_
 refine awp_block (awp_seq (awp_region rfl ?_))
 refine sP (opp_cmp rfl rfl rfl rfl) rfl rfl ?_
 refine sP (opp_as (v := .bool _) rfl rfl) rfl rfl ?_
 refine awp_cond _ rfl (fun ht19 => ?_) (fun ht19 => ?_)
 ·(try simp only [cmpI, errD_nil, qa, qb, qc, qd] at ht19)
  exfalso; first | omega | (simp at ht19; done)
 ·(try simp only [cmpI, errD_nil, qa, qb, qc, qd] at ht19)
  refine awp_seq (awp_region rfl ?_)
  refine sP (opp_cmp rfl rfl rfl rfl) rfl rfl ?_
  refine sP (opp_as (v := .bool _) rfl rfl) rfl rfl ?_
  refine awp_cond _ rfl (fun ht37 => ?_) (fun ht37 => ?_)
  ·(try simp only [cmpI, errD_nil, qa, qb, qc, qd] at ht37)
   refine awp_draw hmix rfl (by kernel_rfl) ?_
   refine dP (fun _ => false) (opp_mv (v := .ptr _ _ _) rfl rfl) rfl rfl ?_
   refine dP (fun _ => false) (opp_mv (v := .ptr _ _ _) rfl rfl) rfl rfl ?_
   refine dP (fun _ => false) (opp_nilCheckP rfl rfl) rfl rfl ?_
   refine dP (fun _ => false) (opp_fieldP rfl rfl fld33_3 rfl) rfl rfl ?_
   refine dP (fun n => Nat.beq n 1) (opp_loadP rfl rfl rfl rfl bi rfl ty26) rfl rfl ?_
   refine dP (fun _ => false) (opp_fieldP rfl rfl fld40_1 rfl) rfl rfl ?_
   refine dP (fun n => Nat.beq n 3) (opp_loadP rfl rfl rfl rfl bi rfl ty38) rfl rfl ?_
   refine dR (fun n => !([] : List Nat).contains n) (opr_call rfl rfl ent53 rfl (c53 b h0) (AViews.refl _ rfl)) rfl rfl rfl ?_ -- d=46 t=116 a=45
   refine dR (fun _ => false) (opr_buildSlice (n := 47) (g := fun j => if j = 0 then .agg _ else .agg [.arr 1 16 (fun _ => .int .u32 0), .int .u32 0, .int .i64 0, .int .i64 0, .int .i64 0, .int .i64 0]) rfl eb26 z116 (by decide) rfl rfl) rfl rfl rfl ?_
   refine dR (fun n => !([] : List Nat).contains n) (opr_appendNil (d := 48) rfl rfl (.osl0 rfl (by omega)) eb26 z116 (by omega) (by omega) (by omega)) rfl rfl rfl ?_
   refine dP (fun _ => false) (opp_nilCheckP rfl rfl) rfl rfl ?_
   refine dP (fun _ => false) (opp_fieldP rfl rfl fld33_3 rfl) rfl rfl ?_
   refine dR0 (fun n => Nat.beq n 1) (opr_store (v := .osl _ _ _ _ _) (trn := (.agg [_, _, _, .osl _ _ _ _ _, _, _, _, _, _, _])) rfl rfl rfl rfl bi rfl rfl rfl rfl fr2 ty26 (fun _ _ h => h)) rfl rfl rfl ?_
   refine And.intro (by kernel_rfl) ?_
   repeat (first | refine athen_ret ?_ | refine ain_ret ?_)
   refine gpost_ret (gends (l := []) true .nil (fun h => by cases h) .nil rfl .refl rfl (And.intro (Exists.intro _ (Exists.intro _ (And.intro rfl (And.intro shut (And.intro (fun h => by cases h) (And.intro ?_ rfl)))))) (And.intro (Exists.intro _ (Exists.intro _ (And.intro rfl (And.intro shut (And.intro (fun h => by cases h) (And.intro ?_ rfl)))))) True.intro)))
   ·exact .refl
   ·exact .arr (fun j hj => by rw [show j = 0 by omega]; rfl)
  ·(try simp only [cmpI, errD_nil, qa, qb, qc, qd] at ht37)
   exfalso; first | omega | (simp at ht37; done)
theorem cg26d (b : List UInt8) (h0 : b.length ≤ 4294967296) (v : Nat → Value) (nn : Bool) (n : Nat) (f : Nat → AV) : AGen (V ea cds gl) 26 [.ptr 1 [] 0, rcAV ⟨4, false, b⟩] [(1, some (.agg [.val (v 0), .val (v 1), .val (v 2), .val (v 3), .sl 1 nn n f, .val (v 5), .val (v 6), .val (v 7), .val (v 8), .val (v 9)]))]
  (.tup []) [(1, some (.agg [.val (v 0), .val (v 1), .val (v 2), .val (v 3), rowV 1 (Sp.nums b).length (natAt (Sp.nums b)), .val (v 5), .val (v 6), .val (v 7), .val (v 8), .val (v 9)]))] := by
 unfold rcAV
 refine agen_of_body (N := 163) Tryd.func26 rfl rfl (Nat.le_of_ble_eq_true rfl) fun C hV hN hM hO => ?_
 obtain ⟨_, _, w0, G0, σ0, _, own0⟩ := C; dsimp only at hV hN hM hO; subst hV; subst hN; subst hM
 refine awp_seq (awp_region rfl ?_)
 refine sR (opr_box (y := .agg _) (n := 3) rfl rfl rfl) rfl rfl rfl ?_
 refine awp_seq (awp_region rfl ?_)
 refine sP (opp_fieldP rfl rfl fld40_1 rfl) rfl rfl ?_
 refine sP (opp_loadP rfl rfl rfl rfl bi rfl ty38) rfl rfl ?_
 refine sR (opr_callO (rl := [(8, 16)]) (r1 := .ptr _ _ _) (H1 := [(16, some (.agg [.sl _ _ _ _, .int _ _, .int _ _]))]) (n1 := [16]) rfl rfl ent45 rfl (co45 b (by omega)) (AViews.refl _ rfl) rfl rfl rfl rfl) rfl rfl rfl ?_
 refine sP (opp_as (v := .ptr _ _ _) rfl rfl) rfl rfl ?_
 refine awp_seq (awp_region rfl ?_)
 refine sP (opp_fieldP rfl rfl fld40_0 rfl) rfl rfl ?_
 refine sP (opp_loadP rfl rfl rfl rfl bi rfl ty3) rfl rfl ?_
 refine awp_block (awp_seq (awp_region rfl ?_))
 refine sP (opp_cmp rfl rfl rfl rfl) rfl rfl ?_
 refine sP (opp_as (v := .bool _) rfl rfl) rfl rfl ?_
 refine awp_cond _ rfl (fun ht19 => ?_) (fun ht19 => ?_)
 ·(try simp only [cmpI, errD_nil, qa, qb, qc, qd] at ht19)
  exfalso; first | omega | (simp at ht19; done)
 ·(try simp only [cmpI, errD_nil, qa, qb, qc, qd] at ht19)
  refine awp_seq (awp_region rfl ?_)
  refine sP (opp_cmp rfl rfl rfl rfl) rfl rfl ?_
  refine sP (opp_as (v := .bool _) rfl rfl) rfl rfl ?_
  refine awp_cond _ rfl (fun ht37 => ?_) (fun ht37 => ?_)
  ·(try simp only [cmpI, errD_nil, qa, qb, qc, qd] at ht37)
   exfalso; first | omega | (simp at ht37; done)
  ·(try simp only [cmpI, errD_nil, qa, qb, qc, qd] at ht37)
   refine awp_seq (awp_region rfl ?_)
   refine sP (opp_cmp rfl rfl rfl rfl) rfl rfl ?_
   refine sP (opp_as (v := .bool _) rfl rfl) rfl rfl ?_
   refine awp_cond _ rfl (fun ht51 => ?_) (fun ht51 => ?_)
   ·(try simp only [cmpI, errD_nil, qa, qb, qc, qd] at ht51)
    refine awp_region rfl ?_
    refine sP (opp_mv (v := .ptr _ _ _) rfl rfl) rfl rfl ?_
    refine sP (opp_fieldP rfl rfl fld40_1 rfl) rfl rfl ?_
    refine sP (opp_loadP rfl rfl rfl rfl bi rfl ty38) rfl rfl ?_
    refine sR (opr_call rfl rfl ent54 rfl (c54 b false (by omega)) (AViews.refl _ rfl)) rfl rfl rfl ?_ -- d=56 t=27 a=55
    refine sP (opp_nilCheckP rfl rfl) rfl rfl ?_
    refine sP (opp_fieldP rfl rfl fld33_4 rfl) rfl rfl ?_
    refine sR0 (opr_store (v := .sl _ _ _ _) (trn := (.agg [_, _, _, _, .sl _ _ _ _, _, _, _, _, _])) rfl rfl rfl rfl bi rfl rfl rfl rfl fr2 ty27 (fun _ _ h => h)) rfl rfl rfl ?_
    repeat (first | refine athen_ret ?_ | refine ain_ret ?_)
    refine gpost_ret (gends (l := []) true .nil (fun h => by cases h) .nil rfl .refl rfl (And.intro (Exists.intro _ (Exists.intro _ (And.intro rfl (And.intro shut (And.intro (fun h => by cases h) (And.intro ?_ rfl)))))) True.intro))
    ·exact .refl
   ·(try simp only [cmpI, errD_nil, qa, qb, qc, qd] at ht51)
    exfalso; first | omega | (simp at ht51; done)
theorem cg26e (b : List UInt8) (h0 : b.length ≤ 4294967296) (v : Nat → Value) (nn : Bool) (n : Nat) (f : Nat → AV) : AGen (V ea cds gl) 26 [.ptr 1 [] 0, rcAV ⟨7, false, b⟩] [(1, some (.agg [.val (v 0), .val (v 1), .val (v 2), .val (v 3), .val (v 4), .val (v 5), .val (v 6), .sl 1 nn n f, .val (v 8), .val (v 9)]))]
  (.tup []) [(1, some (.agg [.val (v 0), .val (v 1), .val (v 2), .val (v 3), .val (v 4), .val (v 5), .val (v 6), rowV 1 (Sp.nums b).length (natAt (Sp.nums b)), .val (v 8), .val (v 9)]))] := by
 unfold rcAV
 refine agen_of_body (N := 163) Tryd.func26 rfl rfl (Nat.le_of_ble_eq_true rfl) fun C hV hN hM hO => ?_
 obtain ⟨_, _, w0, G0, σ0, _, own0⟩ := C; dsimp only at hV hN hM hO; subst hV; subst hN; subst hM
 refine awp_seq (awp_region rfl ?_)
 refine sR (opr_box (y := .agg _) (n := 3) rfl rfl rfl) rfl rfl rfl ?_
 refine awp_seq (awp_region rfl ?_)
 refine sP (opp_fieldP rfl rfl fld40_1 rfl) rfl rfl ?_
 refine sP (opp_loadP rfl rfl rfl rfl bi rfl ty38) rfl rfl ?_
 refine sR (opr_callO (rl := [(8, 16)]) (r1 := .ptr _ _ _) (H1 := [(16, some (.agg [.sl _ _ _ _, .int _ _, .int _ _]))]) (n1 := [16]) rfl rfl ent45 rfl (co45 b (by omega)) (AViews.refl _ rfl) rfl rfl rfl rfl) rfl rfl rfl ?_
 refine sP (opp_as (v := .ptr _ _ _) rfl rfl) rfl rfl ?_
 refine awp_seq (awp_region rfl ?_)
 refine sP (opp_fieldP rfl rfl fld40_0 rfl) rfl rfl ?_
 refine sP (opp_loadP rfl rfl rfl rfl bi rfl ty3) rfl rfl ?_
 refine awp_block (awp_seq (awp_region rfl ?_))
 refine sP (opp_cmp rfl rfl rfl rfl) rfl rfl ?_
 refine sP (opp_as (v := .bool _) rfl rfl) rfl rfl ?_
 refine awp_cond _ rfl (fun ht19 => ?_) (fun ht19 => ?_)
 ·(try simp only [cmpI, errD_nil, qa, qb, qc, qd] at ht19)
  exfalso; first | omega | (simp at ht19; done)
 ·(try simp only [cmpI, errD_nil, qa, qb, qc, qd] at ht19)
  refine awp_seq (awp_region rfl ?_)
  refine sP (opp_cmp rfl rfl rfl rfl) rfl rfl ?_
  refine sP (opp_as (v := .bool _) rfl rfl) rfl rfl ?_
  refine awp_cond _ rfl (fun ht37 => ?_) (fun ht37 => ?_)
  ·(try simp only [cmpI, errD_nil, qa, qb, qc, qd] at ht37)
   exfalso; first | omega | (simp at ht37; done)
  ·(try simp only [cmpI, errD_nil, qa, qb, qc, qd] at ht37)
   refine awp_seq (awp_region rfl ?_)
   refine sP (opp_cmp rfl rfl rfl rfl) rfl rfl ?_
   refine sP (opp_as (v := .bool _) rfl rfl) rfl rfl ?_
   refine awp_cond _ rfl (fun ht51 => ?_) (fun ht51 => ?_)
   ·(try simp only [cmpI, errD_nil, qa, qb, qc, qd] at ht51)
    exfalso; first | omega | (simp at ht51; done)
   ·(try simp only [cmpI, errD_nil, qa, qb, qc, qd] at ht51)
    refine awp_seq (awp_region rfl ?_)
    refine sP (opp_cmp rfl rfl rfl rfl) rfl rfl ?_
    refine sP (opp_as (v := .bool _) rfl rfl) rfl rfl ?_
    refine awp_cond _ rfl (fun ht59 => ?_) (fun ht59 => ?_)
    ·(try simp only [cmpI, errD_nil, qa, qb, qc, qd] at ht59)
     exfalso; first | omega | (simp at ht59; done)
    ·(try simp only [cmpI, errD_nil, qa, qb, qc, qd] at ht59)
     refine awp_seq (awp_region rfl ?_)
     refine sP (opp_cmp rfl rfl rfl rfl) rfl rfl ?_
     refine sP (opp_as (v := .bool _) rfl rfl) rfl rfl ?_
     refine awp_cond _ rfl (fun ht89 => ?_) (fun ht89 => ?_)
     ·(try simp only [cmpI, errD_nil, qa, qb, qc, qd] at ht89)
      exfalso; first | omega | (simp at ht89; done)
     ·(try simp only [cmpI, errD_nil, qa, qb, qc, qd] at ht89)
      refine awp_seq (awp_region rfl ?_)
      refine sP (opp_cmp rfl rfl rfl rfl) rfl rfl ?_
      refine sP (opp_as (v := .bool _) rfl rfl) rfl rfl ?_
      refine awp_cond _ rfl (fun ht113 => ?_) (fun ht113 => ?_)
      ·(try simp only [cmpI, errD_nil, qa, qb, qc, qd] at ht113)
       refine awp_region rfl ?_
       refine sP (opp_mv (v := .ptr _ _ _) rfl rfl) rfl rfl ?_
       refine sP (opp_fieldP rfl rfl fld40_1 rfl) rfl rfl ?_
       refine sP (opp_loadP rfl rfl rfl rfl bi rfl ty38) rfl rfl ?_
       refine sR (opr_call rfl rfl ent54 rfl (c54 b false (by omega)) (AViews.refl _ rfl)) rfl rfl rfl ?_ -- d=118 t=27 a=117
       refine sP (opp_nilCheckP rfl rfl) rfl rfl ?_
       refine sP (opp_fieldP rfl rfl fld33_7 rfl) rfl rfl ?_
       refine sR0 (opr_store (v := .sl _ _ _ _) (trn := (.agg [_, _, _, _, _, _, _, .sl _ _ _ _, _, _])) rfl rfl rfl rfl bi rfl rfl rfl rfl fr2 ty27 (fun _ _ h => h)) rfl rfl rfl ?_
       repeat (first | refine athen_ret ?_ | refine ain_ret ?_)
       refine gpost_ret (gends (l := []) true .nil (fun h => by cases h) .nil rfl .refl rfl (And.intro (Exists.intro _ (Exists.intro _ (And.intro rfl (And.intro shut (And.intro (fun h => by cases h) (And.intro ?_ rfl)))))) True.intro))
       ·exact .refl
      ·(try simp only [cmpI, errD_nil, qa, qb, qc, qd] at ht113)
       exfalso; first | omega | (simp at ht113; done)
theorem cg26f (b : List UInt8) (h0 : b.length ≤ 4294967296) (h5 : b.length % 5 = 0) (v : Nat → Value) (nn : Bool) (n : Nat) (f : Nat → AV) : AGen (V ea cds gl) 26 [.ptr 1 [] 0, rcAV ⟨5, false, b⟩] [(1, some (.agg [.val (v 0), .val (v 1), .val (v 2), .val (v 3), .val (v 4), .sl 2 nn n f, .val (v 6), .val (v 7), .val (v 8), .val (v 9)]))]
  (.tup []) [(1, some (.agg [.val (v 0), .val (v 1), .val (v 2), .val (v 3), .val (v 4), rowV 2 (Sp.timersOf b).length (tmAt (Sp.timersOf b)), .val (v 6), .val (v 7), .val (v 8), .val (v 9)]))] := by
 unfold rcAV
 refine agen_of_body (N := 163) Tryd.func26 rfl rfl (Nat.le_of_ble_eq_true rfl) fun C hV hN hM hO => ?_
 obtain ⟨_, _, w0, G0, σ0, _, own0⟩ := C; dsimp only at hV hN hM hO; subst hV; subst hN; subst hM
 refine awp_seq (awp_region rfl ?_)
 refine sR (opr_box (y := .agg _) (n := 3) rfl rfl rfl) rfl rfl rfl ?_
 refine awp_seq (awp_region rfl ?_)
 refine sP (opp_fieldP rfl rfl fld40_1 rfl) rfl rfl ?_
 refine sP (opp_loadP rfl rfl rfl rfl bi rfl ty38) rfl rfl ?_
 refine sR (opr_callO (rl := [(8, 16)]) (r1 := .ptr _ _ _) (H1 := [(16, some (.agg [.sl _ _ _ _, .int _ _, .int _ _]))]) (n1 := [16]) rfl rfl ent45 rfl (co45 b (by omega)) (AViews.refl _ rfl) rfl rfl rfl rfl) rfl rfl rfl ?_
 refine sP (opp_as (v := .ptr _ _ _) rfl rfl) rfl rfl ?_
 refine awp_seq (awp_region rfl ?_)
 refine sP (opp_fieldP rfl rfl fld40_0 rfl) rfl rfl ?_
 refine sP (opp_loadP rfl rfl rfl rfl bi rfl ty3) rfl rfl ?_
 refine awp_block (awp_seq (awp_region rfl ?_))
 refine sP (opp_cmp rfl rfl rfl rfl) rfl rfl ?_
 refine sP (opp_as (v := .bool _) rfl rfl) rfl rfl ?_
 refine awp_cond _ rfl (fun ht19 => ?_) (fun ht19 => ?_)
 ·(try simp only [cmpI, errD_nil, qa, qb, qc, qd] at ht19)
  exfalso; first | omega | (simp at ht19; done)
 ·(try simp only [cmpI, errD_nil, qa, qb, qc, qd] at ht19)
  refine awp_seq (awp_region rfl ?_)
  refine sP (opp_cmp rfl rfl rfl rfl) rfl rfl ?_
  refine sP (opp_as (v := .bool _) rfl rfl) rfl rfl ?_
  refine awp_cond _ rfl (fun ht37 => ?_) (fun ht37 => ?_)
  ·(try simp only [cmpI, errD_nil, qa, qb, qc, qd] at ht37)
   exfalso; first | omega | (simp at ht37; done)
  ·(try simp only [cmpI, errD_nil, qa, qb, qc, qd] at ht37)
   refine awp_seq (awp_region rfl ?_)
   refine sP (opp_cmp rfl rfl rfl rfl) rfl rfl ?_
   refine sP (opp_as (v := .bool _) rfl rfl) rfl rfl ?_
   refine awp_cond _ rfl (fun ht51 => ?_) (fun ht51 => ?_)
   ·(try simp only [cmpI, errD_nil, qa, qb, qc, qd] at ht51)
    exfalso; first | omega | (simp at ht51; done)
   ·(try simp only [cmpI, errD_nil, qa, qb, qc, qd] at ht51)
    refine awp_seq (awp_region rfl ?_)
    refine sP (opp_cmp rfl rfl rfl rfl) rfl rfl ?_
    refine sP (opp_as (v := .bool _) rfl rfl) rfl rfl ?_
    refine awp_cond _ rfl (fun ht59 => ?_) (fun ht59 => ?_)
    ·(try simp only [cmpI, errD_nil, qa, qb, qc, qd] at ht59)
     refine awp_seq (awp_region rfl ?_)
     refine sP (opp_mv (v := .ptr _ _ _) rfl rfl) rfl rfl ?_
     refine sP (opp_nilCheckP rfl rfl) rfl rfl ?_
     refine sP (opp_fieldP rfl rfl fld33_5 rfl) rfl rfl ?_
     refine sR0 (opr_store (v := .sl _ _ _ _) (trn := (.agg [_, _, _, _, _, .sl _ _ _ _, _, _, _, _])) rfl rfl rfl rfl bi rfl rfl rfl rfl fr2 ty28 (fun _ _ h => h)) rfl rfl rfl ?_
     refine awp_block ?_
     refine awp_loopK (ι := Nat × Bool) (fun p => 5 * p.1 ≤ b.length ∧ (p.2 = true ↔ p.1 = 0)) (fun p => [(5, .top), (6, .top), (7, .top), (8, .top), (64, .top), (65, .top), (66, .top), (67, .top), (68, .top), (69, .top), (70, .top), (71, .top), (72, .top), (73, .top), (74, .top), (75, .top), (76, .top), (77, .top), (78, .top), (79, .top), (80, .top), (81, .top), (82, .top), (83, .top), (84, .top), (85, .top), (86, .top), (87, .top), (88, .top)]) (fun p => [(16, some (.agg [.sl 1 false b.length (bAt b), .int .i64 ((5 * p.1 : Nat) : Int), .int .i64 (b.length : Int)])), (1, some (.agg [.val (v 0), .val (v 1), .val (v 2), .val (v 3), .val (v 4), cond p.2 (.sl 1 true 0 (fun _ => .top)) (.osl 1004 2 0 p.1 p.1), .val (v 6), .val (v 7), .val (v 8), .val (v 9)])), (1004, cond p.2 none (some (.arr 2 p.1 (tmAt (Sp.timersOf b)))))]) [1004] (fun p => b.length - p.1) ((0, true)) (⟨Nat.zero_le _, by simp⟩) (by
      refine imp_over [] rfl rfl (by kernel_rfl) ?_ ?_
      ·iterate 29 refine And.intro wkv ?_
       exact True.intro
      ·refine And.intro (And.intro rfl (And.intro rfl (Exists.intro _ (And.intro rfl wkc)))) ?_
       refine And.intro (And.intro rfl (And.intro rfl (Exists.intro _ (And.intro rfl wkc)))) ?_
       exact True.intro
      ) ?_
     intro p hi1; obtain ⟨i, e⟩ := p; rcases e with _ | _
     ·dsimp only [cond] at hi1 ⊢
      refine awp_seq (awp_seq (awp_region rfl ?_))
      refine sP (opp_mv (v := .ptr _ _ _) rfl rfl) rfl rfl ?_
      refine sR (opr_callG (rl := [(1, 16)]) (r1 := .int _ _) (H1 := [(16, some (.agg [.sl _ _ _ _, .int _ _, .int _ _]))]) (n1 := []) rfl rfl ent55 (cg55c b false (5 * i) b.length (by omega) (by omega)) (And.intro (And.intro rfl wka) True.intro) (And.intro (And.intro rfl (Exists.intro _ (And.intro rfl wkc))) True.intro) rfl rfl rfl rfl) rfl rfl rfl ?_
      refine sP (opp_cmp rfl rfl rfl rfl) rfl rfl ?_
      refine awp_cond _ rfl (fun ht66 => ?_) (fun ht66 => ?_)
      ·(try simp only [cmpI, errD_nil, qa, qb, qc, qd] at ht66)
       refine awp_skip (awp_block (awp_seq (awp_region rfl ?_)))
       refine sP (opp_mv (v := .ptr _ _ _) rfl rfl) rfl rfl ?_
       refine sR (opr_callG (rl := [(1, 16)]) (r1 := .tup [.int _ _, .err _]) (H1 := [(16, some (.agg [.sl _ _ _ _, .int _ _, .int _ _]))]) (n1 := []) rfl rfl ent56 (cg56c b false (5 * i) b.length (by omega) (by omega) (by omega)) (And.intro (And.intro rfl wka) True.intro) (And.intro (And.intro rfl (Exists.intro _ (And.intro rfl wkc))) True.intro) rfl rfl rfl rfl) rfl rfl rfl ?_
       refine sP (opp_mv (v := .tup _) rfl rfl) rfl rfl ?_
       refine sP (opp_extract rfl rfl rfl) rfl rfl ?_
       refine sP (opp_extract rfl rfl rfl) rfl rfl ?_
       refine sP (opp_as (v := .int _ _) rfl rfl) rfl rfl ?_
       refine sP (opp_as (v := .err _) rfl rfl) rfl rfl ?_
       refine awp_seq (awp_region rfl ?_)
       refine sP (opp_mv (v := .ptr _ _ _) rfl rfl) rfl rfl ?_
       refine sR (opr_callG (rl := [(1, 16)]) (r1 := .tup [.int _ _, .err _]) (H1 := [(16, some (.agg [.sl _ _ _ _, .int _ _, .int _ _]))]) (n1 := []) rfl rfl ent47 (cg47c b false (5 * i + 1) b.length (by omega) (by omega) (by omega)) (And.intro (And.intro rfl wka) True.intro) (And.intro (And.intro rfl (Exists.intro _ (And.intro rfl wkc))) True.intro) rfl rfl rfl rfl) rfl rfl rfl ?_
       refine sP (opp_mv (v := .tup _) rfl rfl) rfl rfl ?_
       refine sP (opp_extract rfl rfl rfl) rfl rfl ?_
       refine sP (opp_extract rfl rfl rfl) rfl rfl ?_
       refine sP (opp_as (v := .int _ _) rfl rfl) rfl rfl ?_
       refine sP (opp_as (v := .err _) rfl rfl) rfl rfl ?_
       refine awp_region rfl ?_
       refine sP (opp_mv (v := .ptr _ _ _) rfl rfl) rfl rfl ?_
       refine sP (opp_mv (v := .ptr _ _ _) rfl rfl) rfl rfl ?_
       refine sP (opp_nilCheckP rfl rfl) rfl rfl ?_
       refine sP (opp_fieldP rfl rfl fld33_5 rfl) rfl rfl ?_
       refine sP (opp_loadP rfl rfl rfl rfl bi rfl ty28) rfl rfl ?_
       refine sP (opp_mv (v := .int _ _) rfl rfl) rfl rfl ?_
       refine sP (opp_mv (v := .int _ _) rfl rfl) rfl rfl ?_
       refine sP (opp_build rfl z121 bld121 rfl [.int _ _, .int _ _] rfl) rfl rfl ?_
       refine sR (opr_buildSlice (n := 85) (g := fun j => if j = 0 then .agg _ else .agg [.int .i64 0, .int .i64 0]) rfl eb28 z121 (by decide) rfl rfl) rfl rfl rfl ?_
       refine sR (opr_append (d := 86) rfl rfl rfl (by omega) (.osl0 rfl (by omega)) eb28 z121 (by omega) (by omega)) rfl rfl rfl ?_
       refine sP (opp_nilCheckP rfl rfl) rfl rfl ?_
       refine sP (opp_fieldP rfl rfl fld33_5 rfl) rfl rfl ?_
       refine sR0 (opr_store (v := .osl _ _ _ _ _) (trn := (.agg [_, _, _, _, _, .osl _ _ _ _ _, _, _, _, _])) rfl rfl rfl rfl bi rfl rfl rfl rfl fr2 ty28 (fun _ _ h => h)) rfl rfl rfl ?_
       refine Exists.intro ((i + 1, false)) (And.intro (And.intro (And.intro (by show 5 * (i + 1) ≤ _; omega) (by simp)) (by first | omega | (dsimp only; omega))) (by
        refine imp_over [(1004, 86)] rfl rfl (by kernel_rfl) ?_ ?_
        ·iterate 29 refine And.intro wkv ?_
         exact True.intro
        ·refine And.intro (And.intro rfl (And.intro rfl (Exists.intro _ (And.intro rfl (by exact WkC.of (by show AV.agg [_, AV.int .i64 _, _] = AV.agg [_, AV.int .i64 _, _]; rw [show 5 * i + 1 + 4 = 5 * (i + 1) by omega]; rfl)))))) ?_
         refine And.intro (And.intro rfl (And.intro rfl (Exists.intro _ (And.intro rfl wkc)))) ?_
         refine And.intro (And.intro rfl (And.intro rfl (Exists.intro _ (And.intro rfl (by show WkC (AV.arr 2 _ _) (AV.arr 2 _ _); exact WkC.arr (fun j hj => by by_cases h : j < i; rw [if_pos h]; rw [if_neg h, show j = i by omega, if_pos (by omega), tms_get b i (by omega)])))))) ?_
         exact True.intro
        ))
      ·(try simp only [cmpI, errD_nil, qa, qb, qc, qd] at ht66)
       refine awp_exit ?_
       repeat (first | refine athen_ret ?_ | refine ain_ret ?_)
       refine gpost_ret (gends (l := []) true .nil (fun h => by cases h) .nil rfl .refl rfl (And.intro (Exists.intro _ (Exists.intro _ (And.intro rfl (And.intro shut (And.intro (fun h => by cases h) (And.intro ?_ rfl)))))) True.intro))
       ·have hie : i = b.length / 5 := by omega
        have hne : (Sp.timersOf b).length ≠ 0 := by rw [tms_len]; intro h; have h1 : i = 0 := (by omega); simp [h1] at hi1
        rw [rowV, tms_len, ← hie, show decide (i = 0) = false by rw [decide_eq_false_iff_not]; rw [tms_len] at hne; omega]; exact .refl
     ·dsimp only [cond] at hi1 ⊢
      refine awp_seq (awp_seq (awp_region rfl ?_))
      refine sP (opp_mv (v := .ptr _ _ _) rfl rfl) rfl rfl ?_
      refine sR (opr_callG (rl := [(1, 16)]) (r1 := .int _ _) (H1 := [(16, some (.agg [.sl _ _ _ _, .int _ _, .int _ _]))]) (n1 := []) rfl rfl ent55 (cg55c b false (5 * i) b.length (by omega) (by omega)) (And.intro (And.intro rfl wka) True.intro) (And.intro (And.intro rfl (Exists.intro _ (And.intro rfl wkc))) True.intro) rfl rfl rfl rfl) rfl rfl rfl ?_
      refine sP (opp_cmp rfl rfl rfl rfl) rfl rfl ?_
      refine awp_cond _ rfl (fun ht66 => ?_) (fun ht66 => ?_)
      ·(try simp only [cmpI, errD_nil, qa, qb, qc, qd] at ht66)
       refine awp_skip (awp_block (awp_seq (awp_region rfl ?_)))
       refine sP (opp_mv (v := .ptr _ _ _) rfl rfl) rfl rfl ?_
       refine sR (opr_callG (rl := [(1, 16)]) (r1 := .tup [.int _ _, .err _]) (H1 := [(16, some (.agg [.sl _ _ _ _, .int _ _, .int _ _]))]) (n1 := []) rfl rfl ent56 (cg56c b false (5 * i) b.length (by omega) (by omega) (by omega)) (And.intro (And.intro rfl wka) True.intro) (And.intro (And.intro rfl (Exists.intro _ (And.intro rfl wkc))) True.intro) rfl rfl rfl rfl) rfl rfl rfl ?_
       refine sP (opp_mv (v := .tup _) rfl rfl) rfl rfl ?_
       refine sP (opp_extract rfl rfl rfl) rfl rfl ?_
       refine sP (opp_extract rfl rfl rfl) rfl rfl ?_
       refine sP (opp_as (v := .int _ _) rfl rfl) rfl rfl ?_
       refine sP (opp_as (v := .err _) rfl rfl) rfl rfl ?_
       refine awp_seq (awp_region rfl ?_)
       refine sP (opp_mv (v := .ptr _ _ _) rfl rfl) rfl rfl ?_
       refine sR (opr_callG (rl := [(1, 16)]) (r1 := .tup [.int _ _, .err _]) (H1 := [(16, some (.agg [.sl _ _ _ _, .int _ _, .int _ _]))]) (n1 := []) rfl rfl ent47 (cg47c b false (5 * i + 1) b.length (by omega) (by omega) (by omega)) (And.intro (And.intro rfl wka) True.intro) (And.intro (And.intro rfl (Exists.intro _ (And.intro rfl wkc))) True.intro) rfl rfl rfl rfl) rfl rfl rfl ?_
       refine sP (opp_mv (v := .tup _) rfl rfl) rfl rfl ?_
       refine sP (opp_extract rfl rfl rfl) rfl rfl ?_
       refine sP (opp_extract rfl rfl rfl) rfl rfl ?_
       refine sP (opp_as (v := .int _ _) rfl rfl) rfl rfl ?_
       refine sP (opp_as (v := .err _) rfl rfl) rfl rfl ?_
       refine awp_region rfl ?_
       refine sP (opp_mv (v := .ptr _ _ _) rfl rfl) rfl rfl ?_
       refine sP (opp_mv (v := .ptr _ _ _) rfl rfl) rfl rfl ?_
       refine sP (opp_nilCheckP rfl rfl) rfl rfl ?_
       refine sP (opp_fieldP rfl rfl fld33_5 rfl) rfl rfl ?_
       refine sP (opp_loadP rfl rfl rfl rfl bi rfl ty28) rfl rfl ?_
       refine sP (opp_mv (v := .int _ _) rfl rfl) rfl rfl ?_
       refine sP (opp_mv (v := .int _ _) rfl rfl) rfl rfl ?_
       refine sP (opp_build rfl z121 bld121 rfl [.int _ _, .int _ _] rfl) rfl rfl ?_
       refine sR (opr_buildSlice (n := 85) (g := fun j => if j = 0 then .agg _ else .agg [.int .i64 0, .int .i64 0]) rfl eb28 z121 (by decide) rfl rfl) rfl rfl rfl ?_
       refine sR (opr_appendNil (d := 86) rfl rfl (.osl0 rfl (by omega)) eb28 z121 (by omega) (by omega) (by omega)) rfl rfl rfl ?_
       refine sP (opp_nilCheckP rfl rfl) rfl rfl ?_
       refine sP (opp_fieldP rfl rfl fld33_5 rfl) rfl rfl ?_
       refine sR0 (opr_store (v := .osl _ _ _ _ _) (trn := (.agg [_, _, _, _, _, .osl _ _ _ _ _, _, _, _, _])) rfl rfl rfl rfl bi rfl rfl rfl rfl fr2 ty28 (fun _ _ h => h)) rfl rfl rfl ?_
       have hi0 : i = 0 := hi1.2.1 rfl
       refine Exists.intro ((i + 1, false)) (And.intro (And.intro (And.intro (by show 5 * (i + 1) ≤ _; omega) (by simp)) (by first | omega | (dsimp only; omega))) (by
        refine imp_over [(1004, 86)] rfl rfl (by kernel_rfl) ?_ ?_
        ·iterate 29 refine And.intro wkv ?_
         exact True.intro
        ·refine And.intro (And.intro rfl (And.intro rfl (Exists.intro _ (And.intro rfl (by exact WkC.of (by show AV.agg [_, AV.int .i64 _, _] = AV.agg [_, AV.int .i64 _, _]; rw [show 5 * i + 1 + 4 = 5 * (i + 1) by omega]; rfl)))))) ?_
         refine And.intro (And.intro rfl (And.intro rfl (Exists.intro _ (And.intro rfl (by subst hi0; exact WkC.refl _))))) ?_
         refine And.intro (And.intro rfl (And.intro rfl (Exists.intro _ (And.intro rfl (by show WkC (AV.arr 2 _ _) (AV.arr 2 _ _); subst hi0; exact WkC.arr (fun j hj => by rw [show j = 0 by omega, tms_get b 0 (by omega)]; rfl)))))) ?_
         exact True.intro
        ))
      ·(try simp only [cmpI, errD_nil, qa, qb, qc, qd] at ht66)
       refine awp_exit ?_
       repeat (first | refine athen_ret ?_ | refine ain_ret ?_)
       refine gpost_ret (gends (l := []) true .nil (fun h => by cases h) .nil rfl .refl rfl (And.intro (Exists.intro _ (Exists.intro _ (And.intro rfl (And.intro shut (And.intro (fun h => by cases h) (And.intro ?_ rfl)))))) True.intro))
       ·have hi0 : i = 0 := hi1.2.1 rfl
        have hie : b.length / 5 = 0 := by omega
        rw [rowV, tms_len, hie]; exact .agg (.cons .refl (.cons .refl (.cons .refl (.cons .refl (.cons .refl (.cons .sl0 (.cons .refl (.cons .refl (.cons .refl (.cons .refl .nil))))))))))
    ·(try simp only [cmpI, errD_nil, qa, qb, qc, qd] at ht59)
     exfalso; first | omega | (simp at ht59; done)
end
end Go.Proofs.YtpmgdmbcdohgcaaDoor
/- Layer 16: a record put to a state, the other tags (walks over this dump). -/
namespace Go.Proofs.YtpmgdmbcdohgcaaDoor
attribute [local irreducible] Tryd.prog
open Go.Fy
set_option linter.unusedSimpArgs false
set_option linter.unusedVariables false
def ups (b : List UInt8) : List Bool := b.map fun c => decide (c.toNat = 1)
theorem ups_len (b : List UInt8) : (ups b).length = b.length := by simp [ups]
theorem ups_get (b : List UInt8) (j : Nat) (h : j < b.length) : boolAt (ups b) j = .bool (decide (((b.getD j 0).toNat : Int) = 1)) := by
  simp only [boolAt, ups, List.getD_eq_getElem?_getD, List.getElem?_map, List.getElem?_eq_getElem h, Option.map_some, Option.getD_some]
  congr 1; rw [decide_eq_decide]; omega
theorem pg_eq (b : List UInt8) (h : b.length = 65) : AV.agg [.int .i64 0, .bool (cmpI .eql ((b.getD (Int.toNat 0) 0).toNat : Int) 1), .arr 1 64 fun j => if j < min ((b.length : Int) - 1).toNat (((64 : Nat) : Int) - 0).toNat then bAt b (Int.toNat 1 + j) else .int .u8 0] = pgAV (Sp.page b) := by
  have e1 : cmpI .eql ((b.getD (Int.toNat 0) 0).toNat : Int) 1 = (Sp.page b).dirty := by
    show decide _ = decide _
    rw [decide_eq_decide]; show ((b.getD 0 0).toNat : Int) = 1 ↔ _; omega
  have e2 : (fun j => if j < min ((b.length : Int) - 1).toNat (((64 : Nat) : Int) - 0).toNat then bAt b (Int.toNat 1 + j) else AV.int .u8 0) = bAt (Sp.page b).data := by
    funext j
    by_cases hj : j < 64
    · rw [if_pos (by omega)]; exact (bAt_drop b 1 j).symm
    · rw [if_neg (by omega)]; simp only [bAt, Sp.page, List.getD_eq_getElem?_getD]; rw [List.getElem?_eq_none (by rw [List.length_drop]; omega)]; rfl
  rw [e1, e2]; rfl
section
variable {ea : Nat → Addr} {cds : List Nat} {gl : Nat → Option AV}
theorem cg26g (b : List UInt8) (h0 : b.length ≤ 4294967296) (v : Nat → Value) (nn : Bool) (n : Nat) (f : Nat → AV) : AGen (V ea cds gl) 26 [.ptr 1 [] 0, rcAV ⟨6, false, b⟩] [(1, some (.agg [.val (v 0), .val (v 1), .val (v 2), .val (v 3), .val (v 4), .val (v 5), .sl 1 nn n f, .val (v 7), .val (v 8), .val (v 9)]))]
  (.tup []) [(1, some (.agg [.val (v 0), .val (v 1), .val (v 2), .val (v 3), .val (v 4), .val (v 5), rowV 1 (ups b).length (boolAt (ups b)), .val (v 7), .val (v 8), .val (v 9)]))] := by
 unfold rcAV; dsimp only
 refine agen_of_body (N := 163) Tryd.func26 rfl rfl (Nat.le_of_ble_eq_true rfl) fun C hV hN hM hO => ?_
 obtain ⟨_, _, w0, G0, σ0, _, own0⟩ := C; dsimp only at hV hN hM hO; subst hV; subst hN; subst hM
 refine awp_seq (awp_region rfl ?_)
 refine sR (opr_box (y := .agg _) (n := 3) rfl rfl rfl) rfl rfl rfl ?_
 refine awp_seq (awp_region rfl ?_)
 refine sP (opp_fieldP rfl rfl fld40_1 rfl) rfl rfl ?_
 refine sP (opp_loadP rfl rfl rfl rfl bi rfl ty38) rfl rfl ?_
 refine sR (opr_callO (rl := [(8, 16)]) (r1 := .ptr _ _ _) (H1 := [(16, some (.agg [.sl _ _ _ _, .int _ _, .int _ _]))]) (n1 := [16]) rfl rfl ent45 rfl (co45 b (by omega)) (AViews.refl _ rfl) rfl rfl rfl rfl) rfl rfl rfl ?_
 refine sP (opp_as (v := .ptr _ _ _) rfl rfl) rfl rfl ?_
 refine awp_seq (awp_region rfl ?_)
 refine sP (opp_fieldP rfl rfl fld40_0 rfl) rfl rfl ?_
 refine sP (opp_loadP rfl rfl rfl rfl bi rfl ty3) rfl rfl ?_
 refine awp_block (awp_seq (awp_region rfl ?_))
 refine sP (opp_cmp rfl rfl rfl rfl) rfl rfl ?_
 refine sP (opp_as (v := .bool _) rfl rfl) rfl rfl ?_
 refine awp_cond _ rfl (fun ht19 => ?_) (fun ht19 => ?_)
 ·(try simp only [cmpI, errD_nil, qa, qb, qc, qd] at ht19)
  exfalso; first | omega | (simp at ht19; done)
 ·(try simp only [cmpI, errD_nil, qa, qb, qc, qd] at ht19)
  refine awp_seq (awp_region rfl ?_)
  refine sP (opp_cmp rfl rfl rfl rfl) rfl rfl ?_
  refine sP (opp_as (v := .bool _) rfl rfl) rfl rfl ?_
  refine awp_cond _ rfl (fun ht37 => ?_) (fun ht37 => ?_)
  ·(try simp only [cmpI, errD_nil, qa, qb, qc, qd] at ht37)
   exfalso; first | omega | (simp at ht37; done)
  ·(try simp only [cmpI, errD_nil, qa, qb, qc, qd] at ht37)
   refine awp_seq (awp_region rfl ?_)
   refine sP (opp_cmp rfl rfl rfl rfl) rfl rfl ?_
   refine sP (opp_as (v := .bool _) rfl rfl) rfl rfl ?_
   refine awp_cond _ rfl (fun ht51 => ?_) (fun ht51 => ?_)
   ·(try simp only [cmpI, errD_nil, qa, qb, qc, qd] at ht51)
    exfalso; first | omega | (simp at ht51; done)
   ·(try simp only [cmpI, errD_nil, qa, qb, qc, qd] at ht51)
    refine awp_seq (awp_region rfl ?_)
    refine sP (opp_cmp rfl rfl rfl rfl) rfl rfl ?_
    refine sP (opp_as (v := .bool _) rfl rfl) rfl rfl ?_
    refine awp_cond _ rfl (fun ht59 => ?_) (fun ht59 => ?_)
    ·(try simp only [cmpI, errD_nil, qa, qb, qc, qd] at ht59)
     exfalso; first | omega | (simp at ht59; done)
    ·(try simp only [cmpI, errD_nil, qa, qb, qc, qd] at ht59)
     refine awp_seq (awp_region rfl ?_)
     refine sP (opp_cmp rfl rfl rfl rfl) rfl rfl ?_
     refine sP (opp_as (v := .bool _) rfl rfl) rfl rfl ?_
     refine awp_cond _ rfl (fun ht89 => ?_) (fun ht89 => ?_)
     ·(try simp only [cmpI, errD_nil, qa, qb, qc, qd] at ht89)
      refine awp_seq (awp_region rfl ?_)
      refine sP (opp_mv (v := .ptr _ _ _) rfl rfl) rfl rfl ?_
      refine sP (opp_nilCheckP rfl rfl) rfl rfl ?_
      refine sP (opp_fieldP rfl rfl fld33_6 rfl) rfl rfl ?_
      refine sR0 (opr_store (v := .sl _ _ _ _) (trn := (.agg [_, _, _, _, _, _, .sl _ _ _ _, _, _, _])) rfl rfl rfl rfl bi rfl rfl rfl rfl fr2 ty29 (fun _ _ h => h)) rfl rfl rfl ?_
      refine awp_seq (awp_region rfl ?_)
      refine sP (opp_fieldP rfl rfl fld40_1 rfl) rfl rfl ?_
      refine sP (opp_loadP rfl rfl rfl rfl bi rfl ty38) rfl rfl ?_
      refine sP (opp_lenSl rfl rfl un38) rfl rfl ?_
      refine sP (opp_mv (v := .int _ _) rfl rfl) rfl rfl ?_
      refine awp_block ?_
      refine awp_loopK (ι := Nat × Bool) (fun p => p.1 ≤ b.length ∧ (p.2 = true ↔ p.1 = 0)) (fun p => [(10, .top), (97, .int .i64 (p.1 : Int)), (98, .top), (99, .top), (100, .top), (101, .top), (102, .top), (103, .top), (104, .top), (105, .top), (106, .top), (107, .top), (108, .top), (109, .top), (110, .top), (111, .top), (112, .top)]) (fun p => [(1, some (.agg [.val (v 0), .val (v 1), .val (v 2), .val (v 3), .val (v 4), .val (v 5), cond p.2 (.sl 1 true 0 (fun _ => .top)) (.osl 1004 1 0 p.1 p.1), .val (v 7), .val (v 8), .val (v 9)])), (1004, cond p.2 none (some (.arr 1 p.1 (boolAt (ups b)))))]) [1004] (fun p => b.length - p.1) ((0, true)) (⟨Nat.zero_le _, by simp⟩) (by
       refine imp_over [] rfl rfl (by kernel_rfl) ?_ ?_
       ·iterate 17 refine And.intro wkv ?_
        exact True.intro
       ·refine And.intro (And.intro rfl (And.intro rfl (Exists.intro _ (And.intro rfl wkc)))) ?_
        exact True.intro
       ) ?_
      intro p hi1; obtain ⟨i, e⟩ := p; rcases e with _ | _
      ·dsimp only [cond] at hi1 ⊢
       refine awp_seq (awp_region rfl ?_)
       refine sP (opp_cmp rfl rfl rfl rfl) rfl rfl ?_
       refine awp_seq ?_
       refine awp_cond _ rfl (fun ht98 => ?_) (fun ht98 => ?_)
       ·(try simp only [cmpI, errD_nil, qa, qb, qc, qd] at ht98)
        refine awp_skip (awp_seq (awp_block (awp_seq ?_)))
        have hby := (b.getD i 0).toNat_lt
        refine awp_region rfl ?_
        refine sP (opp_indexSl rfl rfl rfl el38 (by omega) (by omega)) rfl rfl ?_
        refine sP (opp_loadF rfl rfl ty5) rfl rfl ?_
        refine sP (opp_as (v := .int _ _) rfl rfl) rfl rfl ?_
        refine awp_region rfl ?_
        refine sP (opp_mv (v := .ptr _ _ _) rfl rfl) rfl rfl ?_
        refine sP (opp_mv (v := .ptr _ _ _) rfl rfl) rfl rfl ?_
        refine sP (opp_nilCheckP rfl rfl) rfl rfl ?_
        refine sP (opp_fieldP rfl rfl fld33_6 rfl) rfl rfl ?_
        refine sP (opp_loadP rfl rfl rfl rfl bi rfl ty29) rfl rfl ?_
        refine sP (opp_mv (v := .int _ _) rfl rfl) rfl rfl ?_
        refine sP (opp_cmp rfl rfl rfl rfl) rfl rfl ?_
        refine sR (opr_buildSlice (n := 108) (g := fun j => if j = 0 then .bool _ else .bool false) rfl eb29 z4 (by decide) rfl rfl) rfl rfl rfl ?_
        refine sR (opr_append (d := 109) rfl rfl rfl (by omega) (.osl0 rfl (by omega)) eb29 z4 (by omega) (by omega)) rfl rfl rfl ?_
        refine sP (opp_nilCheckP rfl rfl) rfl rfl ?_
        refine sP (opp_fieldP rfl rfl fld33_6 rfl) rfl rfl ?_
        refine sR0 (opr_store (v := .osl _ _ _ _ _) (trn := (.agg [_, _, _, _, _, _, .osl _ _ _ _ _, _, _, _])) rfl rfl rfl rfl bi rfl rfl rfl rfl fr2 ty29 (fun _ _ h => h)) rfl rfl rfl ?_
        refine awp_region rfl ?_
        refine sP (opp_arith rfl rfl rfl (.inl ⟨rfl, w64 (by omega)⟩)) rfl rfl ?_
        refine sP (opp_mv (v := .int _ _) rfl rfl) rfl rfl ?_
        refine Exists.intro ((i + 1, false)) (And.intro (And.intro (And.intro (by show i + 1 ≤ _; omega) (by simp)) (by first | omega | (dsimp only; omega))) (by
         refine imp_over [(1004, 109)] rfl rfl (by kernel_rfl) ?_ ?_
         ·iterate 17 refine And.intro wkv ?_
          exact True.intro
         ·refine And.intro (And.intro rfl (And.intro rfl (Exists.intro _ (And.intro rfl wkc)))) ?_
          refine And.intro (And.intro rfl (And.intro rfl (Exists.intro _ (And.intro rfl (by show WkC (AV.arr 1 _ _) (AV.arr 1 _ _); exact WkC.arr (fun j hj => by by_cases h : j < i; rw [if_pos h]; rw [if_neg h, show j = i by omega, if_pos (by omega), ups_get b i (by omega)]; rfl)))))) ?_
          exact True.intro
         ))
       ·(try simp only [cmpI, errD_nil, qa, qb, qc, qd] at ht98)
        refine awp_exit ?_
        repeat (first | refine athen_ret ?_ | refine ain_ret ?_)
        refine gpost_ret (gends (l := []) true .nil (fun h => by cases h) .nil rfl .refl rfl (And.intro (Exists.intro _ (Exists.intro _ (And.intro rfl (And.intro shut (And.intro (fun h => by cases h) (And.intro ?_ rfl)))))) True.intro))
        ·have hie : i = b.length := by omega
         have hne : i ≠ 0 := by intro h; simp [h] at hi1
         rw [rowV, ups_len, ← hie, show decide (i = 0) = false by rw [decide_eq_false_iff_not]; exact hne]; exact .refl
      ·dsimp only [cond] at hi1 ⊢
       refine awp_seq (awp_region rfl ?_)
       refine sP (opp_cmp rfl rfl rfl rfl) rfl rfl ?_
       refine awp_seq ?_
       refine awp_cond _ rfl (fun ht98 => ?_) (fun ht98 => ?_)
       ·(try simp only [cmpI, errD_nil, qa, qb, qc, qd] at ht98)
        refine awp_skip (awp_seq (awp_block (awp_seq ?_)))
        have hby := (b.getD i 0).toNat_lt
        refine awp_region rfl ?_
        refine sP (opp_indexSl rfl rfl rfl el38 (by omega) (by omega)) rfl rfl ?_
        refine sP (opp_loadF rfl rfl ty5) rfl rfl ?_
        refine sP (opp_as (v := .int _ _) rfl rfl) rfl rfl ?_
        refine awp_region rfl ?_
        refine sP (opp_mv (v := .ptr _ _ _) rfl rfl) rfl rfl ?_
        refine sP (opp_mv (v := .ptr _ _ _) rfl rfl) rfl rfl ?_
        refine sP (opp_nilCheckP rfl rfl) rfl rfl ?_
        refine sP (opp_fieldP rfl rfl fld33_6 rfl) rfl rfl ?_
        refine sP (opp_loadP rfl rfl rfl rfl bi rfl ty29) rfl rfl ?_
        refine sP (opp_mv (v := .int _ _) rfl rfl) rfl rfl ?_
        refine sP (opp_cmp rfl rfl rfl rfl) rfl rfl ?_
        refine sR (opr_buildSlice (n := 108) (g := fun j => if j = 0 then .bool _ else .bool false) rfl eb29 z4 (by decide) rfl rfl) rfl rfl rfl ?_
        refine sR (opr_appendNil (d := 109) rfl rfl (.osl0 rfl (by omega)) eb29 z4 (by omega) (by omega) (by omega)) rfl rfl rfl ?_
        refine sP (opp_nilCheckP rfl rfl) rfl rfl ?_
        refine sP (opp_fieldP rfl rfl fld33_6 rfl) rfl rfl ?_
        refine sR0 (opr_store (v := .osl _ _ _ _ _) (trn := (.agg [_, _, _, _, _, _, .osl _ _ _ _ _, _, _, _])) rfl rfl rfl rfl bi rfl rfl rfl rfl fr2 ty29 (fun _ _ h => h)) rfl rfl rfl ?_
        refine awp_region rfl ?_
        refine sP (opp_arith rfl rfl rfl (.inl ⟨rfl, w64 (by omega)⟩)) rfl rfl ?_
        refine sP (opp_mv (v := .int _ _) rfl rfl) rfl rfl ?_
        have hi0 : i = 0 := hi1.2.1 rfl
        refine Exists.intro ((i + 1, false)) (And.intro (And.intro (And.intro (by show i + 1 ≤ _; omega) (by simp)) (by first | omega | (dsimp only; omega))) (by
         refine imp_over [(1004, 109)] rfl rfl (by kernel_rfl) ?_ ?_
         ·iterate 17 refine And.intro wkv ?_
          exact True.intro
         ·refine And.intro (And.intro rfl (And.intro rfl (Exists.intro _ (And.intro rfl (by subst hi0; exact WkC.refl _))))) ?_
          refine And.intro (And.intro rfl (And.intro rfl (Exists.intro _ (And.intro rfl (by show WkC (AV.arr 1 _ _) (AV.arr 1 _ _); subst hi0; exact WkC.arr (fun j hj => by rw [show j = 0 by omega, ups_get b 0 (by omega)]; rfl)))))) ?_
          exact True.intro
         ))
       ·(try simp only [cmpI, errD_nil, qa, qb, qc, qd] at ht98)
        refine awp_exit ?_
        repeat (first | refine athen_ret ?_ | refine ain_ret ?_)
        refine gpost_ret (gends (l := []) true .nil (fun h => by cases h) .nil rfl .refl rfl (And.intro (Exists.intro _ (Exists.intro _ (And.intro rfl (And.intro shut (And.intro (fun h => by cases h) (And.intro ?_ rfl)))))) True.intro))
        ·have hi0 : i = 0 := hi1.2.1 rfl
         have hie : b.length = 0 := by omega
         rw [rowV, ups_len, hie]; exact .agg (.cons .refl (.cons .refl (.cons .refl (.cons .refl (.cons .refl (.cons .refl (.cons .sl0 (.cons .refl (.cons .refl (.cons .refl .nil))))))))))
     ·(try simp only [cmpI, errD_nil, qa, qb, qc, qd] at ht89)
      exfalso; first | omega | (simp at ht89; done)
theorem cg26h (b : List UInt8) (h0 : b.length ≤ 4294967296) (v : Nat → Value) (l : List Pt) (hl : l.length ≤ 4294967296) (hG2 : gl 2 = some (.err (.code 1))) (hG3 : gl 3 = some (.err (.code 2))) :
  AGen (V ea cds gl) 26 [.ptr 1 [] 0, rcAV ⟨8, false, b⟩] [(1, some (.agg [.val (v 0), .val (v 1), .val (v 2), .val (v 3), .val (v 4), .val (v 5), .val (v 6), .val (v 7), .osl 2 2 0 l.length l.length, .val (v 9)])), (2, some (.arr 2 l.length (ptAt l)))]
  (.tup []) [(1, some (.agg [.val (v 0), .val (v 1), .val (v 2), .val (v 3), .val (v 4), .val (v 5), .val (v 6), .val (v 7), .osl 136 2 0 (l.length + 1) (l.length + 1), .val (v 9)])), (2, none), (136, some (.arr 2 (l.length + 1) (ptAt (l ++ [(Sp.portQ b).1]))))] := by
 unfold rcAV; dsimp only
 refine agen_of_body (N := 163) Tryd.func26 rfl rfl (Nat.le_of_ble_eq_true rfl) fun C hV hN hM hO => ?_
 obtain ⟨_, _, w0, G0, σ0, _, own0⟩ := C; dsimp only at hV hN hM hO; subst hV; subst hN; subst hM
 refine awp_seq (awp_region rfl ?_)
 refine sR (opr_box (y := .agg _) (n := 3) rfl rfl rfl) rfl rfl rfl ?_
 refine awp_seq (awp_region rfl ?_)
 refine sP (opp_fieldP rfl rfl fld40_1 rfl) rfl rfl ?_
 refine sP (opp_loadP rfl rfl rfl rfl bi rfl ty38) rfl rfl ?_
 refine sR (opr_callO (rl := [(8, 16)]) (r1 := .ptr _ _ _) (H1 := [(16, some (.agg [.sl _ _ _ _, .int _ _, .int _ _]))]) (n1 := [16]) rfl rfl ent45 rfl (co45 b (by omega)) (AViews.refl _ rfl) rfl rfl rfl rfl) rfl rfl rfl ?_
 refine sP (opp_as (v := .ptr _ _ _) rfl rfl) rfl rfl ?_
 refine awp_seq (awp_region rfl ?_)
 refine sP (opp_fieldP rfl rfl fld40_0 rfl) rfl rfl ?_
 refine sP (opp_loadP rfl rfl rfl rfl bi rfl ty3) rfl rfl ?_
 refine awp_block (awp_seq (awp_region rfl ?_))
 refine sP (opp_cmp rfl rfl rfl rfl) rfl rfl ?_
 refine sP (opp_as (v := .bool _) rfl rfl) rfl rfl ?_
 refine awp_cond _ rfl (fun ht19 => ?_) (fun ht19 => ?_)
 ·(try simp only [cmpI, errD_nil, qa, qb, qc, qd] at ht19)
  exfalso; first | omega | (simp at ht19; done)
 ·(try simp only [cmpI, errD_nil, qa, qb, qc, qd] at ht19)
  refine awp_seq (awp_region rfl ?_)
  refine sP (opp_cmp rfl rfl rfl rfl) rfl rfl ?_
  refine sP (opp_as (v := .bool _) rfl rfl) rfl rfl ?_
  refine awp_cond _ rfl (fun ht37 => ?_) (fun ht37 => ?_)
  ·(try simp only [cmpI, errD_nil, qa, qb, qc, qd] at ht37)
   exfalso; first | omega | (simp at ht37; done)
  ·(try simp only [cmpI, errD_nil, qa, qb, qc, qd] at ht37)
   refine awp_seq (awp_region rfl ?_)
   refine sP (opp_cmp rfl rfl rfl rfl) rfl rfl ?_
   refine sP (opp_as (v := .bool _) rfl rfl) rfl rfl ?_
   refine awp_cond _ rfl (fun ht51 => ?_) (fun ht51 => ?_)
   ·(try simp only [cmpI, errD_nil, qa, qb, qc, qd] at ht51)
    exfalso; first | omega | (simp at ht51; done)
   ·(try simp only [cmpI, errD_nil, qa, qb, qc, qd] at ht51)
    refine awp_seq (awp_region rfl ?_)
    refine sP (opp_cmp rfl rfl rfl rfl) rfl rfl ?_
    refine sP (opp_as (v := .bool _) rfl rfl) rfl rfl ?_
    refine awp_cond _ rfl (fun ht59 => ?_) (fun ht59 => ?_)
    ·(try simp only [cmpI, errD_nil, qa, qb, qc, qd] at ht59)
     exfalso; first | omega | (simp at ht59; done)
    ·(try simp only [cmpI, errD_nil, qa, qb, qc, qd] at ht59)
     refine awp_seq (awp_region rfl ?_)
     refine sP (opp_cmp rfl rfl rfl rfl) rfl rfl ?_
     refine sP (opp_as (v := .bool _) rfl rfl) rfl rfl ?_
     refine awp_cond _ rfl (fun ht89 => ?_) (fun ht89 => ?_)
     ·(try simp only [cmpI, errD_nil, qa, qb, qc, qd] at ht89)
      exfalso; first | omega | (simp at ht89; done)
     ·(try simp only [cmpI, errD_nil, qa, qb, qc, qd] at ht89)
      refine awp_seq (awp_region rfl ?_)
      refine sP (opp_cmp rfl rfl rfl rfl) rfl rfl ?_
      refine sP (opp_as (v := .bool _) rfl rfl) rfl rfl ?_
      refine awp_cond _ rfl (fun ht113 => ?_) (fun ht113 => ?_)
      ·(try simp only [cmpI, errD_nil, qa, qb, qc, qd] at ht113)
       exfalso; first | omega | (simp at ht113; done)
      ·(try simp only [cmpI, errD_nil, qa, qb, qc, qd] at ht113)
       refine awp_seq (awp_region rfl ?_)
       refine sP (opp_cmp rfl rfl rfl rfl) rfl rfl ?_
       refine sP (opp_as (v := .bool _) rfl rfl) rfl rfl ?_
       refine awp_cond _ rfl (fun ht121 => ?_) (fun ht121 => ?_)
       ·(try simp only [cmpI, errD_nil, qa, qb, qc, qd] at ht121)
        refine awp_seq (awp_region rfl ?_)
        refine sP (opp_fieldP rfl rfl fld40_1 rfl) rfl rfl ?_
        refine sP (opp_loadP rfl rfl rfl rfl bi rfl ty38) rfl rfl ?_
        refine sR (opr_call rfl rfl ent52 rfl (c52 b (by omega) hG2 hG3) (AViews.refl _ rfl)) rfl rfl rfl ?_ -- d=126 t=109 a=125
        refine sP (opp_mv (v := .tup _) rfl rfl) rfl rfl ?_
        refine sP (opp_extract rfl rfl rfl) rfl rfl ?_
        refine sP (opp_extract rfl rfl rfl) rfl rfl ?_
        refine sR (opr_alloc (n := 11) rfl z70) rfl rfl rfl ?_
        refine sR0 (opr_store (v := .agg _) (trn := (.agg _)) rfl rfl rfl rfl bi rfl rfl rfl rfl fr2 ty70 (fun _ _ h => h)) rfl rfl rfl ?_
        refine sP (opp_as (v := .bool _) rfl rfl) rfl rfl ?_
        refine awp_draw hmix rfl (by kernel_rfl) ?_
        refine dP (fun _ => false) (opp_mv (v := .ptr _ _ _) rfl rfl) rfl rfl ?_
        refine dP (fun _ => false) (opp_mv (v := .ptr _ _ _) rfl rfl) rfl rfl ?_
        refine dP (fun _ => false) (opp_nilCheckP rfl rfl) rfl rfl ?_
        refine dP (fun _ => false) (opp_fieldP rfl rfl fld33_8 rfl) rfl rfl ?_
        refine dP (fun n => Nat.beq n 1) (opp_loadP rfl rfl rfl rfl bi rfl ty30) rfl rfl ?_
        refine dP (fun n => Nat.beq n 11) (opp_loadP rfl rfl rfl rfl bi rfl ty70) rfl rfl ?_
        refine dR (fun _ => false) (opr_buildSlice (n := 135) (g := fun j => if j = 0 then .agg _ else .agg [.sl 1 true 0 (fun _ => .top), .int .i64 0]) rfl eb30 z70 (by decide) rfl rfl) rfl rfl rfl ?_
        refine dR (fun n => !([] : List Nat).contains n) (opr_append (d := 136) rfl rfl rfl (by omega) (.osl0 rfl (by omega)) eb30 z70 (by omega) (by omega)) rfl rfl rfl ?_
        refine dP (fun _ => false) (opp_nilCheckP rfl rfl) rfl rfl ?_
        refine dP (fun _ => false) (opp_fieldP rfl rfl fld33_8 rfl) rfl rfl ?_
        refine dR0 (fun n => Nat.beq n 1) (opr_store (v := .osl _ _ _ _ _) (trn := (.agg [_, _, _, _, _, _, _, _, .osl _ _ _ _ _, _])) rfl rfl rfl rfl bi rfl rfl rfl rfl fr2 ty30 (fun _ _ h => h)) rfl rfl rfl ?_
        refine And.intro (by kernel_rfl) ?_
        repeat (first | refine athen_ret ?_ | refine ain_ret ?_)
        refine gpost_ret (gends (l := []) false .nil (fun h => by cases h) .nil rfl .refl rfl (And.intro (Exists.intro _ (Exists.intro _ (And.intro rfl (And.intro shut (And.intro (fun h => by cases h) (And.intro ?_ rfl)))))) (And.intro (Exists.intro _ (Exists.intro _ (And.intro rfl (And.intro shut (And.intro (fun h => by cases h) (And.intro ?_ rfl)))))) True.intro)))
        ·exact .refl
        ·exact .arr (fun j hj => by by_cases h : j < l.length; rw [if_pos h, ptAt, ptAt, snoc_lt _ _ _ _ h]; rw [if_neg h, if_pos (by omega), ptAt, snoc_eq _ _ _ _ (by omega)]; rfl)
       ·(try simp only [cmpI, errD_nil, qa, qb, qc, qd] at ht121)
        exfalso; first | omega | (simp at ht121; done)
theorem cg26i (b : List UInt8) (h0 : b.length ≤ 4294967296) (v : Nat → Value) (f : Nat → AV) (hG2 : gl 2 = some (.err (.code 1))) (hG3 : gl 3 = some (.err (.code 2))) :
  AGen (V ea cds gl) 26 [.ptr 1 [] 0, rcAV ⟨8, false, b⟩] [(1, some (.agg [.val (v 0), .val (v 1), .val (v 2), .val (v 3), .val (v 4), .val (v 5), .val (v 6), .val (v 7), .sl 2 true 0 f, .val (v 9)]))]
  (.tup []) [(1, some (.agg [.val (v 0), .val (v 1), .val (v 2), .val (v 3), .val (v 4), .val (v 5), .val (v 6), .val (v 7), .osl 136 2 0 1 1, .val (v 9)])), (136, some (.arr 2 1 (ptAt [(Sp.portQ b).1])))] := by
 unfold rcAV; dsimp only
 refine agen_of_body (N := 163) Tryd.func26 rfl rfl (Nat.le_of_ble_eq_true rfl) fun C hV hN hM hO => ?_
 obtain ⟨_, _, w0, G0, σ0, _, own0⟩ := C; dsimp only at hV hN hM hO; subst hV; subst hN; subst hM
 refine awp_seq (awp_region rfl ?_)
 refine sR (opr_box (y := .agg _) (n := 3) rfl rfl rfl) rfl rfl rfl ?_
 refine awp_seq (awp_region rfl ?_)
 refine sP (opp_fieldP rfl rfl fld40_1 rfl) rfl rfl ?_
 refine sP (opp_loadP rfl rfl rfl rfl bi rfl ty38) rfl rfl ?_
 refine sR (opr_callO (rl := [(8, 16)]) (r1 := .ptr _ _ _) (H1 := [(16, some (.agg [.sl _ _ _ _, .int _ _, .int _ _]))]) (n1 := [16]) rfl rfl ent45 rfl (co45 b (by omega)) (AViews.refl _ rfl) rfl rfl rfl rfl) rfl rfl rfl ?_
 refine sP (opp_as (v := .ptr _ _ _) rfl rfl) rfl rfl ?_
 refine awp_seq (awp_region rfl ?_)
 refine sP (opp_fieldP rfl rfl fld40_0 rfl) rfl rfl ?_
 refine sP (opp_loadP rfl rfl rfl rfl bi rfl ty3) rfl rfl ?_
 refine awp_block (awp_seq (awp_region rfl ?_))
 refine sP (opp_cmp rfl rfl rfl rfl) rfl rfl ?_
 refine sP (opp_as (v := .bool _) rfl rfl) rfl rfl ?_
 refine awp_cond _ rfl (fun ht19 => ?_) (fun ht19 => ?_)
 ·(try simp only [cmpI, errD_nil, qa, qb, qc, qd] at ht19)
  exfalso; first | omega | (simp at ht19; done)
 ·(try simp only [cmpI, errD_nil, qa, qb, qc, qd] at ht19)
  refine awp_seq (awp_region rfl ?_)
  refine sP (opp_cmp rfl rfl rfl rfl) rfl rfl ?_
  refine sP (opp_as (v := .bool _) rfl rfl) rfl rfl ?_
  refine awp_cond _ rfl (fun ht37 => ?_) (fun ht37 => ?_)
  ·(try simp only [cmpI, errD_nil, qa, qb, qc, qd] at ht37)
   exfalso; first | omega | (simp at ht37; done)
  ·(try simp only [cmpI, errD_nil, qa, qb, qc, qd] at ht37)
   refine awp_seq (awp_region rfl ?_)
   refine sP (opp_cmp rfl rfl rfl rfl) rfl rfl ?_
   refine sP (opp_as (v := .bool _) rfl rfl) rfl rfl ?_
   refine awp_cond _ rfl (fun ht51 => ?_) (fun ht51 => ?_)
   ·(try simp only [cmpI, errD_nil, qa, qb, qc, qd] at ht51)
    exfalso; first | omega | (simp at ht51; done)
   ·(try simp only [cmpI, errD_nil, qa, qb, qc, qd] at ht51)
    refine awp_seq (awp_region rfl ?_)
    refine sP (opp_cmp rfl rfl rfl rfl) rfl rfl ?_
    refine sP (opp_as (v := .bool _) rfl rfl) rfl rfl ?_
    refine awp_cond _ rfl (fun ht59 => ?_) (fun ht59 => ?_)
    ·(try simp only [cmpI, errD_nil, qa, qb, qc, qd] at ht59)
     exfalso; first | omega | (simp at ht59; done)
    ·(try simp only [cmpI, errD_nil, qa, qb, qc, qd] at ht59)
     refine awp_seq (awp_region rfl ?_)
     refine sP (opp_cmp rfl rfl rfl rfl) rfl rfl ?_
     refine sP (opp_as (v := .bool _) rfl rfl) rfl rfl ?_
     refine awp_cond _ rfl (fun ht89 => ?_) (fun ht89 => ?_)
     ·(try simp only [cmpI, errD_nil, qa, qb, qc, qd] at ht89)
      exfalso; first | omega | (simp at ht89; done)
     ·(try simp only [cmpI, errD_nil, qa, qb, qc, qd] at ht89)
      refine awp_seq (awp_region rfl ?_)
      refine sP (opp_cmp rfl rfl rfl rfl) rfl rfl ?_
      refine sP (opp_as (v := .bool _) rfl rfl) rfl rfl ?_
      refine awp_cond _ rfl (fun ht113 => ?_) (fun ht113 => ?_)
      ·(try simp only [cmpI, errD_nil, qa, qb, qc, qd] at ht113)
       exfalso; first | omega | (simp at ht113; done)
      ·(try simp only [cmpI, errD_nil, qa, qb, qc, qd] at ht113)
       refine awp_seq (awp_region rfl ?_)
       refine sP (opp_cmp rfl rfl rfl rfl) rfl rfl ?_
       refine sP (opp_as (v := .bool _) rfl rfl) rfl rfl ?_
       refine awp_cond _ rfl (fun ht121 => ?_) (fun ht121 => ?_)
       ·(try simp only [cmpI, errD_nil, qa, qb, qc, qd] at ht121)
        refine awp_seq (awp_region rfl ?_)
        refine sP (opp_fieldP rfl rfl fld40_1 rfl) rfl rfl ?_
        refine sP (opp_loadP rfl rfl rfl rfl bi rfl ty38) rfl rfl ?_
        refine sR (opr_call rfl rfl ent52 rfl (c52 b (by omega) hG2 hG3) (AViews.refl _ rfl)) rfl rfl rfl ?_ -- d=126 t=109 a=125
        refine sP (opp_mv (v := .tup _) rfl rfl) rfl rfl ?_
        refine sP (opp_extract rfl rfl rfl) rfl rfl ?_
        refine sP (opp_extract rfl rfl rfl) rfl rfl ?_
        refine sR (opr_alloc (n := 11) rfl z70) rfl rfl rfl ?_
        refine sR0 (opr_store (v := .agg _) (trn := (.agg _)) rfl rfl rfl rfl bi rfl rfl rfl rfl fr2 ty70 (fun _ _ h => h)) rfl rfl rfl ?_
        refine sP (opp_as (v := .bool _) rfl rfl) rfl rfl ?_
        refine awp_draw hmix rfl (by kernel_rfl) ?_
        refine dP (fun _ => false) (opp_mv (v := .ptr _ _ _) rfl rfl) rfl rfl ?_
        refine dP (fun _ => false) (opp_mv (v := .ptr _ _ _) rfl rfl) rfl rfl ?_
        refine dP (fun _ => false) (opp_nilCheckP rfl rfl) rfl rfl ?_
        refine dP (fun _ => false) (opp_fieldP rfl rfl fld33_8 rfl) rfl rfl ?_
        refine dP (fun n => Nat.beq n 1) (opp_loadP rfl rfl rfl rfl bi rfl ty30) rfl rfl ?_
        refine dP (fun n => Nat.beq n 11) (opp_loadP rfl rfl rfl rfl bi rfl ty70) rfl rfl ?_
        refine dR (fun _ => false) (opr_buildSlice (n := 135) (g := fun j => if j = 0 then .agg _ else .agg [.sl 1 true 0 (fun _ => .top), .int .i64 0]) rfl eb30 z70 (by decide) rfl rfl) rfl rfl rfl ?_
        refine dR (fun n => !([] : List Nat).contains n) (opr_appendNil (d := 136) rfl rfl (.osl0 rfl (by omega)) eb30 z70 (by omega) (by omega) (by omega)) rfl rfl rfl ?_
        refine dP (fun _ => false) (opp_nilCheckP rfl rfl) rfl rfl ?_
        refine dP (fun _ => false) (opp_fieldP rfl rfl fld33_8 rfl) rfl rfl ?_
        refine dR0 (fun n => Nat.beq n 1) (opr_store (v := .osl _ _ _ _ _) (trn := (.agg [_, _, _, _, _, _, _, _, .osl _ _ _ _ _, _])) rfl rfl rfl rfl bi rfl rfl rfl rfl fr2 ty30 (fun _ _ h => h)) rfl rfl rfl ?_
        refine And.intro (by kernel_rfl) ?_
        repeat (first | refine athen_ret ?_ | refine ain_ret ?_)
        refine gpost_ret (gends (l := []) true .nil (fun h => by cases h) .nil rfl .refl rfl (And.intro (Exists.intro _ (Exists.intro _ (And.intro rfl (And.intro shut (And.intro (fun h => by cases h) (And.intro ?_ rfl)))))) (And.intro (Exists.intro _ (Exists.intro _ (And.intro rfl (And.intro shut (And.intro (fun h => by cases h) (And.intro ?_ rfl)))))) True.intro)))
        ·exact .refl
        ·exact .arr (fun j hj => by rw [show j = 0 by omega]; rfl)
       ·(try simp only [cmpI, errD_nil, qa, qb, qc, qd] at ht121)
        exfalso; first | omega | (simp at ht121; done)
theorem cg26j (b : List UInt8) (h0 : b.length = 65) (v : Nat → Value) (l : List Pg) (hl : l.length ≤ 4294967296) : AGen (V ea cds gl) 26 [.ptr 1 [] 0, rcAV ⟨9, false, b⟩] [(1, some (.agg [.val (v 0), .val (v 1), .val (v 2), .val (v 3), .val (v 4), .val (v 5), .val (v 6), .val (v 7), .val (v 8), .osl 2 66 0 l.length l.length])), (2, some (.arr 66 l.length (pgAt l)))]
  (.tup []) [(1, some (.agg [.val (v 0), .val (v 1), .val (v 2), .val (v 3), .val (v 4), .val (v 5), .val (v 6), .val (v 7), .val (v 8), .osl 160 66 0 (l.length + 1) (l.length + 1)])), (2, none), (160, some (.arr 66 (l.length + 1) (pgAt (l ++ [Sp.page b]))))] := by
 unfold rcAV; dsimp only
 refine agen_of_body (N := 163) Tryd.func26 rfl rfl (Nat.le_of_ble_eq_true rfl) fun C hV hN hM hO => ?_
 obtain ⟨_, _, w0, G0, σ0, _, own0⟩ := C; dsimp only at hV hN hM hO; subst hV; subst hN; subst hM
 refine awp_seq (awp_region rfl ?_)
 refine sR (opr_box (y := .agg _) (n := 3) rfl rfl rfl) rfl rfl rfl ?_
 refine awp_seq (awp_region rfl ?_)
 refine sP (opp_fieldP rfl rfl fld40_1 rfl) rfl rfl ?_
 refine sP (opp_loadP rfl rfl rfl rfl bi rfl ty38) rfl rfl ?_
 refine sR (opr_callO (rl := [(8, 16)]) (r1 := .ptr _ _ _) (H1 := [(16, some (.agg [.sl _ _ _ _, .int _ _, .int _ _]))]) (n1 := [16]) rfl rfl ent45 rfl (co45 b (by omega)) (AViews.refl _ rfl) rfl rfl rfl rfl) rfl rfl rfl ?_
 refine sP (opp_as (v := .ptr _ _ _) rfl rfl) rfl rfl ?_
 refine awp_seq (awp_region rfl ?_)
 refine sP (opp_fieldP rfl rfl fld40_0 rfl) rfl rfl ?_
 refine sP (opp_loadP rfl rfl rfl rfl bi rfl ty3) rfl rfl ?_
 refine awp_block (awp_seq (awp_region rfl ?_))
 refine sP (opp_cmp rfl rfl rfl rfl) rfl rfl ?_
 refine sP (opp_as (v := .bool _) rfl rfl) rfl rfl ?_
 refine awp_cond _ rfl (fun ht19 => ?_) (fun ht19 => ?_)
 ·(try simp only [cmpI, errD_nil, qa, qb, qc, qd] at ht19)
  exfalso; first | omega | (simp at ht19; done)
 ·(try simp only [cmpI, errD_nil, qa, qb, qc, qd] at ht19)
  refine awp_seq (awp_region rfl ?_)
  refine sP (opp_cmp rfl rfl rfl rfl) rfl rfl ?_
  refine sP (opp_as (v := .bool _) rfl rfl) rfl rfl ?_
  refine awp_cond _ rfl (fun ht37 => ?_) (fun ht37 => ?_)
  ·(try simp only [cmpI, errD_nil, qa, qb, qc, qd] at ht37)
   exfalso; first | omega | (simp at ht37; done)
  ·(try simp only [cmpI, errD_nil, qa, qb, qc, qd] at ht37)
   refine awp_seq (awp_region rfl ?_)
   refine sP (opp_cmp rfl rfl rfl rfl) rfl rfl ?_
   refine sP (opp_as (v := .bool _) rfl rfl) rfl rfl ?_
   refine awp_cond _ rfl (fun ht51 => ?_) (fun ht51 => ?_)
   ·(try simp only [cmpI, errD_nil, qa, qb, qc, qd] at ht51)
    exfalso; first | omega | (simp at ht51; done)
   ·(try simp only [cmpI, errD_nil, qa, qb, qc, qd] at ht51)
    refine awp_seq (awp_region rfl ?_)
    refine sP (opp_cmp rfl rfl rfl rfl) rfl rfl ?_
    refine sP (opp_as (v := .bool _) rfl rfl) rfl rfl ?_
    refine awp_cond _ rfl (fun ht59 => ?_) (fun ht59 => ?_)
    ·(try simp only [cmpI, errD_nil, qa, qb, qc, qd] at ht59)
     exfalso; first | omega | (simp at ht59; done)
    ·(try simp only [cmpI, errD_nil, qa, qb, qc, qd] at ht59)
     refine awp_seq (awp_region rfl ?_)
     refine sP (opp_cmp rfl rfl rfl rfl) rfl rfl ?_
     refine sP (opp_as (v := .bool _) rfl rfl) rfl rfl ?_
     refine awp_cond _ rfl (fun ht89 => ?_) (fun ht89 => ?_)
     ·(try simp only [cmpI, errD_nil, qa, qb, qc, qd] at ht89)
      exfalso; first | omega | (simp at ht89; done)
     ·(try simp only [cmpI, errD_nil, qa, qb, qc, qd] at ht89)
      refine awp_seq (awp_region rfl ?_)
      refine sP (opp_cmp rfl rfl rfl rfl) rfl rfl ?_
      refine sP (opp_as (v := .bool _) rfl rfl) rfl rfl ?_
      refine awp_cond _ rfl (fun ht113 => ?_) (fun ht113 => ?_)
      ·(try simp only [cmpI, errD_nil, qa, qb, qc, qd] at ht113)
       exfalso; first | omega | (simp at ht113; done)
      ·(try simp only [cmpI, errD_nil, qa, qb, qc, qd] at ht113)
       refine awp_seq (awp_region rfl ?_)
       refine sP (opp_cmp rfl rfl rfl rfl) rfl rfl ?_
       refine sP (opp_as (v := .bool _) rfl rfl) rfl rfl ?_
       refine awp_cond _ rfl (fun ht121 => ?_) (fun ht121 => ?_)
       ·(try simp only [cmpI, errD_nil, qa, qb, qc, qd] at ht121)
        exfalso; first | omega | (simp at ht121; done)
       ·(try simp only [cmpI, errD_nil, qa, qb, qc, qd] at ht121)
        refine awp_seq (awp_region rfl ?_)
        refine sP (opp_cmp rfl rfl rfl rfl) rfl rfl ?_
        refine sP (opp_as (v := .bool _) rfl rfl) rfl rfl ?_
        refine awp_cond _ rfl (fun ht139 => ?_) (fun ht139 => ?_)
        ·(try simp only [cmpI, errD_nil, qa, qb, qc, qd] at ht139)
         refine awp_seq (awp_region rfl ?_)
         refine sP (opp_fieldP rfl rfl fld40_1 rfl) rfl rfl ?_
         refine sP (opp_loadP rfl rfl rfl rfl bi rfl ty38) rfl rfl ?_
         refine sP (opp_indexSl rfl rfl rfl el38 (by omega) (by omega)) rfl rfl ?_
         refine sP (opp_loadF rfl rfl ty5) rfl rfl ?_
         refine sP (opp_cmp rfl rfl rfl rfl) rfl rfl ?_
         refine sP (opp_build rfl z80 bld80 rfl [.int .i64 0, .bool _, .arr 1 64 (fun _ => .int .u8 0)] rfl) rfl rfl ?_
         refine sR (opr_alloc (n := 13) rfl z80) rfl rfl rfl ?_
         refine sR0 (opr_store (v := .agg _) (trn := (.agg _)) rfl rfl rfl rfl bi rfl rfl rfl rfl fr2 ty80 (fun _ _ h => h)) rfl rfl rfl ?_
         refine awp_seq ?_
         refine awp_draw hmix rfl (by kernel_rfl) ?_
         refine dP (fun _ => false) (opp_fieldP rfl rfl fld80_2 rfl) rfl rfl ?_
         refine dP (fun n => !([] : List Nat).contains n) (opp_sliceArrP rfl rfl rfl rfl bi rfl (Nat.mul_one _) rfl rfl arr78 (by omega) (by omega) (by omega)) rfl rfl ?_
         refine dP (fun _ => false) (opp_fieldP rfl rfl fld40_1 rfl) rfl rfl ?_
         refine dP (fun n => Nat.beq n 3) (opp_loadP rfl rfl rfl rfl bi rfl ty38) rfl rfl ?_
         refine dP (fun _ => false) (opp_sliceSl rfl rfl rfl rfl el38 (by omega) (by omega) (by omega)) rfl rfl ?_
         refine dR (fun n => !([] : List Nat).contains n) (opr_copy (p := [2]) (trn := (.agg [_, _, .arr _ _ _])) rfl rfl rfl rfl bi (by first | rfl | (simp [offP]; done)) (by omega) .sl eb38 (fun _ _ h => h)) rfl rfl rfl ?_
         refine And.intro (by kernel_rfl) ?_
         refine awp_draw hmix rfl (by kernel_rfl) ?_
         refine dP (fun _ => false) (opp_mv (v := .ptr _ _ _) rfl rfl) rfl rfl ?_
         refine dP (fun _ => false) (opp_mv (v := .ptr _ _ _) rfl rfl) rfl rfl ?_
         refine dP (fun _ => false) (opp_nilCheckP rfl rfl) rfl rfl ?_
         refine dP (fun _ => false) (opp_fieldP rfl rfl fld33_9 rfl) rfl rfl ?_
         refine dP (fun n => Nat.beq n 1) (opp_loadP rfl rfl rfl rfl bi rfl ty31) rfl rfl ?_
         refine dP (fun n => Nat.beq n 13) (opp_loadP rfl rfl rfl rfl bi rfl ty80) rfl rfl ?_
         refine dR (fun _ => false) (opr_buildSlice (n := 159) (g := fun j => if j = 0 then .agg _ else .agg [.int .i64 0, .bool false, .arr 1 64 (fun _ => .int .u8 0)]) rfl eb31 z80 (by decide) rfl rfl) rfl rfl rfl ?_
         refine dR (fun n => !([] : List Nat).contains n) (opr_append (d := 160) rfl rfl rfl (by omega) (.osl0 rfl (by omega)) eb31 z80 (by omega) (by omega)) rfl rfl rfl ?_
         refine dP (fun _ => false) (opp_nilCheckP rfl rfl) rfl rfl ?_
         refine dP (fun _ => false) (opp_fieldP rfl rfl fld33_9 rfl) rfl rfl ?_
         refine dR0 (fun n => Nat.beq n 1) (opr_store (v := .osl _ _ _ _ _) (trn := (.agg [_, _, _, _, _, _, _, _, _, .osl _ _ _ _ _])) rfl rfl rfl rfl bi rfl rfl rfl rfl fr2 ty31 (fun _ _ h => h)) rfl rfl rfl ?_
         refine And.intro (by kernel_rfl) ?_
         repeat (first | refine athen_ret ?_ | refine ain_ret ?_)
         refine gpost_ret (gends (l := []) false .nil (fun h => by cases h) .nil rfl .refl rfl (And.intro (Exists.intro _ (Exists.intro _ (And.intro rfl (And.intro shut (And.intro (fun h => by cases h) (And.intro ?_ rfl)))))) (And.intro (Exists.intro _ (Exists.intro _ (And.intro rfl (And.intro shut (And.intro (fun h => by cases h) (And.intro ?_ rfl)))))) True.intro)))
         ·exact .refl
         ·exact .arr (fun j hj => by by_cases h : j < l.length; rw [if_pos h, pgAt, pgAt, snoc_lt _ _ _ _ h]; rw [if_neg h, if_pos (by omega), pgAt, snoc_eq _ _ _ _ (by omega)]; exact pg_eq b h0)
        ·(try simp only [cmpI, errD_nil, qa, qb, qc, qd] at ht139)
         exfalso; first | omega | (simp at ht139; done)
theorem cg26k (b : List UInt8) (h0 : b.length = 65) (v : Nat → Value) (f : Nat → AV) : AGen (V ea cds gl) 26 [.ptr 1 [] 0, rcAV ⟨9, false, b⟩] [(1, some (.agg [.val (v 0), .val (v 1), .val (v 2), .val (v 3), .val (v 4), .val (v 5), .val (v 6), .val (v 7), .val (v 8), .sl 66 true 0 f]))]
  (.tup []) [(1, some (.agg [.val (v 0), .val (v 1), .val (v 2), .val (v 3), .val (v 4), .val (v 5), .val (v 6), .val (v 7), .val (v 8), .osl 160 66 0 1 1])), (160, some (.arr 66 1 (pgAt [Sp.page b])))] := by
 unfold rcAV; dsimp only
 refine agen_of_body (N := 163) Tryd.func26 rfl rfl (Nat.le_of_ble_eq_true rfl) fun C hV hN hM hO => ?_
 obtain ⟨_, _, w0, G0, σ0, _, own0⟩ := C; dsimp only at hV hN hM hO; subst hV; subst hN; subst hM
 refine awp_seq (awp_region rfl ?_)
 refine sR (opr_box (y := .agg _) (n := 3) rfl rfl rfl) rfl rfl rfl ?_
 refine awp_seq (awp_region rfl ?_)
 refine sP (opp_fieldP rfl rfl fld40_1 rfl) rfl rfl ?_
 refine sP (opp_loadP rfl rfl rfl rfl bi rfl ty38) rfl rfl ?_
 refine sR (opr_callO (rl := [(8, 16)]) (r1 := .ptr _ _ _) (H1 := [(16, some (.agg [.sl _ _ _ _, .int _ _, .int _ _]))]) (n1 := [16]) rfl rfl ent45 rfl (co45 b (by omega)) (AViews.refl _ rfl) rfl rfl rfl rfl) rfl rfl rfl ?_
 refine sP (opp_as (v := .ptr _ _ _) rfl rfl) rfl rfl ?_
 refine awp_seq (awp_region rfl ?_)
 refine sP (opp_fieldP rfl rfl fld40_0 rfl) rfl rfl ?_
 refine sP (opp_loadP rfl rfl rfl rfl bi rfl ty3) rfl rfl ?_
 refine awp_block (awp_seq (awp_region rfl ?_))
 refine sP (opp_cmp rfl rfl rfl rfl) rfl rfl ?_
 refine sP (opp_as (v := .bool _) rfl rfl) rfl rfl ?_
 refine awp_cond _ rfl (fun ht19 => ?_) (fun ht19 => ?_)
 ·(try simp only [cmpI, errD_nil, qa, qb, qc, qd] at ht19)
  exfalso; first | omega | (simp at ht19; done)
 ·(try simp only [cmpI, errD_nil, qa, qb, qc, qd] at ht19)
  refine awp_seq (awp_region rfl ?_)
  refine sP (opp_cmp rfl rfl rfl rfl) rfl rfl ?_
  refine sP (opp_as (v := .bool _) rfl rfl) rfl rfl ?_
  refine awp_cond _ rfl (fun ht37 => ?_) (fun ht37 => ?_)
  ·(try simp only [cmpI, errD_nil, qa, qb, qc, qd] at ht37)
   exfalso; first | omega | (simp at ht37; done)
  ·(try simp only [cmpI, errD_nil, qa, qb, qc, qd] at ht37)
   refine awp_seq (awp_region rfl ?_)
   refine sP (opp_cmp rfl rfl rfl rfl) rfl rfl ?_
   refine sP (opp_as (v := .bool _) rfl rfl) rfl rfl ?_
   refine awp_cond _ rfl (fun ht51 => ?_) (fun ht51 => ?_)
   ·(try simp only [cmpI, errD_nil, qa, qb, qc, qd] at ht51)
    exfalso; first | omega | (simp at ht51; done)
   ·(try simp only [cmpI, errD_nil, qa, qb, qc, qd] at ht51)
    refine awp_seq (awp_region rfl ?_)
    refine sP (opp_cmp rfl rfl rfl rfl) rfl rfl ?_
    refine sP (opp_as (v := .bool _) rfl rfl) rfl rfl ?_
    refine awp_cond _ rfl (fun ht59 => ?_) (fun ht59 => ?_)
    ·(try simp only [cmpI, errD_nil, qa, qb, qc, qd] at ht59)
     exfalso; first | omega | (simp at ht59; done)
    ·(try simp only [cmpI, errD_nil, qa, qb, qc, qd] at ht59)
     refine awp_seq (awp_region rfl ?_)
     refine sP (opp_cmp rfl rfl rfl rfl) rfl rfl ?_
     refine sP (opp_as (v := .bool _) rfl rfl) rfl rfl ?_
     refine awp_cond _ rfl (fun ht89 => ?_) (fun ht89 => ?_)
     ·(try simp only [cmpI, errD_nil, qa, qb, qc, qd] at ht89)
      exfalso; first | omega | (simp at ht89; done)
     ·(try simp only [cmpI, errD_nil, qa, qb, qc, qd] at ht89)
      refine awp_seq (awp_region rfl ?_)
      refine sP (opp_cmp rfl rfl rfl rfl) rfl rfl ?_
      refine sP (opp_as (v := .bool _) rfl rfl) rfl rfl ?_
      refine awp_cond _ rfl (fun ht113 => ?_) (fun ht113 => ?_)
      ·(try simp only [cmpI, errD_nil, qa, qb, qc, qd] at ht113)
       exfalso; first | omega | (simp at ht113; done)
      ·(try simp only [cmpI, errD_nil, qa, qb, qc, qd] at ht113)
       refine awp_seq (awp_region rfl ?_)
       refine sP (opp_cmp rfl rfl rfl rfl) rfl rfl ?_
       refine sP (opp_as (v := .bool _) rfl rfl) rfl rfl ?_
       refine awp_cond _ rfl (fun ht121 => ?_) (fun ht121 => ?_)
       ·(try simp only [cmpI, errD_nil, qa, qb, qc, qd] at ht121)
        exfalso; first | omega | (simp at ht121; done)
       ·(try simp only [cmpI, errD_nil, qa, qb, qc, qd] at ht121)
        refine awp_seq (awp_region rfl ?_)
        refine sP (opp_cmp rfl rfl rfl rfl) rfl rfl ?_
        refine sP (opp_as (v := .bool _) rfl rfl) rfl rfl ?_
        refine awp_cond _ rfl (fun ht139 => ?_) (fun ht139 => ?_)
        ·(try simp only [cmpI, errD_nil, qa, qb, qc, qd] at ht139)
         refine awp_seq (awp_region rfl ?_)
         refine sP (opp_fieldP rfl rfl fld40_1 rfl) rfl rfl ?_
         refine sP (opp_loadP rfl rfl rfl rfl bi rfl ty38) rfl rfl ?_
         refine sP (opp_indexSl rfl rfl rfl el38 (by omega) (by omega)) rfl rfl ?_
         refine sP (opp_loadF rfl rfl ty5) rfl rfl ?_
         refine sP (opp_cmp rfl rfl rfl rfl) rfl rfl ?_
         refine sP (opp_build rfl z80 bld80 rfl [.int .i64 0, .bool _, .arr 1 64 (fun _ => .int .u8 0)] rfl) rfl rfl ?_
         refine sR (opr_alloc (n := 13) rfl z80) rfl rfl rfl ?_
         refine sR0 (opr_store (v := .agg _) (trn := (.agg _)) rfl rfl rfl rfl bi rfl rfl rfl rfl fr2 ty80 (fun _ _ h => h)) rfl rfl rfl ?_
         refine awp_seq ?_
         refine awp_draw hmix rfl (by kernel_rfl) ?_
         refine dP (fun _ => false) (opp_fieldP rfl rfl fld80_2 rfl) rfl rfl ?_
         refine dP (fun n => !([] : List Nat).contains n) (opp_sliceArrP rfl rfl rfl rfl bi rfl (Nat.mul_one _) rfl rfl arr78 (by omega) (by omega) (by omega)) rfl rfl ?_
         refine dP (fun _ => false) (opp_fieldP rfl rfl fld40_1 rfl) rfl rfl ?_
         refine dP (fun n => Nat.beq n 3) (opp_loadP rfl rfl rfl rfl bi rfl ty38) rfl rfl ?_
         refine dP (fun _ => false) (opp_sliceSl rfl rfl rfl rfl el38 (by omega) (by omega) (by omega)) rfl rfl ?_
         refine dR (fun n => !([] : List Nat).contains n) (opr_copy (p := [2]) (trn := (.agg [_, _, .arr _ _ _])) rfl rfl rfl rfl bi (by first | rfl | (simp [offP]; done)) (by omega) .sl eb38 (fun _ _ h => h)) rfl rfl rfl ?_
         refine And.intro (by kernel_rfl) ?_
         refine awp_draw hmix rfl (by kernel_rfl) ?_
         refine dP (fun _ => false) (opp_mv (v := .ptr _ _ _) rfl rfl) rfl rfl ?_
         refine dP (fun _ => false) (opp_mv (v := .ptr _ _ _) rfl rfl) rfl rfl ?_
         refine dP (fun _ => false) (opp_nilCheckP rfl rfl) rfl rfl ?_
         refine dP (fun _ => false) (opp_fieldP rfl rfl fld33_9 rfl) rfl rfl ?_
         refine dP (fun n => Nat.beq n 1) (opp_loadP rfl rfl rfl rfl bi rfl ty31) rfl rfl ?_
         refine dP (fun n => Nat.beq n 13) (opp_loadP rfl rfl rfl rfl bi rfl ty80) rfl rfl ?_
         refine dR (fun _ => false) (opr_buildSlice (n := 159) (g := fun j => if j = 0 then .agg _ else .agg [.int .i64 0, .bool false, .arr 1 64 (fun _ => .int .u8 0)]) rfl eb31 z80 (by decide) rfl rfl) rfl rfl rfl ?_
         refine dR (fun n => !([] : List Nat).contains n) (opr_appendNil (d := 160) rfl rfl (.osl0 rfl (by omega)) eb31 z80 (by omega) (by omega) (by omega)) rfl rfl rfl ?_
         refine dP (fun _ => false) (opp_nilCheckP rfl rfl) rfl rfl ?_
         refine dP (fun _ => false) (opp_fieldP rfl rfl fld33_9 rfl) rfl rfl ?_
         refine dR0 (fun n => Nat.beq n 1) (opr_store (v := .osl _ _ _ _ _) (trn := (.agg [_, _, _, _, _, _, _, _, _, .osl _ _ _ _ _])) rfl rfl rfl rfl bi rfl rfl rfl rfl fr2 ty31 (fun _ _ h => h)) rfl rfl rfl ?_
         refine And.intro (by kernel_rfl) ?_
         repeat (first | refine athen_ret ?_ | refine ain_ret ?_)
         refine gpost_ret (gends (l := []) true .nil (fun h => by cases h) .nil rfl .refl rfl (And.intro (Exists.intro _ (Exists.intro _ (And.intro rfl (And.intro shut (And.intro (fun h => by cases h) (And.intro ?_ rfl)))))) (And.intro (Exists.intro _ (Exists.intro _ (And.intro rfl (And.intro shut (And.intro (fun h => by cases h) (And.intro ?_ rfl)))))) True.intro)))
         ·exact .refl
         ·exact .arr (fun j hj => by rw [if_pos (by omega), show j = 0 by omega]; exact pg_eq b h0)
        ·(try simp only [cmpI, errD_nil, qa, qb, qc, qd] at ht139)
         exfalso; first | omega | (simp at ht139; done)
theorem cg26l (t : Int) (b : List UInt8) (h0 : b.length ≤ 4294967296) (h1 : t ≠ 1) (h3 : t ≠ 3) (h4 : t ≠ 4) (h5 : t ≠ 5) (h6 : t ≠ 6) (h7 : t ≠ 7) (h8 : t ≠ 8) (h9 : t ≠ 9) (v : Nat → Value) : AGen (V ea cds gl) 26 [.ptr 1 [] 0, rcAV ⟨t, false, b⟩] [(1, some (.agg [.val (v 0), .val (v 1), .val (v 2), .val (v 3), .val (v 4), .val (v 5), .val (v 6), .val (v 7), .val (v 8), .val (v 9)]))]
  (.tup []) [(1, some (.agg [.val (v 0), .val (v 1), .val (v 2), .val (v 3), .val (v 4), .val (v 5), .val (v 6), .val (v 7), .val (v 8), .val (v 9)]))] := by
 unfold rcAV; dsimp only
 refine agen_of_body (N := 163) Tryd.func26 rfl rfl (Nat.le_of_ble_eq_true rfl) fun C hV hN hM hO => ?_
 obtain ⟨_, _, w0, G0, σ0, _, own0⟩ := C; dsimp only at hV hN hM hO; subst hV; subst hN; subst hM
 refine awp_seq (awp_region rfl ?_)
 refine sR (opr_box (y := .agg _) (n := 3) rfl rfl rfl) rfl rfl rfl ?_
 refine awp_seq (awp_region rfl ?_)
 refine sP (opp_fieldP rfl rfl fld40_1 rfl) rfl rfl ?_
 refine sP (opp_loadP rfl rfl rfl rfl bi rfl ty38) rfl rfl ?_
 refine sR (opr_callO (rl := [(8, 16)]) (r1 := .ptr _ _ _) (H1 := [(16, some (.agg [.sl _ _ _ _, .int _ _, .int _ _]))]) (n1 := [16]) rfl rfl ent45 rfl (co45 b (by omega)) (AViews.refl _ rfl) rfl rfl rfl rfl) rfl rfl rfl ?_
 refine sP (opp_as (v := .ptr _ _ _) rfl rfl) rfl rfl ?_
 refine awp_seq (awp_region rfl ?_)
 refine sP (opp_fieldP rfl rfl fld40_0 rfl) rfl rfl ?_
 refine sP (opp_loadP rfl rfl rfl rfl bi rfl ty3) rfl rfl ?_
 refine awp_block (awp_seq (awp_region rfl ?_))
 refine sP (opp_cmp rfl rfl rfl rfl) rfl rfl ?_
 refine sP (opp_as (v := .bool _) rfl rfl) rfl rfl ?_
 refine awp_cond _ rfl (fun ht19 => ?_) (fun ht19 => ?_)
 ·(try simp only [cmpI, errD_nil, qa, qb, qc, qd] at ht19)
  exfalso; omega
 ·(try simp only [cmpI, errD_nil, qa, qb, qc, qd] at ht19)
  refine awp_seq (awp_region rfl ?_)
  refine sP (opp_cmp rfl rfl rfl rfl) rfl rfl ?_
  refine sP (opp_as (v := .bool _) rfl rfl) rfl rfl ?_
  refine awp_cond _ rfl (fun ht37 => ?_) (fun ht37 => ?_)
  ·(try simp only [cmpI, errD_nil, qa, qb, qc, qd] at ht37)
   exfalso; omega
  ·(try simp only [cmpI, errD_nil, qa, qb, qc, qd] at ht37)
   refine awp_seq (awp_region rfl ?_)
   refine sP (opp_cmp rfl rfl rfl rfl) rfl rfl ?_
   refine sP (opp_as (v := .bool _) rfl rfl) rfl rfl ?_
   refine awp_cond _ rfl (fun ht51 => ?_) (fun ht51 => ?_)
   ·(try simp only [cmpI, errD_nil, qa, qb, qc, qd] at ht51)
    exfalso; omega
   ·(try simp only [cmpI, errD_nil, qa, qb, qc, qd] at ht51)
    refine awp_seq (awp_region rfl ?_)
    refine sP (opp_cmp rfl rfl rfl rfl) rfl rfl ?_
    refine sP (opp_as (v := .bool _) rfl rfl) rfl rfl ?_
    refine awp_cond _ rfl (fun ht59 => ?_) (fun ht59 => ?_)
    ·(try simp only [cmpI, errD_nil, qa, qb, qc, qd] at ht59)
     exfalso; omega
    ·(try simp only [cmpI, errD_nil, qa, qb, qc, qd] at ht59)
     refine awp_seq (awp_region rfl ?_)
     refine sP (opp_cmp rfl rfl rfl rfl) rfl rfl ?_
     refine sP (opp_as (v := .bool _) rfl rfl) rfl rfl ?_
     refine awp_cond _ rfl (fun ht89 => ?_) (fun ht89 => ?_)
     ·(try simp only [cmpI, errD_nil, qa, qb, qc, qd] at ht89)
      exfalso; omega
     ·(try simp only [cmpI, errD_nil, qa, qb, qc, qd] at ht89)
      refine awp_seq (awp_region rfl ?_)
      refine sP (opp_cmp rfl rfl rfl rfl) rfl rfl ?_
      refine sP (opp_as (v := .bool _) rfl rfl) rfl rfl ?_
      refine awp_cond _ rfl (fun ht113 => ?_) (fun ht113 => ?_)
      ·(try simp only [cmpI, errD_nil, qa, qb, qc, qd] at ht113)
       exfalso; omega
      ·(try simp only [cmpI, errD_nil, qa, qb, qc, qd] at ht113)
       refine awp_seq (awp_region rfl ?_)
       refine sP (opp_cmp rfl rfl rfl rfl) rfl rfl ?_
       refine sP (opp_as (v := .bool _) rfl rfl) rfl rfl ?_
       refine awp_cond _ rfl (fun ht121 => ?_) (fun ht121 => ?_)
       ·(try simp only [cmpI, errD_nil, qa, qb, qc, qd] at ht121)
        exfalso; omega
       ·(try simp only [cmpI, errD_nil, qa, qb, qc, qd] at ht121)
        refine awp_seq (awp_region rfl ?_)
        refine sP (opp_cmp rfl rfl rfl rfl) rfl rfl ?_
        refine sP (opp_as (v := .bool _) rfl rfl) rfl rfl ?_
        refine awp_cond _ rfl (fun ht139 => ?_) (fun ht139 => ?_)
        ·(try simp only [cmpI, errD_nil, qa, qb, qc, qd] at ht139)
         exfalso; omega
        ·(try simp only [cmpI, errD_nil, qa, qb, qc, qd] at ht139)
         refine awp_skip ?_
         repeat (first | refine athen_ret ?_ | refine ain_ret ?_)
         refine gpost_ret (gends (l := []) true .nil (fun h => by cases h) .nil rfl .refl rfl (And.intro (Exists.intro _ (Exists.intro _ (And.intro rfl (And.intro shut (And.intro (fun h => by cases h) (And.intro ?_ rfl)))))) True.intro))
         ·exact .refl
end
end Go.Proofs.YtpmgdmbcdohgcaaDoor
/- Layer 16: the state that records say (walks over this dump). -/
namespace Go.Proofs.YtpmgdmbcdohgcaaDoor
attribute [local irreducible] Tryd.prog
open Go.Fy
set_option linter.unusedSimpArgs false
set_option linter.unusedVariables false
def rc0 : Rc := ⟨0, true, []⟩
theorem drop_rc (l : List Rc) (i : Nat) (h : i < l.length) : l.drop i = l.getD i rc0 :: l.drop (i + 1) := by
  rw [List.drop_eq_getElem_cons h, List.getD_eq_getElem?_getD, List.getElem?_eq_getElem h]; rfl
theorem rc_mem (l : List Rc) (i : Nat) (h : i < l.length) : l.getD i rc0 ∈ l := by
  rw [List.getD_eq_getElem?_getD, List.getElem?_eq_getElem h]; exact List.getElem_mem _
theorem wrong_all : ∀ (l : List Rc) (k : Nat), (Sp.wrong l k).code = 0 → ∀ r ∈ l, Sp.long r = true ∧ Sp.flags r = true
  | [], _, _, r, hr => by simp at hr
  | x :: l, k, h, r, hr => by
    unfold Sp.wrong at h
    by_cases h1 : Sp.long x = false
    · rw [if_pos h1] at h; simp [Sp.ea] at h
    · rw [if_neg h1] at h
      by_cases h2 : Sp.flags x = false
      · rw [if_pos h2] at h; simp [Sp.ea] at h
      · rw [if_neg h2] at h
        rcases List.mem_cons.1 hr with e | e
        · subst e; exact ⟨by simpa using h1, by simpa using h2⟩
        · exact wrong_all l (k + 1) h r e
theorem fold_rc (l : List Rc) (i : Nat) (h : i < l.length) : (l.take (i + 1)).foldl Sp.putR sta0 = Sp.putR ((l.take i).foldl Sp.putR sta0) (l.getD i rc0) := by
  have e : l.take (i + 1) = l.take i ++ [l.getD i rc0] := by
    rw [List.take_add_one, List.getElem?_eq_getElem h, List.getD_eq_getElem?_getD, List.getElem?_eq_getElem h]; rfl
  rw [e, List.foldl_append]; rfl
theorem put_cases (t : Int) (x y z : Bool) : t = 1 ∨ (t = 3 ∧ x = false) ∨ (t = 3 ∧ x = true) ∨ t = 4 ∨ t = 7 ∨ t = 5 ∨ t = 6 ∨ (t = 8 ∧ y = false) ∨ (t = 8 ∧ y = true) ∨ (t = 9 ∧ z = false) ∨ (t = 9 ∧ z = true) ∨
    (t ≠ 1 ∧ t ≠ 3 ∧ t ≠ 4 ∧ t ≠ 5 ∧ t ≠ 6 ∧ t ≠ 7 ∧ t ≠ 8 ∧ t ≠ 9) := by
  by_cases h : t = 1 ∨ t = 3 ∨ t = 4 ∨ t = 5 ∨ t = 6 ∨ t = 7 ∨ t = 8 ∨ t = 9
  · cases x <;> cases y <;> cases z <;> simp <;> omega
  · have : t ≠ 1 ∧ t ≠ 3 ∧ t ≠ 4 ∧ t ≠ 5 ∧ t ≠ 6 ∧ t ≠ 7 ∧ t ≠ 8 ∧ t ≠ 9 := by omega
    exact .inr (.inr (.inr (.inr (.inr (.inr (.inr (.inr (.inr (.inr (.inr this))))))))))
theorem wkrow {e : Bool} {z n : Nat} {f : Nat → AV} (h : e = true ↔ n = 0) : Wk (bif e then .sl z true 0 (fun _ => .top) else .sl z false n f) (rowV z n f) := by
  cases e with
  | true => have h0 := h.1 rfl; subst h0; exact .sl0
  | false => rw [rowV, show decide (n = 0) = false by rw [decide_eq_false_iff_not]; intro h0; simpa using h.2 h0]; exact .refl
theorem long_9 {b : List UInt8} {n : Bool} (h : Sp.long ⟨9, n, b⟩ = true) : b.length = 65 := by simpa [Sp.long] using h
theorem long_3 {b : List UInt8} {n : Bool} (h : Sp.long ⟨3, n, b⟩ = true) : b.length = 68 := by simpa [Sp.long] using h
theorem long_1 {b : List UInt8} {n : Bool} (h : Sp.long ⟨1, n, b⟩ = true) : b.length = 8 := by simpa [Sp.long] using h
theorem long_5 {b : List UInt8} {n : Bool} (h : Sp.long ⟨5, n, b⟩ = true) : b.length % 5 = 0 := by simpa [Sp.long] using h
theorem long_t9 {r : Rc} (ht : r.tag = 9) (h : Sp.long r = true) : r.body.length = 65 := by obtain ⟨t, n, b⟩ := r; dsimp only at ht; subst ht; exact long_9 h
theorem putR_1 (S : Sta) (n : Bool) (b : List UInt8) : Sp.putR S ⟨1, n, b⟩ = { S with frame := Sp.fld b 0 4, epoch := Sp.fld b 4 4 } := by simp [Sp.putR]
theorem putR_3 (S : Sta) (n : Bool) (b : List UInt8) : Sp.putR S ⟨3, n, b⟩ = { S with procs := S.procs ++ [Sp.proc b] } := by simp [Sp.putR]
theorem putR_4 (S : Sta) (n : Bool) (b : List UInt8) : Sp.putR S ⟨4, n, b⟩ = { S with ready := Sp.nums b } := by simp [Sp.putR]
theorem putR_5 (S : Sta) (n : Bool) (b : List UInt8) : Sp.putR S ⟨5, n, b⟩ = { S with timers := Sp.timersOf b } := by simp [Sp.putR]
theorem putR_6 (S : Sta) (n : Bool) (b : List UInt8) : Sp.putR S ⟨6, n, b⟩ = { S with up := ups b } := by simp [Sp.putR, ups]
theorem putR_7 (S : Sta) (n : Bool) (b : List UInt8) : Sp.putR S ⟨7, n, b⟩ = { S with sems := Sp.nums b } := by simp [Sp.putR]
theorem putR_8 (S : Sta) (n : Bool) (b : List UInt8) : Sp.putR S ⟨8, n, b⟩ = { S with ports := S.ports ++ [(Sp.portQ b).1] } := by simp [Sp.putR]
theorem putR_9 (S : Sta) (n : Bool) (b : List UInt8) : Sp.putR S ⟨9, n, b⟩ = { S with pages := S.pages ++ [Sp.page b] } := by simp [Sp.putR]
theorem putR_0 (S : Sta) (t : Int) (n : Bool) (b : List UInt8) (h : t ≠ 1 ∧ t ≠ 3 ∧ t ≠ 4 ∧ t ≠ 5 ∧ t ≠ 6 ∧ t ≠ 7 ∧ t ≠ 8 ∧ t ≠ 9) : Sp.putR S ⟨t, n, b⟩ = S := by simp [Sp.putR, h]
theorem wrong_cons (r : Rc) (l : List Rc) (i : Nat) : Sp.wrong (r :: l) i = if Sp.long r = false then Sp.ea 5 i else if Sp.flags r = false then Sp.ea 4 i else Sp.wrong l (i + 1) := rfl
theorem snoc_len {α : Type} (l : List α) (x : α) : (l ++ [x]).length = l.length + 1 := by simp
/-- What holds of a state that is filled. -/
structure StaOK (e3 e8 e9 : Bool) (i : Nat) (S : Sta) : Prop where
  p : e3 = true ↔ S.procs.length = 0
  q : e8 = true ↔ S.ports.length = 0
  g : e9 = true ↔ S.pages.length = 0
  pl : S.procs.length ≤ i
  ql : S.ports.length ≤ i
  gl : S.pages.length ≤ i
theorem StaOK.up {a b c : Bool} {i : Nat} {S S' : Sta} (h : StaOK a b c i S) (h1 : S'.procs.length = S.procs.length) (h2 : S'.ports.length = S.ports.length) (h3 : S'.pages.length = S.pages.length) : StaOK a b c (i + 1) S' :=
  ⟨by rw [h1]; exact h.p, by rw [h2]; exact h.q, by rw [h3]; exact h.g, by have := h.pl; omega, by have := h.ql; omega, by have := h.gl; omega⟩
theorem StaOK.addP {a b c : Bool} {i : Nat} {S : Sta} (h : StaOK a b c i S) (x : Pr) : StaOK false b c (i + 1) { S with procs := S.procs ++ [x] } :=
  ⟨by simp, h.q, h.g, by have := h.pl; simp; omega, by have := h.ql; show S.ports.length ≤ _; omega, by have := h.gl; show S.pages.length ≤ _; omega⟩
theorem StaOK.addQ {a b c : Bool} {i : Nat} {S : Sta} (h : StaOK a b c i S) (x : Pt) : StaOK a false c (i + 1) { S with ports := S.ports ++ [x] } :=
  ⟨h.p, by simp, h.g, by have := h.pl; show S.procs.length ≤ _; omega, by have := h.ql; simp; omega, by have := h.gl; show S.pages.length ≤ _; omega⟩
theorem StaOK.addG {a b c : Bool} {i : Nat} {S : Sta} (h : StaOK a b c i S) (x : Pg) : StaOK a b false (i + 1) { S with pages := S.pages ++ [x] } :=
  ⟨h.p, h.q, by simp, by have := h.pl; show S.procs.length ≤ _; omega, by have := h.ql; show S.ports.length ≤ _; omega, by have := h.gl; simp; omega⟩
def staB (e3 e8 e9 : Bool) (S : Sta) : AV := .agg [.int .i64 0, .int .i64 (S.frame : Int), .int .i64 (S.epoch : Int), rowA e3 1003 21 S.procs.length, rowV 1 S.ready.length (natAt S.ready), rowV 2 S.timers.length (tmAt S.timers),
  rowV 1 S.up.length (boolAt S.up), rowV 1 S.sems.length (natAt S.sems), rowA e8 1008 2 S.ports.length, rowA e9 1009 66 S.pages.length]
section
variable {ea : Nat → Addr} {cds : List Nat} {gl : Nat → Option AV}
set_option maxRecDepth 100000 in
set_option maxHeartbeats 4000000 in
theorem c8 (l : List Rc) (nn : Bool) (hn : ∀ r ∈ l, r.nn = false) (hb : ∀ r ∈ l, r.body.length ≤ 4294967296) (hl : l.length ≤ 4294967296) (hG2 : gl 2 = some (.err (.code 1))) (hG3 : gl 3 = some (.err (.code 2)))
  (hG1 : gl 1 = some (.err (.code 4))) (hG0 : gl 0 = some (.err (.code 5))) : APure (V ea cds gl) 8 [.sl 2 nn l.length (rcAt l)] false (.tup [staAV (Sp.fill l).1, .err (Sp.fill l).2.d]) := by
 refine acalls_of_body (N := 41) Tryd.func8 rfl rfl (Nat.le_of_ble_eq_true rfl) fun C hV hN hM hO => ?_
 obtain ⟨_, _, w0, G0, σ0, _, own0⟩ := C; dsimp only at hV hN hM hO; subst hV; subst hN; subst hM
 refine awp_seq (awp_region rfl ?_)
 refine sR (opr_alloc (n := 2) rfl z33) rfl rfl rfl ?_
 refine sP (opp_as (v := .err _) rfl rfl) rfl rfl ?_
 refine awp_seq (awp_seq (awp_region rfl ?_))
 first
  | refine sP (opp_mv (v := .sl _ _ _ _) rfl rfl) rfl rfl ?_
  | refine sP (opp_mv (v := .osl _ _ _ _ _) rfl rfl) rfl rfl ?_
 first
  | refine sP (opp_lenSl rfl rfl un24) rfl rfl ?_
  | refine sP (opp_lenOsl rfl rfl un24) rfl rfl ?_
 refine sP (opp_mv (v := .int _ _) rfl rfl) rfl rfl ?_
 refine awp_block ?_
 refine awp_loopK (ι := Nat) (fun i => i ≤ l.length ∧ Sp.wrong (l.drop i) i = Sp.wrong l 0) (fun i => [(3, .top), (4, .top), (5, .top), (11, .int .i64 (i : Int)), (12, .top), (13, .top), (14, .top), (15, .top), (16, .top), (17, .top), (18, .top), (19, .top), (20, .top), (21, .top), (22, .top), (23, .top), (24, .top), (25, .top), (26, .top), (27, .top), (28, .top), (29, .top), (30, .top)]) (fun i => []) [] (fun i => l.length - i) (0) (⟨Nat.zero_le _, rfl⟩) (by
  refine imp_over [] rfl rfl (by kernel_rfl) ?_ ?_
  ·iterate 23 refine And.intro wkv ?_
   exact True.intro
  ·exact True.intro
  ) ?_
 intro i hi1
 refine awp_seq (awp_region rfl ?_)
 refine sP (opp_cmp rfl rfl rfl rfl) rfl rfl ?_
 refine awp_seq ?_
 refine awp_cond _ rfl (fun ht12 => ?_) (fun ht12 => ?_)
 ·(try simp only [cmpI, errD_nil, qa, qb, qc, qd] at ht12)
  refine awp_skip (awp_seq (awp_block (awp_seq ?_)))
  have hlt : i < l.length := by omega
  have hrm := rc_mem l i hlt
  have hrn := hn _ hrm
  have hrb := hb _ hrm
  have hw := hi1.2
  rw [drop_rc l i hlt, wrong_cons] at hw
  refine awp_region rfl ?_
  refine sP (opp_mv (v := .int _ _) rfl rfl) rfl rfl ?_
  first
   | refine sP (opp_indexSl rfl rfl rfl el24 (by omega) (by omega)) rfl rfl ?_
   | refine sP (opp_indexOsl0 rfl rfl rfl el24 (by omega) (by omega)) rfl rfl ?_
   | refine sP (opp_indexOsl rfl rfl rfl el24 (by omega) (by omega)) rfl rfl ?_
  first
   | refine sP (opp_loadP rfl rfl rfl rfl bi rfl ty40) rfl rfl ?_
   | refine sP (opp_loadF rfl rfl ty40) rfl rfl ?_
  refine sR (opr_alloc (n := 5) rfl z40) rfl rfl rfl ?_
  refine sP (opp_as (v := .int _ _) rfl rfl) rfl rfl ?_
  refine sR0 (opr_store (v := .agg _) (trn := (.agg _)) rfl rfl rfl rfl bi rfl rfl rfl rfl fr2 ty40 (fun _ _ h => h)) rfl rfl rfl ?_
  refine awp_seq (awp_seq (awp_region rfl ?_))
  first
   | refine sP (opp_loadP rfl rfl rfl rfl bi rfl ty40) rfl rfl ?_
   | refine sP (opp_loadF rfl rfl ty40) rfl rfl ?_
  refine sR (opr_call rfl rfl ent23 rfl (c23 (l.getD (Int.toNat (i : Int)) rc0) hrn (by show (l.getD i rc0).body.length ≤ _; omega) hG2 hG3) (AViews.refl _ rfl)) rfl rfl rfl ?_ -- d=17 t=4 a=16
  refine sP (opp_not rfl rfl) rfl rfl ?_
  refine awp_cond _ rfl (fun ht18 => ?_) (fun ht18 => ?_)
  ·(try simp only [cmpI, errD_nil, qa, qb, qc, qd] at ht18)
   refine awp_seq (awp_region rfl ?_)
   refine sP (opp_build rfl z33 bld33 rfl [.int .i64 0, .int .i64 0, .int .i64 0, .sl 21 true 0 (fun _ => .top), .sl 1 true 0 (fun _ => .top), .sl 2 true 0 (fun _ => .top), .sl 1 true 0 (fun _ => .top), .sl 1 true 0 (fun _ => .top), .sl 2 true 0 (fun _ => .top), .sl 66 true 0 (fun _ => .top)] rfl) rfl rfl ?_
   refine sP (opp_mv (v := .int _ _) rfl rfl) rfl rfl ?_
   refine sP (opp_loadF rfl (ev_glob hG0) ty35) rfl rfl ?_
   refine sR (opr_call rfl rfl ent24 rfl (c24 _ _) (AViews.refl _ rfl)) rfl rfl rfl ?_ -- d=22 t=35 a=20,21
   refine sR0 (opr_store (v := .agg _) (trn := (.agg _)) rfl rfl rfl rfl bi rfl rfl rfl rfl fr2 ty33 (fun _ _ h => h)) rfl rfl rfl ?_
   refine sP (opp_as (v := .err _) rfl rfl) rfl rfl ?_
   refine awp_ret ?_
   repeat (first | refine athen_ret ?_ | refine ain_ret ?_)
   first
    | refine apost_ret (aend (l := [.agg _, .err _]) (.cell rfl rfl rfl (by exact True.intro) rfl ty33 (.tmp .nil)) (fun h => by cases h) (.cons (.noN rfl rfl) (.cons (.noN rfl rfl) .nil)) ⟨Wk.v ?_, rfl, rfl⟩)
    | refine apost_ret (aends (l := [.agg _, .err _]) (.cell rfl rfl rfl (by exact True.intro) rfl ty33 (.tmp .nil)) (fun h => by cases h) (.cons shut (fun h => by cases h) (.cons shut (fun h => by cases h) .nil)) rfl ⟨Wk.v ?_, rfl, rfl⟩)
   rw [if_pos (show Sp.long (l.getD i rc0) = false from ht18)] at hw
   rw [show Sp.fill l = (sta0, Sp.ea 5 i) from by unfold Sp.fill; rw [← hw]; rfl]
   exact .tup (.cons (.agg (.cons .refl (.cons .refl (.cons .refl (.cons .sl0 (.cons .sl0 (.cons .sl0 (.cons .sl0 (.cons .sl0 (.cons .sl0 (.cons .sl0 .nil))))))))))) (.cons .refl .nil))
  ·(try simp only [cmpI, errD_nil, qa, qb, qc, qd] at ht18)
   refine awp_skip (awp_seq (awp_region rfl ?_))
   first
    | refine sP (opp_loadP rfl rfl rfl rfl bi rfl ty40) rfl rfl ?_
    | refine sP (opp_loadF rfl rfl ty40) rfl rfl ?_
   refine sR (opr_call rfl rfl ent25 rfl (c25 (l.getD (Int.toNat (i : Int)) rc0) (by show (l.getD i rc0).body.length ≤ _; omega) (fun h9 => by have := long_t9 h9 ht18; omega)) (AViews.refl _ rfl)) rfl rfl rfl ?_ -- d=24 t=4 a=23
   refine sP (opp_not rfl rfl) rfl rfl ?_
   refine awp_cond _ rfl (fun ht25 => ?_) (fun ht25 => ?_)
   ·(try simp only [cmpI, errD_nil, qa, qb, qc, qd] at ht25)
    refine awp_seq (awp_region rfl ?_)
    refine sP (opp_build rfl z33 bld33 rfl [.int .i64 0, .int .i64 0, .int .i64 0, .sl 21 true 0 (fun _ => .top), .sl 1 true 0 (fun _ => .top), .sl 2 true 0 (fun _ => .top), .sl 1 true 0 (fun _ => .top), .sl 1 true 0 (fun _ => .top), .sl 2 true 0 (fun _ => .top), .sl 66 true 0 (fun _ => .top)] rfl) rfl rfl ?_
    refine sP (opp_mv (v := .int _ _) rfl rfl) rfl rfl ?_
    refine sP (opp_loadF rfl (ev_glob hG1) ty35) rfl rfl ?_
    refine sR (opr_call rfl rfl ent24 rfl (c24 _ _) (AViews.refl _ rfl)) rfl rfl rfl ?_ -- d=29 t=35 a=27,28
    refine sR0 (opr_store (v := .agg _) (trn := (.agg _)) rfl rfl rfl rfl bi rfl rfl rfl rfl fr2 ty33 (fun _ _ h => h)) rfl rfl rfl ?_
    refine sP (opp_as (v := .err _) rfl rfl) rfl rfl ?_
    refine awp_ret ?_
    repeat (first | refine athen_ret ?_ | refine ain_ret ?_)
    first
     | refine apost_ret (aend (l := [.agg _, .err _]) (.cell rfl rfl rfl (by exact True.intro) rfl ty33 (.tmp .nil)) (fun h => by cases h) (.cons (.noN rfl rfl) (.cons (.noN rfl rfl) .nil)) ⟨Wk.v ?_, rfl, rfl⟩)
     | refine apost_ret (aends (l := [.agg _, .err _]) (.cell rfl rfl rfl (by exact True.intro) rfl ty33 (.tmp .nil)) (fun h => by cases h) (.cons shut (fun h => by cases h) (.cons shut (fun h => by cases h) .nil)) rfl ⟨Wk.v ?_, rfl, rfl⟩)
    rw [if_neg (by rw [show Sp.long (l.getD i rc0) = true from ht18]; simp), if_pos (show Sp.flags (l.getD i rc0) = false from ht25)] at hw
    rw [show Sp.fill l = (sta0, Sp.ea 4 i) from by unfold Sp.fill; rw [← hw]; rfl]
    exact .tup (.cons (.agg (.cons .refl (.cons .refl (.cons .refl (.cons .sl0 (.cons .sl0 (.cons .sl0 (.cons .sl0 (.cons .sl0 (.cons .sl0 (.cons .sl0 .nil))))))))))) (.cons .refl .nil))
   ·(try simp only [cmpI, errD_nil, qa, qb, qc, qd] at ht25)
    refine awp_skip (awp_region rfl ?_)
    first
     | refine sP (opp_arith rfl rfl rfl (.inl ⟨rfl, w64 (by omega)⟩)) rfl rfl ?_
     | refine sP (opp_arith rfl rfl rfl (.inl ⟨rfl, rfl⟩)) rfl rfl ?_
    refine sP (opp_mv (v := .int _ _) rfl rfl) rfl rfl ?_
    rw [if_neg (by rw [show Sp.long (l.getD i rc0) = true from ht18]; simp), if_neg (by rw [show Sp.flags (l.getD i rc0) = true from ht25]; simp)] at hw
    refine Exists.intro (i + 1) (And.intro (And.intro (And.intro (by show i + 1 ≤ _; omega) hw) (by first | omega | (dsimp only; omega))) (by
     refine imp_over [] rfl rfl (by kernel_rfl) ?_ ?_
     ·iterate 23 refine And.intro wkv ?_
      exact True.intro
     ·exact True.intro
     ))
 ·(try simp only [cmpI, errD_nil, qa, qb, qc, qd] at ht12)
  refine awp_exit (awp_seq ?_)
  have hie : i = l.length := by omega
  have hwr : Sp.wrong l 0 = Sp.e0 := by rw [← hi1.2, hie, List.drop_length]; rfl
  have hall := wrong_all l 0 (by rw [hwr]; rfl)
  refine awp_region rfl ?_
  refine sR (opr_alloc (n := 6) rfl z33) rfl rfl rfl ?_
  refine awp_seq (awp_seq (awp_region rfl ?_))
  first
   | refine sP (opp_mv (v := .sl _ _ _ _) rfl rfl) rfl rfl ?_
   | refine sP (opp_mv (v := .osl _ _ _ _ _) rfl rfl) rfl rfl ?_
  first
   | refine sP (opp_lenSl rfl rfl un24) rfl rfl ?_
   | refine sP (opp_lenOsl rfl rfl un24) rfl rfl ?_
  refine sP (opp_mv (v := .int _ _) rfl rfl) rfl rfl ?_
  refine awp_block ?_
  refine awp_loopK (ι := Nat × Bool × Bool × Bool × Sta) (fun p => p.1 ≤ l.length ∧ (l.take p.1).foldl Sp.putR sta0 = p.2.2.2.2 ∧ StaOK p.2.1 p.2.2.1 p.2.2.2.1 p.1 p.2.2.2.2) (fun p => [(8, .top), (33, .int .i64 (p.1 : Int)), (34, .top), (35, .top), (36, .top), (37, .top), (38, .top), (39, .top)]) (fun p => [(6, some (staB p.2.1 p.2.2.1 p.2.2.2.1 p.2.2.2.2)), (1003, rowB p.2.1 21 p.2.2.2.2.procs.length (prAt p.2.2.2.2.procs)), (1008, rowB p.2.2.1 2 p.2.2.2.2.ports.length (ptAt p.2.2.2.2.ports)), (1009, rowB p.2.2.2.1 66 p.2.2.2.2.pages.length (pgAt p.2.2.2.2.pages))]) [6, 1003, 1008, 1009] (fun p => l.length - p.1) ((0, true, true, true, sta0)) (⟨Nat.zero_le _, rfl, by simp [sta0], by simp [sta0], by simp [sta0], Nat.zero_le _, Nat.zero_le _, Nat.zero_le _⟩) (by
   refine imp_over [] rfl rfl (by kernel_rfl) ?_ ?_
   ·iterate 8 refine And.intro wkv ?_
    exact True.intro
   ·refine And.intro (And.intro rfl (And.intro rfl (Exists.intro _ (And.intro rfl (by exact Wk.c (.agg (.cons .refl (.cons .refl (.cons .refl (.cons .sl0 (.cons .sl0 (.cons .sl0 (.cons .sl0 (.cons .sl0 (.cons .sl0 (.cons .sl0 .nil)))))))))))))))) ?_
    exact True.intro
   ) ?_
  intro p hi2; obtain ⟨i, e3, e8, e9, S⟩ := p; obtain ⟨hi, hS, hk⟩ := hi2; dsimp only at hi hS hk ⊢; by_cases hlt : i < l.length; (have hrm := rc_mem l i hlt); (have hrn := hn _ hrm); (have hrb := hb _ hrm); (have hra := hall _ hrm); (have hnx := fold_rc l i hlt); (rw [hS] at hnx); (obtain ⟨r, hr⟩ : ∃ r, l.getD i rc0 = r := ⟨_, rfl⟩); (rw [hr] at hrm hrn hrb hra hnx); (obtain ⟨tag, nr, b⟩ := r); (obtain rfl : nr = false := hrn); (have hcell : rcAt l (Int.toNat (i : Int)) = rcAV ⟨tag, false, b⟩ := congrArg rcAV hr); (rcases put_cases tag e3 e8 e9 with rfl | ⟨rfl, rfl⟩ | ⟨rfl, rfl⟩ | rfl | rfl | rfl | rfl | ⟨rfl, rfl⟩ | ⟨rfl, rfl⟩ | ⟨rfl, rfl⟩ | ⟨rfl, rfl⟩ | hx)
  ·skip
   refine awp_seq (awp_region rfl ?_)
   refine sP (opp_cmp rfl rfl rfl rfl) rfl rfl ?_
   refine awp_seq ?_
   refine awp_cond _ rfl (fun ht34 => ?_) (fun ht34 => ?_)
   ·(try simp only [cmpI, errD_nil, qa, qb, qc, qd] at ht34)
    refine awp_skip (awp_seq (awp_block (awp_seq (awp_region rfl ?_))))
    first
     | refine sP (opp_indexSl rfl rfl rfl el24 (by omega) (by omega)) rfl rfl ?_
     | refine sP (opp_indexOsl0 rfl rfl rfl el24 (by omega) (by omega)) rfl rfl ?_
     | refine sP (opp_indexOsl rfl rfl rfl el24 (by omega) (by omega)) rfl rfl ?_
    rw [hcell]
    first
     | refine sP (opp_loadP rfl rfl rfl rfl bi rfl ty40) rfl rfl ?_
     | refine sP (opp_loadF rfl rfl ty40) rfl rfl ?_
    refine sR (opr_alloc (n := 8) rfl z40) rfl rfl rfl ?_
    refine sR0 (opr_store (v := .agg _) (trn := (.agg _)) rfl rfl rfl rfl bi rfl rfl rfl rfl fr2 ty40 (fun _ _ h => h)) rfl rfl rfl ?_
    refine awp_region rfl ?_
    first
     | refine sP (opp_loadP rfl rfl rfl rfl bi rfl ty40) rfl rfl ?_
     | refine sP (opp_loadF rfl rfl ty40) rfl rfl ?_
    refine sR (opr_callGF (i0 := 1) (j0 := 6) (rl := [(1, 6)]) (A := [.top, .int _ _, .int _ _, .top, .top, .top, .top, .top, .top, .top]) (B := [.top, .int _ _, .int _ _, .top, .top, .top, .top, .top, .top, .top]) (B' := [.top, .int _ _, .int _ _, .top, .top, .top, .top, .top, .top, .top]) (r1 := .tup []) (H1 := []) (n1 := []) [true, false, false, true, true, true, true, true, true, true] rfl rfl ent26 (fun vs => cg26a b (long_1 hra.1) vs _ _) rfl rfl rfl rfl (by first | rfl | (simp only [oneB, rowA_one, rowV_one]; rfl)) (And.intro (And.intro rfl wka) (And.intro (And.intro rfl wka) True.intro)) (fun vs => (And.intro (And.intro rfl (Exists.intro _ (And.intro rfl wkc))) True.intro)) rfl rfl (fun _ => rfl) (by simp only [mixB, List.getD_cons_zero, List.getD_cons_succ, cond_true, cond_false]; exact rfl) rfl rfl) rfl rfl rfl ?_
    refine awp_region rfl ?_
    first
     | refine sP (opp_arith rfl rfl rfl (.inl ⟨rfl, w64 (by omega)⟩)) rfl rfl ?_
     | refine sP (opp_arith rfl rfl rfl (.inl ⟨rfl, rfl⟩)) rfl rfl ?_
    refine sP (opp_mv (v := .int _ _) rfl rfl) rfl rfl ?_
    refine Exists.intro ((i + 1, e3, e8, e9, { S with frame := Sp.fld b 0 4, epoch := Sp.fld b 4 4 })) (And.intro (And.intro (And.intro (by show i + 1 ≤ _; omega) (And.intro (hnx.trans (putR_1 ..)) (hk.up rfl rfl rfl))) (by first | omega | (dsimp only; omega))) (by
     rcases e3 with _ | _ <;> rcases e8 with _ | _ <;> rcases e9 with _ | _
     all_goals
      refine imp_over [] rfl rfl (by kernel_rfl) ?_ ?_
      ·iterate 8 refine And.intro wkv ?_
       exact True.intro
      ·refine And.intro (And.intro rfl (And.intro rfl (Exists.intro _ (And.intro rfl (by first | exact WkC.refl _ | (simp only [staB, snoc_len]; exact WkC.refl _)))))) ?_
       repeat (refine And.intro (And.intro rfl (And.intro rfl (Exists.intro _ (And.intro rfl (by first | exact WkC.refl _ | (simp only [snoc_len]; exact WkC.refl _)))))) ?_)
       exact True.intro
     ))
   ·(try simp only [cmpI, errD_nil, qa, qb, qc, qd] at ht34)
    exfalso; omega
  ·skip
   refine awp_seq (awp_region rfl ?_)
   refine sP (opp_cmp rfl rfl rfl rfl) rfl rfl ?_
   refine awp_seq ?_
   refine awp_cond _ rfl (fun ht34 => ?_) (fun ht34 => ?_)
   ·(try simp only [cmpI, errD_nil, qa, qb, qc, qd] at ht34)
    refine awp_skip (awp_seq (awp_block (awp_seq (awp_region rfl ?_))))
    first
     | refine sP (opp_indexSl rfl rfl rfl el24 (by omega) (by omega)) rfl rfl ?_
     | refine sP (opp_indexOsl0 rfl rfl rfl el24 (by omega) (by omega)) rfl rfl ?_
     | refine sP (opp_indexOsl rfl rfl rfl el24 (by omega) (by omega)) rfl rfl ?_
    rw [hcell]
    first
     | refine sP (opp_loadP rfl rfl rfl rfl bi rfl ty40) rfl rfl ?_
     | refine sP (opp_loadF rfl rfl ty40) rfl rfl ?_
    refine sR (opr_alloc (n := 8) rfl z40) rfl rfl rfl ?_
    refine sR0 (opr_store (v := .agg _) (trn := (.agg _)) rfl rfl rfl rfl bi rfl rfl rfl rfl fr2 ty40 (fun _ _ h => h)) rfl rfl rfl ?_
    refine awp_region rfl ?_
    first
     | refine sP (opp_loadP rfl rfl rfl rfl bi rfl ty40) rfl rfl ?_
     | refine sP (opp_loadF rfl rfl ty40) rfl rfl ?_
    refine sR (opr_callGF (i0 := 1) (j0 := 6) (rl := [(1, 6), (2, 1003), (48, 2003)]) (A := [.top, .top, .top, .osl 2 _ _ _ _, .top, .top, .top, .top, .top, .top]) (B := [.top, .top, .top, .osl 48 _ _ _ _, .top, .top, .top, .top, .top, .top]) (B' := [.top, .top, .top, .osl 2003 _ _ _ _, .top, .top, .top, .top, .top, .top]) (r1 := .tup []) (H1 := [(1003, none), (2003, some (.arr _ _ _))]) (n1 := [2003]) [true, true, true, false, true, true, true, true, true, true] rfl rfl ent26 (fun vs => cg26b b (long_3 hra.1) vs S.procs (by have := hk.pl; omega)) rfl rfl rfl rfl (by first | rfl | (simp only [oneB, rowA_one, rowV_one]; rfl)) (And.intro (And.intro rfl wka) (And.intro (And.intro rfl wka) True.intro)) (fun vs => (And.intro (And.intro rfl (Exists.intro _ (And.intro rfl wkc))) (And.intro (And.intro rfl (Exists.intro _ (And.intro rfl wkc))) True.intro))) rfl rfl (fun _ => rfl) (by simp only [mixB, List.getD_cons_zero, List.getD_cons_succ, cond_true, cond_false]; exact rfl) rfl rfl) rfl rfl rfl ?_
    refine awp_region rfl ?_
    first
     | refine sP (opp_arith rfl rfl rfl (.inl ⟨rfl, w64 (by omega)⟩)) rfl rfl ?_
     | refine sP (opp_arith rfl rfl rfl (.inl ⟨rfl, rfl⟩)) rfl rfl ?_
    refine sP (opp_mv (v := .int _ _) rfl rfl) rfl rfl ?_
    refine Exists.intro ((i + 1, false, e8, e9, { S with procs := S.procs ++ [Sp.proc b] })) (And.intro (And.intro (And.intro (by show i + 1 ≤ _; omega) (And.intro (hnx.trans (putR_3 ..)) (hk.addP _))) (by first | omega | (dsimp only; omega))) (by
     rcases e8 with _ | _ <;> rcases e9 with _ | _
     all_goals
      refine imp_over [(1003, 2003)] rfl rfl (by kernel_rfl) ?_ ?_
      ·iterate 8 refine And.intro wkv ?_
       exact True.intro
      ·refine And.intro (And.intro rfl (And.intro rfl (Exists.intro _ (And.intro rfl (by first | exact WkC.refl _ | (simp only [staB, snoc_len]; exact WkC.refl _)))))) ?_
       repeat (refine And.intro (And.intro rfl (And.intro rfl (Exists.intro _ (And.intro rfl (by first | exact WkC.refl _ | (simp only [snoc_len]; exact WkC.refl _)))))) ?_)
       exact True.intro
     ))
   ·(try simp only [cmpI, errD_nil, qa, qb, qc, qd] at ht34)
    exfalso; omega
  ·skip
   refine awp_seq (awp_region rfl ?_)
   refine sP (opp_cmp rfl rfl rfl rfl) rfl rfl ?_
   refine awp_seq ?_
   refine awp_cond _ rfl (fun ht34 => ?_) (fun ht34 => ?_)
   ·(try simp only [cmpI, errD_nil, qa, qb, qc, qd] at ht34)
    refine awp_skip (awp_seq (awp_block (awp_seq (awp_region rfl ?_))))
    first
     | refine sP (opp_indexSl rfl rfl rfl el24 (by omega) (by omega)) rfl rfl ?_
     | refine sP (opp_indexOsl0 rfl rfl rfl el24 (by omega) (by omega)) rfl rfl ?_
     | refine sP (opp_indexOsl rfl rfl rfl el24 (by omega) (by omega)) rfl rfl ?_
    rw [hcell]
    first
     | refine sP (opp_loadP rfl rfl rfl rfl bi rfl ty40) rfl rfl ?_
     | refine sP (opp_loadF rfl rfl ty40) rfl rfl ?_
    refine sR (opr_alloc (n := 8) rfl z40) rfl rfl rfl ?_
    refine sR0 (opr_store (v := .agg _) (trn := (.agg _)) rfl rfl rfl rfl bi rfl rfl rfl rfl fr2 ty40 (fun _ _ h => h)) rfl rfl rfl ?_
    refine awp_region rfl ?_
    first
     | refine sP (opp_loadP rfl rfl rfl rfl bi rfl ty40) rfl rfl ?_
     | refine sP (opp_loadF rfl rfl ty40) rfl rfl ?_
    refine sR (opr_callGF (i0 := 1) (j0 := 6) (rl := [(1, 6), (48, 2003)]) (A := [.top, .top, .top, .sl _ _ _ _, .top, .top, .top, .top, .top, .top]) (B := [.top, .top, .top, .osl 48 _ _ _ _, .top, .top, .top, .top, .top, .top]) (B' := [.top, .top, .top, .osl 2003 _ _ _ _, .top, .top, .top, .top, .top, .top]) (r1 := .tup []) (H1 := [(2003, some (.arr _ _ _))]) (n1 := [2003]) [true, true, true, false, true, true, true, true, true, true] rfl rfl ent26 (fun vs => cg26c b (long_3 hra.1) vs _) rfl rfl rfl rfl (by first | rfl | (simp only [oneB, rowA_one, rowV_one]; rfl)) (And.intro (And.intro rfl wka) (And.intro (And.intro rfl wka) True.intro)) (fun vs => (And.intro (And.intro rfl (Exists.intro _ (And.intro rfl wkc))) True.intro)) rfl rfl (fun _ => rfl) (by simp only [mixB, List.getD_cons_zero, List.getD_cons_succ, cond_true, cond_false]; exact rfl) rfl rfl) rfl rfl rfl ?_
    refine awp_region rfl ?_
    first
     | refine sP (opp_arith rfl rfl rfl (.inl ⟨rfl, w64 (by omega)⟩)) rfl rfl ?_
     | refine sP (opp_arith rfl rfl rfl (.inl ⟨rfl, rfl⟩)) rfl rfl ?_
    refine sP (opp_mv (v := .int _ _) rfl rfl) rfl rfl ?_
    have hp0 : S.procs = [] := List.length_eq_zero_iff.1 (hk.p.1 rfl)
    refine Exists.intro ((i + 1, false, e8, e9, { S with procs := S.procs ++ [Sp.proc b] })) (And.intro (And.intro (And.intro (by show i + 1 ≤ _; omega) (And.intro (hnx.trans (putR_3 ..)) (hk.addP _))) (by first | omega | (dsimp only; omega))) (by
     rcases e8 with _ | _ <;> rcases e9 with _ | _
     all_goals
      refine imp_over [(1003, 2003)] rfl rfl (by kernel_rfl) ?_ ?_
      ·iterate 8 refine And.intro wkv ?_
       exact True.intro
      ·refine And.intro (And.intro rfl (And.intro rfl (Exists.intro _ (And.intro rfl (by (simp only [staB, hp0]; exact WkC.refl _)))))) ?_
       repeat (refine And.intro (And.intro rfl (And.intro rfl (Exists.intro _ (And.intro rfl (by first | exact WkC.refl _ | (simp only [hp0]; exact WkC.refl _)))))) ?_)
       exact True.intro
     ))
   ·(try simp only [cmpI, errD_nil, qa, qb, qc, qd] at ht34)
    exfalso; omega
  ·skip
   refine awp_seq (awp_region rfl ?_)
   refine sP (opp_cmp rfl rfl rfl rfl) rfl rfl ?_
   refine awp_seq ?_
   refine awp_cond _ rfl (fun ht34 => ?_) (fun ht34 => ?_)
   ·(try simp only [cmpI, errD_nil, qa, qb, qc, qd] at ht34)
    refine awp_skip (awp_seq (awp_block (awp_seq (awp_region rfl ?_))))
    first
     | refine sP (opp_indexSl rfl rfl rfl el24 (by omega) (by omega)) rfl rfl ?_
     | refine sP (opp_indexOsl0 rfl rfl rfl el24 (by omega) (by omega)) rfl rfl ?_
     | refine sP (opp_indexOsl rfl rfl rfl el24 (by omega) (by omega)) rfl rfl ?_
    rw [hcell]
    first
     | refine sP (opp_loadP rfl rfl rfl rfl bi rfl ty40) rfl rfl ?_
     | refine sP (opp_loadF rfl rfl ty40) rfl rfl ?_
    refine sR (opr_alloc (n := 8) rfl z40) rfl rfl rfl ?_
    refine sR0 (opr_store (v := .agg _) (trn := (.agg _)) rfl rfl rfl rfl bi rfl rfl rfl rfl fr2 ty40 (fun _ _ h => h)) rfl rfl rfl ?_
    refine awp_region rfl ?_
    first
     | refine sP (opp_loadP rfl rfl rfl rfl bi rfl ty40) rfl rfl ?_
     | refine sP (opp_loadF rfl rfl ty40) rfl rfl ?_
    refine sR (opr_callGF (i0 := 1) (j0 := 6) (rl := [(1, 6)]) (A := [.top, .top, .top, .top, .sl _ _ _ _, .top, .top, .top, .top, .top]) (B := [.top, .top, .top, .top, _, .top, .top, .top, .top, .top]) (B' := [.top, .top, .top, .top, _, .top, .top, .top, .top, .top]) (r1 := .tup []) (H1 := []) (n1 := []) [true, true, true, true, false, true, true, true, true, true] rfl rfl ent26 (fun vs => cg26d b hrb vs _ _ _) rfl rfl rfl rfl (by first | rfl | (simp only [oneB, rowA_one, rowV_one]; rfl)) (And.intro (And.intro rfl wka) (And.intro (And.intro rfl wka) True.intro)) (fun vs => (And.intro (And.intro rfl (Exists.intro _ (And.intro rfl wkc))) True.intro)) rfl rfl (fun _ => rfl) (by simp only [mixB, List.getD_cons_zero, List.getD_cons_succ, cond_true, cond_false]; exact rfl) rfl rfl) rfl rfl rfl ?_
    refine awp_region rfl ?_
    first
     | refine sP (opp_arith rfl rfl rfl (.inl ⟨rfl, w64 (by omega)⟩)) rfl rfl ?_
     | refine sP (opp_arith rfl rfl rfl (.inl ⟨rfl, rfl⟩)) rfl rfl ?_
    refine sP (opp_mv (v := .int _ _) rfl rfl) rfl rfl ?_
    refine Exists.intro ((i + 1, e3, e8, e9, { S with ready := Sp.nums b })) (And.intro (And.intro (And.intro (by show i + 1 ≤ _; omega) (And.intro (hnx.trans (putR_4 ..)) (hk.up rfl rfl rfl))) (by first | omega | (dsimp only; omega))) (by
     rcases e3 with _ | _ <;> rcases e8 with _ | _ <;> rcases e9 with _ | _
     all_goals
      refine imp_over [] rfl rfl (by kernel_rfl) ?_ ?_
      ·iterate 8 refine And.intro wkv ?_
       exact True.intro
      ·refine And.intro (And.intro rfl (And.intro rfl (Exists.intro _ (And.intro rfl (by first | exact WkC.refl _ | (simp only [staB, snoc_len]; exact WkC.refl _)))))) ?_
       repeat (refine And.intro (And.intro rfl (And.intro rfl (Exists.intro _ (And.intro rfl (by first | exact WkC.refl _ | (simp only [snoc_len]; exact WkC.refl _)))))) ?_)
       exact True.intro
     ))
   ·(try simp only [cmpI, errD_nil, qa, qb, qc, qd] at ht34)
    exfalso; omega
  ·skip
   refine awp_seq (awp_region rfl ?_)
   refine sP (opp_cmp rfl rfl rfl rfl) rfl rfl ?_
   refine awp_seq ?_
   refine awp_cond _ rfl (fun ht34 => ?_) (fun ht34 => ?_)
   ·(try simp only [cmpI, errD_nil, qa, qb, qc, qd] at ht34)
    refine awp_skip (awp_seq (awp_block (awp_seq (awp_region rfl ?_))))
    first
     | refine sP (opp_indexSl rfl rfl rfl el24 (by omega) (by omega)) rfl rfl ?_
     | refine sP (opp_indexOsl0 rfl rfl rfl el24 (by omega) (by omega)) rfl rfl ?_
     | refine sP (opp_indexOsl rfl rfl rfl el24 (by omega) (by omega)) rfl rfl ?_
    rw [hcell]
    first
     | refine sP (opp_loadP rfl rfl rfl rfl bi rfl ty40) rfl rfl ?_
     | refine sP (opp_loadF rfl rfl ty40) rfl rfl ?_
    refine sR (opr_alloc (n := 8) rfl z40) rfl rfl rfl ?_
    refine sR0 (opr_store (v := .agg _) (trn := (.agg _)) rfl rfl rfl rfl bi rfl rfl rfl rfl fr2 ty40 (fun _ _ h => h)) rfl rfl rfl ?_
    refine awp_region rfl ?_
    first
     | refine sP (opp_loadP rfl rfl rfl rfl bi rfl ty40) rfl rfl ?_
     | refine sP (opp_loadF rfl rfl ty40) rfl rfl ?_
    refine sR (opr_callGF (i0 := 1) (j0 := 6) (rl := [(1, 6)]) (A := [.top, .top, .top, .top, .top, .top, .top, .sl _ _ _ _, .top, .top]) (B := [.top, .top, .top, .top, .top, .top, .top, _, .top, .top]) (B' := [.top, .top, .top, .top, .top, .top, .top, _, .top, .top]) (r1 := .tup []) (H1 := []) (n1 := []) [true, true, true, true, true, true, true, false, true, true] rfl rfl ent26 (fun vs => cg26e b hrb vs _ _ _) rfl rfl rfl rfl (by first | rfl | (simp only [oneB, rowA_one, rowV_one]; rfl)) (And.intro (And.intro rfl wka) (And.intro (And.intro rfl wka) True.intro)) (fun vs => (And.intro (And.intro rfl (Exists.intro _ (And.intro rfl wkc))) True.intro)) rfl rfl (fun _ => rfl) (by simp only [mixB, List.getD_cons_zero, List.getD_cons_succ, cond_true, cond_false]; exact rfl) rfl rfl) rfl rfl rfl ?_
    refine awp_region rfl ?_
    first
     | refine sP (opp_arith rfl rfl rfl (.inl ⟨rfl, w64 (by omega)⟩)) rfl rfl ?_
     | refine sP (opp_arith rfl rfl rfl (.inl ⟨rfl, rfl⟩)) rfl rfl ?_
    refine sP (opp_mv (v := .int _ _) rfl rfl) rfl rfl ?_
    refine Exists.intro ((i + 1, e3, e8, e9, { S with sems := Sp.nums b })) (And.intro (And.intro (And.intro (by show i + 1 ≤ _; omega) (And.intro (hnx.trans (putR_7 ..)) (hk.up rfl rfl rfl))) (by first | omega | (dsimp only; omega))) (by
     rcases e3 with _ | _ <;> rcases e8 with _ | _ <;> rcases e9 with _ | _
     all_goals
      refine imp_over [] rfl rfl (by kernel_rfl) ?_ ?_
      ·iterate 8 refine And.intro wkv ?_
       exact True.intro
      ·refine And.intro (And.intro rfl (And.intro rfl (Exists.intro _ (And.intro rfl (by first | exact WkC.refl _ | (simp only [staB, snoc_len]; exact WkC.refl _)))))) ?_
       repeat (refine And.intro (And.intro rfl (And.intro rfl (Exists.intro _ (And.intro rfl (by first | exact WkC.refl _ | (simp only [snoc_len]; exact WkC.refl _)))))) ?_)
       exact True.intro
     ))
   ·(try simp only [cmpI, errD_nil, qa, qb, qc, qd] at ht34)
    exfalso; omega
  ·skip
   refine awp_seq (awp_region rfl ?_)
   refine sP (opp_cmp rfl rfl rfl rfl) rfl rfl ?_
   refine awp_seq ?_
   refine awp_cond _ rfl (fun ht34 => ?_) (fun ht34 => ?_)
   ·(try simp only [cmpI, errD_nil, qa, qb, qc, qd] at ht34)
    refine awp_skip (awp_seq (awp_block (awp_seq (awp_region rfl ?_))))
    first
     | refine sP (opp_indexSl rfl rfl rfl el24 (by omega) (by omega)) rfl rfl ?_
     | refine sP (opp_indexOsl0 rfl rfl rfl el24 (by omega) (by omega)) rfl rfl ?_
     | refine sP (opp_indexOsl rfl rfl rfl el24 (by omega) (by omega)) rfl rfl ?_
    rw [hcell]
    first
     | refine sP (opp_loadP rfl rfl rfl rfl bi rfl ty40) rfl rfl ?_
     | refine sP (opp_loadF rfl rfl ty40) rfl rfl ?_
    refine sR (opr_alloc (n := 8) rfl z40) rfl rfl rfl ?_
    refine sR0 (opr_store (v := .agg _) (trn := (.agg _)) rfl rfl rfl rfl bi rfl rfl rfl rfl fr2 ty40 (fun _ _ h => h)) rfl rfl rfl ?_
    refine awp_region rfl ?_
    first
     | refine sP (opp_loadP rfl rfl rfl rfl bi rfl ty40) rfl rfl ?_
     | refine sP (opp_loadF rfl rfl ty40) rfl rfl ?_
    refine sR (opr_callGF (i0 := 1) (j0 := 6) (rl := [(1, 6)]) (A := [.top, .top, .top, .top, .top, .sl _ _ _ _, .top, .top, .top, .top]) (B := [.top, .top, .top, .top, .top, _, .top, .top, .top, .top]) (B' := [.top, .top, .top, .top, .top, _, .top, .top, .top, .top]) (r1 := .tup []) (H1 := []) (n1 := []) [true, true, true, true, true, false, true, true, true, true] rfl rfl ent26 (fun vs => cg26f b hrb (long_5 hra.1) vs _ _ _) rfl rfl rfl rfl (by first | rfl | (simp only [oneB, rowA_one, rowV_one]; rfl)) (And.intro (And.intro rfl wka) (And.intro (And.intro rfl wka) True.intro)) (fun vs => (And.intro (And.intro rfl (Exists.intro _ (And.intro rfl wkc))) True.intro)) rfl rfl (fun _ => rfl) (by simp only [mixB, List.getD_cons_zero, List.getD_cons_succ, cond_true, cond_false]; exact rfl) rfl rfl) rfl rfl rfl ?_
    refine awp_region rfl ?_
    first
     | refine sP (opp_arith rfl rfl rfl (.inl ⟨rfl, w64 (by omega)⟩)) rfl rfl ?_
     | refine sP (opp_arith rfl rfl rfl (.inl ⟨rfl, rfl⟩)) rfl rfl ?_
    refine sP (opp_mv (v := .int _ _) rfl rfl) rfl rfl ?_
    refine Exists.intro ((i + 1, e3, e8, e9, { S with timers := Sp.timersOf b })) (And.intro (And.intro (And.intro (by show i + 1 ≤ _; omega) (And.intro (hnx.trans (putR_5 ..)) (hk.up rfl rfl rfl))) (by first | omega | (dsimp only; omega))) (by
     rcases e3 with _ | _ <;> rcases e8 with _ | _ <;> rcases e9 with _ | _
     all_goals
      refine imp_over [] rfl rfl (by kernel_rfl) ?_ ?_
      ·iterate 8 refine And.intro wkv ?_
       exact True.intro
      ·refine And.intro (And.intro rfl (And.intro rfl (Exists.intro _ (And.intro rfl (by first | exact WkC.refl _ | (simp only [staB, snoc_len]; exact WkC.refl _)))))) ?_
       repeat (refine And.intro (And.intro rfl (And.intro rfl (Exists.intro _ (And.intro rfl (by first | exact WkC.refl _ | (simp only [snoc_len]; exact WkC.refl _)))))) ?_)
       exact True.intro
     ))
   ·(try simp only [cmpI, errD_nil, qa, qb, qc, qd] at ht34)
    exfalso; omega
  ·skip
   refine awp_seq (awp_region rfl ?_)
   refine sP (opp_cmp rfl rfl rfl rfl) rfl rfl ?_
   refine awp_seq ?_
   refine awp_cond _ rfl (fun ht34 => ?_) (fun ht34 => ?_)
   ·(try simp only [cmpI, errD_nil, qa, qb, qc, qd] at ht34)
    refine awp_skip (awp_seq (awp_block (awp_seq (awp_region rfl ?_))))
    first
     | refine sP (opp_indexSl rfl rfl rfl el24 (by omega) (by omega)) rfl rfl ?_
     | refine sP (opp_indexOsl0 rfl rfl rfl el24 (by omega) (by omega)) rfl rfl ?_
     | refine sP (opp_indexOsl rfl rfl rfl el24 (by omega) (by omega)) rfl rfl ?_
    rw [hcell]
    first
     | refine sP (opp_loadP rfl rfl rfl rfl bi rfl ty40) rfl rfl ?_
     | refine sP (opp_loadF rfl rfl ty40) rfl rfl ?_
    refine sR (opr_alloc (n := 8) rfl z40) rfl rfl rfl ?_
    refine sR0 (opr_store (v := .agg _) (trn := (.agg _)) rfl rfl rfl rfl bi rfl rfl rfl rfl fr2 ty40 (fun _ _ h => h)) rfl rfl rfl ?_
    refine awp_region rfl ?_
    first
     | refine sP (opp_loadP rfl rfl rfl rfl bi rfl ty40) rfl rfl ?_
     | refine sP (opp_loadF rfl rfl ty40) rfl rfl ?_
    refine sR (opr_callGF (i0 := 1) (j0 := 6) (rl := [(1, 6)]) (A := [.top, .top, .top, .top, .top, .top, .sl _ _ _ _, .top, .top, .top]) (B := [.top, .top, .top, .top, .top, .top, _, .top, .top, .top]) (B' := [.top, .top, .top, .top, .top, .top, _, .top, .top, .top]) (r1 := .tup []) (H1 := []) (n1 := []) [true, true, true, true, true, true, false, true, true, true] rfl rfl ent26 (fun vs => cg26g b hrb vs _ _ _) rfl rfl rfl rfl (by first | rfl | (simp only [oneB, rowA_one, rowV_one]; rfl)) (And.intro (And.intro rfl wka) (And.intro (And.intro rfl wka) True.intro)) (fun vs => (And.intro (And.intro rfl (Exists.intro _ (And.intro rfl wkc))) True.intro)) rfl rfl (fun _ => rfl) (by simp only [mixB, List.getD_cons_zero, List.getD_cons_succ, cond_true, cond_false]; exact rfl) rfl rfl) rfl rfl rfl ?_
    refine awp_region rfl ?_
    first
     | refine sP (opp_arith rfl rfl rfl (.inl ⟨rfl, w64 (by omega)⟩)) rfl rfl ?_
     | refine sP (opp_arith rfl rfl rfl (.inl ⟨rfl, rfl⟩)) rfl rfl ?_
    refine sP (opp_mv (v := .int _ _) rfl rfl) rfl rfl ?_
    refine Exists.intro ((i + 1, e3, e8, e9, { S with up := ups b })) (And.intro (And.intro (And.intro (by show i + 1 ≤ _; omega) (And.intro (hnx.trans (putR_6 ..)) (hk.up rfl rfl rfl))) (by first | omega | (dsimp only; omega))) (by
     rcases e3 with _ | _ <;> rcases e8 with _ | _ <;> rcases e9 with _ | _
     all_goals
      refine imp_over [] rfl rfl (by kernel_rfl) ?_ ?_
      ·iterate 8 refine And.intro wkv ?_
       exact True.intro
      ·refine And.intro (And.intro rfl (And.intro rfl (Exists.intro _ (And.intro rfl (by first | exact WkC.refl _ | (simp only [staB, snoc_len]; exact WkC.refl _)))))) ?_
       repeat (refine And.intro (And.intro rfl (And.intro rfl (Exists.intro _ (And.intro rfl (by first | exact WkC.refl _ | (simp only [snoc_len]; exact WkC.refl _)))))) ?_)
       exact True.intro
     ))
   ·(try simp only [cmpI, errD_nil, qa, qb, qc, qd] at ht34)
    exfalso; omega
  ·skip
   refine awp_seq (awp_region rfl ?_)
   refine sP (opp_cmp rfl rfl rfl rfl) rfl rfl ?_
   refine awp_seq ?_
   refine awp_cond _ rfl (fun ht34 => ?_) (fun ht34 => ?_)
   ·(try simp only [cmpI, errD_nil, qa, qb, qc, qd] at ht34)
    refine awp_skip (awp_seq (awp_block (awp_seq (awp_region rfl ?_))))
    first
     | refine sP (opp_indexSl rfl rfl rfl el24 (by omega) (by omega)) rfl rfl ?_
     | refine sP (opp_indexOsl0 rfl rfl rfl el24 (by omega) (by omega)) rfl rfl ?_
     | refine sP (opp_indexOsl rfl rfl rfl el24 (by omega) (by omega)) rfl rfl ?_
    rw [hcell]
    first
     | refine sP (opp_loadP rfl rfl rfl rfl bi rfl ty40) rfl rfl ?_
     | refine sP (opp_loadF rfl rfl ty40) rfl rfl ?_
    refine sR (opr_alloc (n := 8) rfl z40) rfl rfl rfl ?_
    refine sR0 (opr_store (v := .agg _) (trn := (.agg _)) rfl rfl rfl rfl bi rfl rfl rfl rfl fr2 ty40 (fun _ _ h => h)) rfl rfl rfl ?_
    refine awp_region rfl ?_
    first
     | refine sP (opp_loadP rfl rfl rfl rfl bi rfl ty40) rfl rfl ?_
     | refine sP (opp_loadF rfl rfl ty40) rfl rfl ?_
    refine sR (opr_callGF (i0 := 1) (j0 := 6) (rl := [(1, 6), (2, 1008), (136, 2008)]) (A := [.top, .top, .top, .top, .top, .top, .top, .top, .osl 2 _ _ _ _, .top]) (B := [.top, .top, .top, .top, .top, .top, .top, .top, .osl 136 _ _ _ _, .top]) (B' := [.top, .top, .top, .top, .top, .top, .top, .top, .osl 2008 _ _ _ _, .top]) (r1 := .tup []) (H1 := [(1008, none), (2008, some (.arr _ _ _))]) (n1 := [2008]) [true, true, true, true, true, true, true, true, false, true] rfl rfl ent26 (fun vs => cg26h b hrb vs S.ports (by have := hk.ql; omega) hG2 hG3) rfl rfl rfl rfl (by first | rfl | (simp only [oneB, rowA_one, rowV_one]; rfl)) (And.intro (And.intro rfl wka) (And.intro (And.intro rfl wka) True.intro)) (fun vs => (And.intro (And.intro rfl (Exists.intro _ (And.intro rfl wkc))) (And.intro (And.intro rfl (Exists.intro _ (And.intro rfl wkc))) True.intro))) rfl rfl (fun _ => rfl) (by simp only [mixB, List.getD_cons_zero, List.getD_cons_succ, cond_true, cond_false]; exact rfl) rfl rfl) rfl rfl rfl ?_
    refine awp_region rfl ?_
    first
     | refine sP (opp_arith rfl rfl rfl (.inl ⟨rfl, w64 (by omega)⟩)) rfl rfl ?_
     | refine sP (opp_arith rfl rfl rfl (.inl ⟨rfl, rfl⟩)) rfl rfl ?_
    refine sP (opp_mv (v := .int _ _) rfl rfl) rfl rfl ?_
    refine Exists.intro ((i + 1, e3, false, e9, { S with ports := S.ports ++ [(Sp.portQ b).1] })) (And.intro (And.intro (And.intro (by show i + 1 ≤ _; omega) (And.intro (hnx.trans (putR_8 ..)) (hk.addQ _))) (by first | omega | (dsimp only; omega))) (by
     rcases e3 with _ | _ <;> rcases e9 with _ | _
     all_goals
      refine imp_over [(1008, 2008)] rfl rfl (by kernel_rfl) ?_ ?_
      ·iterate 8 refine And.intro wkv ?_
       exact True.intro
      ·refine And.intro (And.intro rfl (And.intro rfl (Exists.intro _ (And.intro rfl (by first | exact WkC.refl _ | (simp only [staB, snoc_len]; exact WkC.refl _)))))) ?_
       repeat (refine And.intro (And.intro rfl (And.intro rfl (Exists.intro _ (And.intro rfl (by first | exact WkC.refl _ | (simp only [snoc_len]; exact WkC.refl _)))))) ?_)
       exact True.intro
     ))
   ·(try simp only [cmpI, errD_nil, qa, qb, qc, qd] at ht34)
    exfalso; omega
  ·skip
   refine awp_seq (awp_region rfl ?_)
   refine sP (opp_cmp rfl rfl rfl rfl) rfl rfl ?_
   refine awp_seq ?_
   refine awp_cond _ rfl (fun ht34 => ?_) (fun ht34 => ?_)
   ·(try simp only [cmpI, errD_nil, qa, qb, qc, qd] at ht34)
    refine awp_skip (awp_seq (awp_block (awp_seq (awp_region rfl ?_))))
    first
     | refine sP (opp_indexSl rfl rfl rfl el24 (by omega) (by omega)) rfl rfl ?_
     | refine sP (opp_indexOsl0 rfl rfl rfl el24 (by omega) (by omega)) rfl rfl ?_
     | refine sP (opp_indexOsl rfl rfl rfl el24 (by omega) (by omega)) rfl rfl ?_
    rw [hcell]
    first
     | refine sP (opp_loadP rfl rfl rfl rfl bi rfl ty40) rfl rfl ?_
     | refine sP (opp_loadF rfl rfl ty40) rfl rfl ?_
    refine sR (opr_alloc (n := 8) rfl z40) rfl rfl rfl ?_
    refine sR0 (opr_store (v := .agg _) (trn := (.agg _)) rfl rfl rfl rfl bi rfl rfl rfl rfl fr2 ty40 (fun _ _ h => h)) rfl rfl rfl ?_
    refine awp_region rfl ?_
    first
     | refine sP (opp_loadP rfl rfl rfl rfl bi rfl ty40) rfl rfl ?_
     | refine sP (opp_loadF rfl rfl ty40) rfl rfl ?_
    refine sR (opr_callGF (i0 := 1) (j0 := 6) (rl := [(1, 6), (136, 2008)]) (A := [.top, .top, .top, .top, .top, .top, .top, .top, .sl _ _ _ _, .top]) (B := [.top, .top, .top, .top, .top, .top, .top, .top, .osl 136 _ _ _ _, .top]) (B' := [.top, .top, .top, .top, .top, .top, .top, .top, .osl 2008 _ _ _ _, .top]) (r1 := .tup []) (H1 := [(2008, some (.arr _ _ _))]) (n1 := [2008]) [true, true, true, true, true, true, true, true, false, true] rfl rfl ent26 (fun vs => cg26i b hrb vs _ hG2 hG3) rfl rfl rfl rfl (by first | rfl | (simp only [oneB, rowA_one, rowV_one]; rfl)) (And.intro (And.intro rfl wka) (And.intro (And.intro rfl wka) True.intro)) (fun vs => (And.intro (And.intro rfl (Exists.intro _ (And.intro rfl wkc))) True.intro)) rfl rfl (fun _ => rfl) (by simp only [mixB, List.getD_cons_zero, List.getD_cons_succ, cond_true, cond_false]; exact rfl) rfl rfl) rfl rfl rfl ?_
    refine awp_region rfl ?_
    first
     | refine sP (opp_arith rfl rfl rfl (.inl ⟨rfl, w64 (by omega)⟩)) rfl rfl ?_
     | refine sP (opp_arith rfl rfl rfl (.inl ⟨rfl, rfl⟩)) rfl rfl ?_
    refine sP (opp_mv (v := .int _ _) rfl rfl) rfl rfl ?_
    have hp0 : S.ports = [] := List.length_eq_zero_iff.1 (hk.q.1 rfl)
    refine Exists.intro ((i + 1, e3, false, e9, { S with ports := S.ports ++ [(Sp.portQ b).1] })) (And.intro (And.intro (And.intro (by show i + 1 ≤ _; omega) (And.intro (hnx.trans (putR_8 ..)) (hk.addQ _))) (by first | omega | (dsimp only; omega))) (by
     rcases e3 with _ | _ <;> rcases e9 with _ | _
     all_goals
      refine imp_over [(1008, 2008)] rfl rfl (by kernel_rfl) ?_ ?_
      ·iterate 8 refine And.intro wkv ?_
       exact True.intro
      ·refine And.intro (And.intro rfl (And.intro rfl (Exists.intro _ (And.intro rfl (by (simp only [staB, hp0]; exact WkC.refl _)))))) ?_
       repeat (refine And.intro (And.intro rfl (And.intro rfl (Exists.intro _ (And.intro rfl (by first | exact WkC.refl _ | (simp only [hp0]; exact WkC.refl _)))))) ?_)
       exact True.intro
     ))
   ·(try simp only [cmpI, errD_nil, qa, qb, qc, qd] at ht34)
    exfalso; omega
  ·skip
   refine awp_seq (awp_region rfl ?_)
   refine sP (opp_cmp rfl rfl rfl rfl) rfl rfl ?_
   refine awp_seq ?_
   refine awp_cond _ rfl (fun ht34 => ?_) (fun ht34 => ?_)
   ·(try simp only [cmpI, errD_nil, qa, qb, qc, qd] at ht34)
    refine awp_skip (awp_seq (awp_block (awp_seq (awp_region rfl ?_))))
    first
     | refine sP (opp_indexSl rfl rfl rfl el24 (by omega) (by omega)) rfl rfl ?_
     | refine sP (opp_indexOsl0 rfl rfl rfl el24 (by omega) (by omega)) rfl rfl ?_
     | refine sP (opp_indexOsl rfl rfl rfl el24 (by omega) (by omega)) rfl rfl ?_
    rw [hcell]
    first
     | refine sP (opp_loadP rfl rfl rfl rfl bi rfl ty40) rfl rfl ?_
     | refine sP (opp_loadF rfl rfl ty40) rfl rfl ?_
    refine sR (opr_alloc (n := 8) rfl z40) rfl rfl rfl ?_
    refine sR0 (opr_store (v := .agg _) (trn := (.agg _)) rfl rfl rfl rfl bi rfl rfl rfl rfl fr2 ty40 (fun _ _ h => h)) rfl rfl rfl ?_
    refine awp_region rfl ?_
    first
     | refine sP (opp_loadP rfl rfl rfl rfl bi rfl ty40) rfl rfl ?_
     | refine sP (opp_loadF rfl rfl ty40) rfl rfl ?_
    refine sR (opr_callGF (i0 := 1) (j0 := 6) (rl := [(1, 6), (2, 1009), (160, 2009)]) (A := [.top, .top, .top, .top, .top, .top, .top, .top, .top, .osl 2 _ _ _ _]) (B := [.top, .top, .top, .top, .top, .top, .top, .top, .top, .osl 160 _ _ _ _]) (B' := [.top, .top, .top, .top, .top, .top, .top, .top, .top, .osl 2009 _ _ _ _]) (r1 := .tup []) (H1 := [(1009, none), (2009, some (.arr _ _ _))]) (n1 := [2009]) [true, true, true, true, true, true, true, true, true, false] rfl rfl ent26 (fun vs => cg26j b (long_9 hra.1) vs S.pages (by have := hk.gl; omega)) rfl rfl rfl rfl (by first | rfl | (simp only [oneB, rowA_one, rowV_one]; rfl)) (And.intro (And.intro rfl wka) (And.intro (And.intro rfl wka) True.intro)) (fun vs => (And.intro (And.intro rfl (Exists.intro _ (And.intro rfl wkc))) (And.intro (And.intro rfl (Exists.intro _ (And.intro rfl wkc))) True.intro))) rfl rfl (fun _ => rfl) (by simp only [mixB, List.getD_cons_zero, List.getD_cons_succ, cond_true, cond_false]; exact rfl) rfl rfl) rfl rfl rfl ?_
    refine awp_region rfl ?_
    first
     | refine sP (opp_arith rfl rfl rfl (.inl ⟨rfl, w64 (by omega)⟩)) rfl rfl ?_
     | refine sP (opp_arith rfl rfl rfl (.inl ⟨rfl, rfl⟩)) rfl rfl ?_
    refine sP (opp_mv (v := .int _ _) rfl rfl) rfl rfl ?_
    refine Exists.intro ((i + 1, e3, e8, false, { S with pages := S.pages ++ [Sp.page b] })) (And.intro (And.intro (And.intro (by show i + 1 ≤ _; omega) (And.intro (hnx.trans (putR_9 ..)) (hk.addG _))) (by first | omega | (dsimp only; omega))) (by
     rcases e3 with _ | _ <;> rcases e8 with _ | _
     all_goals
      refine imp_over [(1009, 2009)] rfl rfl (by kernel_rfl) ?_ ?_
      ·iterate 8 refine And.intro wkv ?_
       exact True.intro
      ·refine And.intro (And.intro rfl (And.intro rfl (Exists.intro _ (And.intro rfl (by first | exact WkC.refl _ | (simp only [staB, snoc_len]; exact WkC.refl _)))))) ?_
       repeat (refine And.intro (And.intro rfl (And.intro rfl (Exists.intro _ (And.intro rfl (by first | exact WkC.refl _ | (simp only [snoc_len]; exact WkC.refl _)))))) ?_)
       exact True.intro
     ))
   ·(try simp only [cmpI, errD_nil, qa, qb, qc, qd] at ht34)
    exfalso; omega
  ·skip
   refine awp_seq (awp_region rfl ?_)
   refine sP (opp_cmp rfl rfl rfl rfl) rfl rfl ?_
   refine awp_seq ?_
   refine awp_cond _ rfl (fun ht34 => ?_) (fun ht34 => ?_)
   ·(try simp only [cmpI, errD_nil, qa, qb, qc, qd] at ht34)
    refine awp_skip (awp_seq (awp_block (awp_seq (awp_region rfl ?_))))
    first
     | refine sP (opp_indexSl rfl rfl rfl el24 (by omega) (by omega)) rfl rfl ?_
     | refine sP (opp_indexOsl0 rfl rfl rfl el24 (by omega) (by omega)) rfl rfl ?_
     | refine sP (opp_indexOsl rfl rfl rfl el24 (by omega) (by omega)) rfl rfl ?_
    rw [hcell]
    first
     | refine sP (opp_loadP rfl rfl rfl rfl bi rfl ty40) rfl rfl ?_
     | refine sP (opp_loadF rfl rfl ty40) rfl rfl ?_
    refine sR (opr_alloc (n := 8) rfl z40) rfl rfl rfl ?_
    refine sR0 (opr_store (v := .agg _) (trn := (.agg _)) rfl rfl rfl rfl bi rfl rfl rfl rfl fr2 ty40 (fun _ _ h => h)) rfl rfl rfl ?_
    refine awp_region rfl ?_
    first
     | refine sP (opp_loadP rfl rfl rfl rfl bi rfl ty40) rfl rfl ?_
     | refine sP (opp_loadF rfl rfl ty40) rfl rfl ?_
    refine sR (opr_callGF (i0 := 1) (j0 := 6) (rl := [(1, 6), (160, 2009)]) (A := [.top, .top, .top, .top, .top, .top, .top, .top, .top, .sl _ _ _ _]) (B := [.top, .top, .top, .top, .top, .top, .top, .top, .top, .osl 160 _ _ _ _]) (B' := [.top, .top, .top, .top, .top, .top, .top, .top, .top, .osl 2009 _ _ _ _]) (r1 := .tup []) (H1 := [(2009, some (.arr _ _ _))]) (n1 := [2009]) [true, true, true, true, true, true, true, true, true, false] rfl rfl ent26 (fun vs => cg26k b (long_9 hra.1) vs _) rfl rfl rfl rfl (by first | rfl | (simp only [oneB, rowA_one, rowV_one]; rfl)) (And.intro (And.intro rfl wka) (And.intro (And.intro rfl wka) True.intro)) (fun vs => (And.intro (And.intro rfl (Exists.intro _ (And.intro rfl wkc))) True.intro)) rfl rfl (fun _ => rfl) (by simp only [mixB, List.getD_cons_zero, List.getD_cons_succ, cond_true, cond_false]; exact rfl) rfl rfl) rfl rfl rfl ?_
    refine awp_region rfl ?_
    first
     | refine sP (opp_arith rfl rfl rfl (.inl ⟨rfl, w64 (by omega)⟩)) rfl rfl ?_
     | refine sP (opp_arith rfl rfl rfl (.inl ⟨rfl, rfl⟩)) rfl rfl ?_
    refine sP (opp_mv (v := .int _ _) rfl rfl) rfl rfl ?_
    have hp0 : S.pages = [] := List.length_eq_zero_iff.1 (hk.g.1 rfl)
    refine Exists.intro ((i + 1, e3, e8, false, { S with pages := S.pages ++ [Sp.page b] })) (And.intro (And.intro (And.intro (by show i + 1 ≤ _; omega) (And.intro (hnx.trans (putR_9 ..)) (hk.addG _))) (by first | omega | (dsimp only; omega))) (by
     rcases e3 with _ | _ <;> rcases e8 with _ | _
     all_goals
      refine imp_over [(1009, 2009)] rfl rfl (by kernel_rfl) ?_ ?_
      ·iterate 8 refine And.intro wkv ?_
       exact True.intro
      ·refine And.intro (And.intro rfl (And.intro rfl (Exists.intro _ (And.intro rfl (by (simp only [staB, hp0]; exact WkC.refl _)))))) ?_
       repeat (refine And.intro (And.intro rfl (And.intro rfl (Exists.intro _ (And.intro rfl (by first | exact WkC.refl _ | (simp only [hp0]; exact WkC.refl _)))))) ?_)
       exact True.intro
     ))
   ·(try simp only [cmpI, errD_nil, qa, qb, qc, qd] at ht34)
    exfalso; omega
  ·skip
   refine awp_seq (awp_region rfl ?_)
   refine sP (opp_cmp rfl rfl rfl rfl) rfl rfl ?_
   refine awp_seq ?_
   refine awp_cond _ rfl (fun ht34 => ?_) (fun ht34 => ?_)
   ·(try simp only [cmpI, errD_nil, qa, qb, qc, qd] at ht34)
    refine awp_skip (awp_seq (awp_block (awp_seq (awp_region rfl ?_))))
    first
     | refine sP (opp_indexSl rfl rfl rfl el24 (by omega) (by omega)) rfl rfl ?_
     | refine sP (opp_indexOsl0 rfl rfl rfl el24 (by omega) (by omega)) rfl rfl ?_
     | refine sP (opp_indexOsl rfl rfl rfl el24 (by omega) (by omega)) rfl rfl ?_
    rw [hcell]
    first
     | refine sP (opp_loadP rfl rfl rfl rfl bi rfl ty40) rfl rfl ?_
     | refine sP (opp_loadF rfl rfl ty40) rfl rfl ?_
    refine sR (opr_alloc (n := 8) rfl z40) rfl rfl rfl ?_
    refine sR0 (opr_store (v := .agg _) (trn := (.agg _)) rfl rfl rfl rfl bi rfl rfl rfl rfl fr2 ty40 (fun _ _ h => h)) rfl rfl rfl ?_
    refine awp_region rfl ?_
    first
     | refine sP (opp_loadP rfl rfl rfl rfl bi rfl ty40) rfl rfl ?_
     | refine sP (opp_loadF rfl rfl ty40) rfl rfl ?_
    refine sR (opr_callGF (i0 := 1) (j0 := 6) (rl := [(1, 6)]) (A := [.top, .top, .top, .top, .top, .top, .top, .top, .top, .top]) (B := [.top, .top, .top, .top, .top, .top, .top, .top, .top, .top]) (B' := [.top, .top, .top, .top, .top, .top, .top, .top, .top, .top]) (r1 := .tup []) (H1 := []) (n1 := []) [true, true, true, true, true, true, true, true, true, true] rfl rfl ent26 (fun vs => cg26l tag b hrb hx.1 hx.2.1 hx.2.2.1 hx.2.2.2.1 hx.2.2.2.2.1 hx.2.2.2.2.2.1 hx.2.2.2.2.2.2.1 hx.2.2.2.2.2.2.2 vs) rfl rfl rfl rfl (by first | rfl | (simp only [oneB, rowA_one, rowV_one]; rfl)) (And.intro (And.intro rfl wka) (And.intro (And.intro rfl wka) True.intro)) (fun vs => (And.intro (And.intro rfl (Exists.intro _ (And.intro rfl wkc))) True.intro)) rfl rfl (fun _ => rfl) (by simp only [mixB, List.getD_cons_zero, List.getD_cons_succ, cond_true, cond_false]; exact rfl) rfl rfl) rfl rfl rfl ?_
    refine awp_region rfl ?_
    first
     | refine sP (opp_arith rfl rfl rfl (.inl ⟨rfl, w64 (by omega)⟩)) rfl rfl ?_
     | refine sP (opp_arith rfl rfl rfl (.inl ⟨rfl, rfl⟩)) rfl rfl ?_
    refine sP (opp_mv (v := .int _ _) rfl rfl) rfl rfl ?_
    refine Exists.intro ((i + 1, e3, e8, e9, S)) (And.intro (And.intro (And.intro (by show i + 1 ≤ _; omega) (And.intro (hnx.trans (putR_0 _ _ _ _ hx)) (hk.up rfl rfl rfl))) (by first | omega | (dsimp only; omega))) (by
     rcases e3 with _ | _ <;> rcases e8 with _ | _ <;> rcases e9 with _ | _
     all_goals
      refine imp_over [] rfl rfl (by kernel_rfl) ?_ ?_
      ·iterate 8 refine And.intro wkv ?_
       exact True.intro
      ·refine And.intro (And.intro rfl (And.intro rfl (Exists.intro _ (And.intro rfl (by first | exact WkC.refl _ | (simp only [staB, snoc_len]; exact WkC.refl _)))))) ?_
       repeat (refine And.intro (And.intro rfl (And.intro rfl (Exists.intro _ (And.intro rfl (by first | exact WkC.refl _ | (simp only [snoc_len]; exact WkC.refl _)))))) ?_)
       exact True.intro
     ))
   ·(try simp only [cmpI, errD_nil, qa, qb, qc, qd] at ht34)
    exfalso; omega
  ·skip
   refine awp_seq (awp_region rfl ?_)
   refine sP (opp_cmp rfl rfl rfl rfl) rfl rfl ?_
   refine awp_seq ?_
   refine awp_cond _ rfl (fun ht34 => ?_) (fun ht34 => ?_)
   ·(try simp only [cmpI, errD_nil, qa, qb, qc, qd] at ht34)
    exfalso; omega
   ·(try simp only [cmpI, errD_nil, qa, qb, qc, qd] at ht34)
    refine awp_exit (awp_seq ?_)
    rcases e3 with _ | _ <;> rcases e8 with _ | _ <;> rcases e9 with _ | _
    all_goals skip
    all_goals refine awp_region rfl ?_
    all_goals first
     | refine sP (opp_loadP rfl rfl rfl rfl bi rfl ty33) rfl rfl ?_
     | refine sP (opp_loadF rfl rfl ty33) rfl rfl ?_
    all_goals refine sR0 (opr_store (v := .agg _) (trn := (.agg _)) rfl rfl rfl rfl bi rfl rfl rfl rfl fr2 ty33 (fun _ _ h => h)) rfl rfl rfl ?_
    all_goals refine sP (opp_as (v := .err _) rfl rfl) rfl rfl ?_
    all_goals refine awp_ret ?_
    all_goals repeat (first | refine athen_ret ?_ | refine ain_ret ?_)
    all_goals first
     | refine apost_ret (aend (l := [.agg _, .err _]) (.cell rfl rfl rfl (by exact True.intro) rfl ty33 (.tmp .nil)) (fun h => by cases h) (.cons (.noN rfl rfl) (.cons (.noN rfl rfl) .nil)) ⟨Wk.v ?_, rfl, rfl⟩)
     | refine apost_ret (aends (l := [.agg _, .err _]) (.cell rfl rfl rfl (by exact True.intro) rfl ty33 (.tmp .nil)) (fun h => by cases h) (.cons shut (fun h => by cases h) (.cons shut (fun h => by cases h) .nil)) rfl ⟨Wk.v ?_, rfl, rfl⟩)
    all_goals have hie : i = l.length := by omega
    all_goals rw [show Sp.fill l = (S, Sp.e0) from by unfold Sp.fill; rw [hwr, ← hS, hie, List.take_length]; rfl]
    all_goals exact .tup (.cons (.agg (.cons .refl (.cons .refl (.cons .refl (.cons (wkrow hk.p) (.cons .refl (.cons .refl (.cons .refl (.cons .refl (.cons (wkrow hk.q) (.cons (wkrow hk.g) .nil))))))))))) (.cons .refl .nil))
end
end Go.Proofs.YtpmgdmbcdohgcaaDoor
/- The document's answers for layer 16: numbers in bytes, are bodies long enough, are flags flags (walks over this dump). -/
namespace Go.Proofs.YtpmgdmbcdohgcaaDoor
attribute [local irreducible] Tryd.prog
open Go.Fy
set_option linter.unusedSimpArgs false
set_option linter.unusedVariables false
/-- Do messages end just at the end? -/
def Sp.msgs (b : List UInt8) : Nat → Nat → Bool
  | 0, a => decide (a = b.length)
  | n + 1, a => if b.length ≤ a then false else Sp.msgs b n (a + 1 + Sp.fld b a 1)
theorem msgs_far (b : List UInt8) : ∀ n a, b.length < a → Sp.msgs b n a = false
  | 0, a, h => by rw [Sp.msgs, decide_eq_false_iff_not]; omega
  | n + 1, a, h => by rw [Sp.msgs, if_pos (by omega)]
theorem msgsQ_2 (b : List UInt8) : ∀ n a acc, (Sp.msgsQ b n a acc).2 = Sp.msgs b n a
  | 0, a, acc => rfl
  | n + 1, a, acc => by
    rw [Sp.msgsQ, Sp.msgs]
    by_cases h : b.length ≤ a
    · rw [if_pos h, if_pos h]
    · rw [if_neg h, if_neg h]
      by_cases h2 : b.length < a + 1 + Sp.fld b a 1
      · rw [if_pos h2, msgs_far b n _ h2]
      · rw [if_neg h2, msgsQ_2 b n]
theorem fld1 (s : List UInt8) (k : Nat) (h : k < s.length) : Sp.fld s k 1 = (s.getD k 0).toNat := by
  rw [show 1 = 0 + 1 from rfl, fld_succ s k 0 (by omega)]
  simp [Sp.fld, Sp.num]
section
variable {ea : Nat → Addr} {cds : List Nat} {gl : Nat → Option AV}
theorem c39 : APure (V ea cds gl) 39 [] true (erAV Sp.e0) := by
 refine acalls_of_body (N := 2) Tryd.func39 rfl rfl (Nat.le_of_ble_eq_true rfl) fun C hV hN hM hO => ?_
 obtain ⟨_, _, w0, G0, σ0, _, own0⟩ := C; dsimp only at hV hN hM hO; subst hV; subst hN; subst hM
 refine awp_seq (awp_region rfl ?_)
 refine sR (opr_alloc (n := 0) rfl z52) rfl rfl rfl ?_
 refine awp_seq (awp_region rfl ?_)
 refine sP (opp_build rfl z52 bld52 rfl [.int _ _, .int _ _] rfl) rfl rfl ?_
 refine sR0 (opr_store (v := .agg _) (trn := (.agg _)) rfl rfl rfl rfl bi rfl rfl rfl rfl fr2 ty52 (fun _ _ h => h)) rfl rfl rfl ?_
 refine awp_ret ?_
 repeat (first | refine athen_ret ?_ | refine ain_ret ?_)
 refine apost_ret (aend1s (r0 := .agg _) (.cell rfl rfl rfl (by exact True.intro) rfl ty52 .nil) shut rfl ⟨Wk.v ?_, rfl, rfl⟩)
 exact .refl
theorem c75 (s : List UInt8) (nn : Bool) (k w : Nat) (hw : w ≤ 4) (hk : k + w ≤ s.length) (h0 : s.length ≤ 140737488355328) : APure (V ea cds gl) 75 [.sl 1 nn s.length (bAt s), .int .i64 (k : Int), .int .i64 (w : Int)] true (.int .i64 (Sp.fld s k w : Nat)) := by
 refine acalls_of_body (N := 25) Tryd.func75 rfl rfl (Nat.le_of_ble_eq_true rfl) fun C hV hN hM hO => ?_
 obtain ⟨_, _, w0, G0, σ0, _, own0⟩ := C; dsimp only at hV hN hM hO; subst hV; subst hN; subst hM
 refine awp_seq (awp_region rfl ?_)
 refine sP (opp_as (v := .int _ _) rfl rfl) rfl rfl ?_
 refine awp_seq (awp_region rfl ?_)
 refine sP (opp_as (v := .int _ _) rfl rfl) rfl rfl ?_
 refine awp_seq (awp_seq (awp_region rfl ?_))
 refine sP (opp_as (v := .int _ _) rfl rfl) rfl rfl ?_
 refine awp_block ?_
 refine awp_loopK (ι := Nat) (fun i => i ≤ w) (fun i => [(7, .int .i64 (Sp.fld s k i : Nat)), (8, .int .i64 (i : Int)), (9, .top), (10, .top), (11, .top), (12, .top), (13, .top), (14, .top), (15, .top), (16, .top), (17, .top), (18, .top), (19, .top), (20, .top), (21, .top), (22, .top), (23, .top)]) (fun i => []) [] (fun i => w - i) (0) (Nat.zero_le _) (by
  refine imp_over [] rfl rfl (by kernel_rfl) ?_ ?_
  ·iterate 17 refine And.intro wkv ?_
   exact True.intro
  ·exact True.intro
  ) ?_
 intro i hi1
 refine awp_seq (awp_seq (awp_region rfl ?_))
 refine sP (opp_mv (v := .int _ _) rfl rfl) rfl rfl ?_
 refine sP (opp_mv (v := .int _ _) rfl rfl) rfl rfl ?_
 refine sP (opp_cmp rfl rfl rfl rfl) rfl rfl ?_
 refine awp_cond _ rfl (fun ht11 => ?_) (fun ht11 => ?_)
 ·(try simp only [cmpI, errD_nil, qa, qb, qc, qd] at ht11)
  refine awp_skip (awp_seq (awp_block ?_))
  have hf := fld_lt s k i
  have h4 : 256 ^ i ≤ 256 ^ 3 := Nat.pow_le_pow_right (by decide) (by omega)
  have hs := fld_succ s k i (by omega)
  have hby := (s.getD (k + i) 0).toNat_lt
  have hby3 : (s.getD (Int.toNat ((k : Int) + (i : Int))) 0).toNat < 256 := UInt8.toNat_lt _
  refine awp_region rfl ?_
  refine sP (opp_mv (v := .int _ _) rfl rfl) rfl rfl ?_
  refine sP (opp_arith rfl rfl rfl (.inr <| .inr <| .inl ⟨rfl, w64 (by omega)⟩)) rfl rfl ?_
  refine sP (opp_mv (v := .sl _ _ _ _) rfl rfl) rfl rfl ?_
  refine sP (opp_mv (v := .int _ _) rfl rfl) rfl rfl ?_
  refine sP (opp_mv (v := .int _ _) rfl rfl) rfl rfl ?_
  refine sP (opp_arith rfl rfl rfl (.inl ⟨rfl, w64 (by omega)⟩)) rfl rfl ?_
  refine sP (opp_indexSl rfl rfl rfl el38 (by omega) (by omega)) rfl rfl ?_
  refine sP (opp_loadF rfl rfl ty5) rfl rfl ?_
  refine sP (opp_convInt rfl rfl un5s un3 (w64 (by omega))) rfl rfl ?_
  rw [show Int.toNat ((k : Int) + (i : Int)) = k + i by omega]
  refine sP (opp_arith rfl rfl rfl (.inl ⟨rfl, w64 (by omega)⟩)) rfl rfl ?_
  refine sP (opp_as (v := .int _ _) rfl rfl) rfl rfl ?_
  refine awp_region rfl ?_
  refine sP (opp_mv (v := .int _ _) rfl rfl) rfl rfl ?_
  refine sP (opp_arith rfl rfl rfl (.inl ⟨rfl, w64 (by omega)⟩)) rfl rfl ?_
  refine sP (opp_as (v := .int _ _) rfl rfl) rfl rfl ?_
  refine Exists.intro (i + 1) (And.intro (And.intro (by (show i + 1 ≤ w; omega)) (by first | omega | (dsimp only; omega))) (by
   refine imp_over [] rfl rfl (by kernel_rfl) ?_ ?_
   ·refine And.intro (by exact Or.inr (And.intro rfl (WkV.of (by show AV.int .i64 _ = AV.int .i64 _; rw [hs]; congr 1; omega)))) ?_
    iterate 16 refine And.intro wkv ?_
    exact True.intro
   ·exact True.intro
   ))
 ·(try simp only [cmpI, errD_nil, qa, qb, qc, qd] at ht11)
  refine awp_exit (awp_seq (awp_region rfl ?_))
  refine sP (opp_mv (v := .int _ _) rfl rfl) rfl rfl ?_
  refine sP (opp_as (v := .int _ _) rfl rfl) rfl rfl ?_
  refine awp_ret ?_
  repeat (first | refine athen_ret ?_ | refine ain_ret ?_)
  refine apost_ret (aend1s (r0 := .int _ _) (.tmp .nil) shut rfl ⟨Wk.v ?_, rfl, rfl⟩)
  have hie : i = w := by omega
  subst hie; exact .refl
theorem c74 (b : List UInt8) (nn : Bool) (h0 : b.length ≤ 4294967296) : APure (V ea cds gl) 74 [.sl 1 nn b.length (bAt b)] true (.bool (Sp.portQ b).2) := by
 have hf1 := fld_lt b 1 1
 refine acalls_of_body (N := 32) Tryd.func74 rfl rfl (Nat.le_of_ble_eq_true rfl) fun C hV hN hM hO => ?_
 obtain ⟨_, _, w0, G0, σ0, _, own0⟩ := C; dsimp only at hV hN hM hO; subst hV; subst hN; subst hM
 refine awp_seq (awp_region rfl ?_)
 refine sP (opp_as (v := .bool _) rfl rfl) rfl rfl ?_
 refine awp_seq (awp_seq (awp_region rfl ?_))
 refine sP (opp_mv (v := .sl _ _ _ _) rfl rfl) rfl rfl ?_
 refine sP (opp_lenSl rfl rfl un38) rfl rfl ?_
 refine sP (opp_cmp rfl rfl rfl rfl) rfl rfl ?_
 refine awp_cond _ rfl (fun ht7 => ?_) (fun ht7 => ?_)
 ·(try simp only [cmpI, errD_nil, qa, qb, qc, qd] at ht7)
  refine awp_seq (awp_region rfl ?_)
  refine sP (opp_as (v := .bool _) rfl rfl) rfl rfl ?_
  refine awp_ret ?_
  repeat (first | refine athen_ret ?_ | refine ain_ret ?_)
  refine apost_ret (aend1s (r0 := .bool _) (.tmp .nil) shut rfl ⟨Wk.v ?_, rfl, rfl⟩)
  rw [show Sp.portQ b = (⟨[], 0⟩, false) from if_pos (by omega)]; exact .refl
 ·(try simp only [cmpI, errD_nil, qa, qb, qc, qd] at ht7)
  refine awp_skip (awp_seq ?_)
  have h2 : ¬ b.length < 2 := by omega
  rw [show (Sp.portQ b).2 = Sp.msgs b (Sp.fld b 1 1) 2 by unfold Sp.portQ; rw [if_neg h2]; exact msgsQ_2 b _ _ _]
  have hb1 := fld1 b 1 (by omega)
  refine awp_region rfl ?_
  refine sP (opp_as (v := .int _ _) rfl rfl) rfl rfl ?_
  refine awp_seq (awp_seq (awp_region rfl ?_))
  refine sP (opp_as (v := .int _ _) rfl rfl) rfl rfl ?_
  refine awp_block ?_
  refine awp_loopK (ι := Nat × Nat) (fun p => p.1 ≤ Sp.fld b 1 1 ∧ Sp.msgs b (Sp.fld b 1 1 - p.1) p.2 = Sp.msgs b (Sp.fld b 1 1) 2 ∧ p.2 ≤ b.length + 256) (fun p => [(2, .top), (3, .int .i64 (p.2 : Int)), (4, .int .i64 (p.1 : Int)), (8, .top), (9, .top), (10, .top), (11, .top), (12, .top), (13, .top), (14, .top), (15, .top), (16, .top), (17, .top), (18, .top), (19, .top), (20, .top), (21, .top), (22, .top), (23, .top), (24, .top), (25, .top), (26, .top), (27, .top)]) (fun p => []) [] (fun p => Sp.fld b 1 1 - p.1) ((0, 2)) (⟨Nat.zero_le _, rfl, by show 2 ≤ _; omega⟩) (by
   refine imp_over [] rfl rfl (by kernel_rfl) ?_ ?_
   ·iterate 23 refine And.intro wkv ?_
    exact True.intro
   ·exact True.intro
   ) ?_
  intro p hi1; obtain ⟨i, a⟩ := p; dsimp only at hi1 ⊢; obtain ⟨hi, hm, ha⟩ := hi1
  refine awp_seq (awp_seq ?_)
  have hby1 : (b.getD (Int.toNat 1) 0).toNat < 256 := (b.getD 1 0).toNat_lt
  refine awp_region rfl ?_
  refine sP (opp_mv (v := .int _ _) rfl rfl) rfl rfl ?_
  refine sP (opp_mv (v := .sl _ _ _ _) rfl rfl) rfl rfl ?_
  refine sP (opp_indexSl rfl rfl rfl el38 (by omega) (by omega)) rfl rfl ?_
  refine sP (opp_loadF rfl rfl ty5) rfl rfl ?_
  refine sP (opp_convInt rfl rfl un5s un3 (w64 (by omega))) rfl rfl ?_
  rw [show (b.getD (Int.toNat 1) 0).toNat = Sp.fld b 1 1 from hb1.symm]
  refine sP (opp_cmp rfl rfl rfl rfl) rfl rfl ?_
  refine awp_cond _ rfl (fun ht13 => ?_) (fun ht13 => ?_)
  ·(try simp only [cmpI, errD_nil, qa, qb, qc, qd] at ht13)
   refine awp_skip (awp_seq (awp_block (awp_seq (awp_seq (awp_region rfl ?_)))))
   refine sP (opp_mv (v := .int _ _) rfl rfl) rfl rfl ?_
   refine sP (opp_mv (v := .sl _ _ _ _) rfl rfl) rfl rfl ?_
   refine sP (opp_lenSl rfl rfl un38) rfl rfl ?_
   refine sP (opp_cmp rfl rfl rfl rfl) rfl rfl ?_
   refine awp_cond _ rfl (fun ht19 => ?_) (fun ht19 => ?_)
   ·(try simp only [cmpI, errD_nil, qa, qb, qc, qd] at ht19)
    refine awp_seq (awp_region rfl ?_)
    refine sP (opp_as (v := .bool _) rfl rfl) rfl rfl ?_
    refine awp_ret ?_
    repeat (first | refine athen_ret ?_ | refine ain_ret ?_)
    refine apost_ret (aend1s (r0 := .bool _) (.tmp .nil) shut rfl ⟨Wk.v ?_, rfl, rfl⟩)
    rw [show Sp.fld b 1 1 - i = (Sp.fld b 1 1 - (i + 1)) + 1 by omega, Sp.msgs, if_pos (by omega)] at hm
    rw [← hm]; exact .refl
   ·(try simp only [cmpI, errD_nil, qa, qb, qc, qd] at ht19)
    refine awp_skip ?_
    have hba := fld1 b a (by omega)
    have hfa := fld_lt b a 1
    have hby2 : (b.getD (Int.toNat (a : Int)) 0).toNat < 256 := (b.getD a 0).toNat_lt
    refine awp_region rfl ?_
    refine sP (opp_mv (v := .int _ _) rfl rfl) rfl rfl ?_
    refine sP (opp_arith rfl rfl rfl (.inl ⟨rfl, w64 (by omega)⟩)) rfl rfl ?_
    refine sP (opp_mv (v := .sl _ _ _ _) rfl rfl) rfl rfl ?_
    refine sP (opp_mv (v := .int _ _) rfl rfl) rfl rfl ?_
    refine sP (opp_indexSl rfl rfl rfl el38 (by omega) (by omega)) rfl rfl ?_
    refine sP (opp_loadF rfl rfl ty5) rfl rfl ?_
    refine sP (opp_convInt rfl rfl un5s un3 (w64 (by omega))) rfl rfl ?_
    rw [show (b.getD (Int.toNat (a : Int)) 0).toNat = Sp.fld b a 1 from hba.symm]
    refine sP (opp_arith rfl rfl rfl (.inl ⟨rfl, w64 (by omega)⟩)) rfl rfl ?_
    refine sP (opp_as (v := .int _ _) rfl rfl) rfl rfl ?_
    refine awp_region rfl ?_
    refine sP (opp_mv (v := .int _ _) rfl rfl) rfl rfl ?_
    refine sP (opp_arith rfl rfl rfl (.inl ⟨rfl, w64 (by omega)⟩)) rfl rfl ?_
    refine sP (opp_as (v := .int _ _) rfl rfl) rfl rfl ?_
    rw [show Sp.fld b 1 1 - i = (Sp.fld b 1 1 - (i + 1)) + 1 by omega, Sp.msgs, if_neg (by omega)] at hm
    refine Exists.intro ((i + 1, a + 1 + Sp.fld b a 1)) (And.intro (And.intro (⟨by show i + 1 ≤ _; omega, hm, by show a + 1 + _ ≤ _; omega⟩) (by first | omega | (dsimp only; omega))) (by
     refine imp_over [] rfl rfl (by kernel_rfl) ?_ ?_
     ·refine And.intro wkv ?_
      refine And.intro (by exact Or.inr (And.intro rfl (WkV.of (by show AV.int .i64 _ = AV.int .i64 _; congr 1)))) ?_
      iterate 21 refine And.intro wkv ?_
      exact True.intro
     ·exact True.intro
     ))
  ·(try simp only [cmpI, errD_nil, qa, qb, qc, qd] at ht13)
   refine awp_exit (awp_seq (awp_region rfl ?_))
   refine sP (opp_mv (v := .int _ _) rfl rfl) rfl rfl ?_
   refine sP (opp_mv (v := .sl _ _ _ _) rfl rfl) rfl rfl ?_
   refine sP (opp_lenSl rfl rfl un38) rfl rfl ?_
   refine sP (opp_cmp rfl rfl rfl rfl) rfl rfl ?_
   refine sP (opp_as (v := .bool _) rfl rfl) rfl rfl ?_
   refine awp_ret ?_
   repeat (first | refine athen_ret ?_ | refine ain_ret ?_)
   refine apost_ret (aend1s (r0 := .bool _) (.tmp .nil) shut rfl ⟨Wk.v ?_, rfl, rfl⟩)
   rw [show Sp.fld b 1 1 - i = 0 by omega, Sp.msgs] at hm
   rw [← hm]; exact .of (congrArg AV.bool (by show decide _ = decide _; rw [decide_eq_decide]; omega))
theorem c49 (r : Rc) (h0 : r.body.length ≤ 4294967296) : APure (V ea cds gl) 49 [rcAV r] true (.bool (Sp.long r)) := by
 obtain ⟨tag, nn, body⟩ := r
 dsimp only at h0
 unfold rcAV; dsimp only
 refine acalls_of_body (N := 33) Tryd.func49 rfl rfl (Nat.le_of_ble_eq_true rfl) fun C hV hN hM hO => ?_
 obtain ⟨_, _, w0, G0, σ0, _, own0⟩ := C; dsimp only at hV hN hM hO; subst hV; subst hN; subst hM
 refine awp_seq (awp_region rfl ?_)
 refine sR (opr_box (y := .agg _) (n := 1) rfl rfl rfl) rfl rfl rfl ?_
 refine sP (opp_as (v := .bool _) rfl rfl) rfl rfl ?_
 refine awp_seq (awp_region rfl ?_)
 refine sP (opp_fieldP rfl rfl fld94_1 rfl) rfl rfl ?_
 refine sP (opp_loadP rfl rfl rfl rfl bi rfl ty38) rfl rfl ?_
 refine sP (opp_lenSl rfl rfl un38) rfl rfl ?_
 refine sP (opp_as (v := .int _ _) rfl rfl) rfl rfl ?_
 refine awp_seq (awp_seq (awp_region rfl ?_))
 refine sP (opp_fieldP rfl rfl fld94_0 rfl) rfl rfl ?_
 refine sP (opp_loadP rfl rfl rfl rfl bi rfl ty3) rfl rfl ?_
 refine awp_block (awp_seq (awp_seq (awp_region rfl ?_)))
 refine sP (opp_cmp rfl rfl rfl rfl) rfl rfl ?_
 refine sP (opp_as (v := .bool _) rfl rfl) rfl rfl ?_
 refine awp_cond _ rfl (fun ht9 => ?_) (fun ht9 => ?_)
 ·(try simp only [cmpI, errD_nil, qa, qb, qc, qd] at ht9)
  refine awp_skip ?_
  refine awp_cond _ rfl (fun ht9 => ?_) (fun ht9 => ?_)
  ·(try simp only [cmpI, errD_nil, qa, qb, qc, qd] at ht9)
   refine awp_seq (awp_region rfl ?_)
   refine sP (opp_mv (v := .int _ _) rfl rfl) rfl rfl ?_
   refine sP (opp_cmp rfl rfl rfl rfl) rfl rfl ?_
   refine sP (opp_as (v := .bool _) rfl rfl) rfl rfl ?_
   refine awp_ret ?_
   repeat (first | refine athen_ret ?_ | refine ain_ret ?_)
   refine apost_ret (aend1s (r0 := .bool _) (.tmp .nil) shut rfl ⟨Wk.v ?_, rfl, rfl⟩)
   first | (exfalso; omega) | (refine .of (congrArg AV.bool ?_); unfold Sp.long; dsimp only; (repeat (first | rw [if_pos (by omega)] | rw [if_neg (by omega)])); all_goals first | rfl | (simp only [cmpI, decide_eq_decide]; omega) | (show decide (((body.length : Int).tmod 5) = 0) = _; rw [decide_eq_decide, Int.tmod_eq_emod_of_nonneg (by omega)]; omega))
  ·(try simp only [cmpI, errD_nil, qa, qb, qc, qd] at ht9)
   refine awp_seq (awp_region rfl ?_)
   refine sP (opp_cmp rfl rfl rfl rfl) rfl rfl ?_
   refine sP (opp_as (v := .bool _) rfl rfl) rfl rfl ?_
   refine awp_cond _ rfl (fun ht14 => ?_) (fun ht14 => ?_)
   ·(try simp only [cmpI, errD_nil, qa, qb, qc, qd] at ht14)
    refine awp_seq (awp_region rfl ?_)
    refine sP (opp_mv (v := .int _ _) rfl rfl) rfl rfl ?_
    refine sP (opp_cmp rfl rfl rfl rfl) rfl rfl ?_
    refine sP (opp_as (v := .bool _) rfl rfl) rfl rfl ?_
    refine awp_ret ?_
    repeat (first | refine athen_ret ?_ | refine ain_ret ?_)
    refine apost_ret (aend1s (r0 := .bool _) (.tmp .nil) shut rfl ⟨Wk.v ?_, rfl, rfl⟩)
    first | (exfalso; omega) | (refine .of (congrArg AV.bool ?_); unfold Sp.long; dsimp only; (repeat (first | rw [if_pos (by omega)] | rw [if_neg (by omega)])); all_goals first | rfl | (simp only [cmpI, decide_eq_decide]; omega) | (show decide (((body.length : Int).tmod 5) = 0) = _; rw [decide_eq_decide, Int.tmod_eq_emod_of_nonneg (by omega)]; omega))
   ·(try simp only [cmpI, errD_nil, qa, qb, qc, qd] at ht14)
    refine awp_seq (awp_region rfl ?_)
    refine sP (opp_cmp rfl rfl rfl rfl) rfl rfl ?_
    refine sP (opp_as (v := .bool _) rfl rfl) rfl rfl ?_
    refine awp_cond _ rfl (fun ht18 => ?_) (fun ht18 => ?_)
    ·(try simp only [cmpI, errD_nil, qa, qb, qc, qd] at ht18)
     refine awp_seq (awp_region rfl ?_)
     refine sP (opp_mv (v := .int _ _) rfl rfl) rfl rfl ?_
     refine sP (opp_arith rfl rfl rfl (.inr <| .inr <| .inr <| .inr <| .inl ⟨rfl, by omega, rfl⟩)) rfl rfl ?_
     refine sP (opp_cmp rfl rfl rfl rfl) rfl rfl ?_
     refine sP (opp_as (v := .bool _) rfl rfl) rfl rfl ?_
     refine awp_ret ?_
     repeat (first | refine athen_ret ?_ | refine ain_ret ?_)
     refine apost_ret (aend1s (r0 := .bool _) (.tmp .nil) shut rfl ⟨Wk.v ?_, rfl, rfl⟩)
     first | (exfalso; omega) | (refine .of (congrArg AV.bool ?_); unfold Sp.long; dsimp only; (repeat (first | rw [if_pos (by omega)] | rw [if_neg (by omega)])); all_goals first | rfl | (simp only [cmpI, decide_eq_decide]; omega) | (show decide (((body.length : Int).tmod 5) = 0) = _; rw [decide_eq_decide, Int.tmod_eq_emod_of_nonneg (by omega)]; omega))
    ·(try simp only [cmpI, errD_nil, qa, qb, qc, qd] at ht18)
     refine awp_seq (awp_region rfl ?_)
     refine sP (opp_cmp rfl rfl rfl rfl) rfl rfl ?_
     refine sP (opp_as (v := .bool _) rfl rfl) rfl rfl ?_
     refine awp_cond _ rfl (fun ht23 => ?_) (fun ht23 => ?_)
     ·(try simp only [cmpI, errD_nil, qa, qb, qc, qd] at ht23)
      refine awp_seq (awp_region rfl ?_)
      refine sP (opp_fieldP rfl rfl fld94_1 rfl) rfl rfl ?_
      refine sP (opp_loadP rfl rfl rfl rfl bi rfl ty38) rfl rfl ?_
      refine sR (opr_call rfl rfl ent74 rfl (c74 body nn h0) (AViews.refl _ rfl)) rfl rfl rfl ?_ -- d=27 t=4 a=26
      refine sP (opp_as (v := .bool _) rfl rfl) rfl rfl ?_
      refine awp_ret ?_
      repeat (first | refine athen_ret ?_ | refine ain_ret ?_)
      refine apost_ret (aend1s (r0 := .bool _) (.tmp .nil) shut rfl ⟨Wk.v ?_, rfl, rfl⟩)
      first | (exfalso; omega) | (refine .of (congrArg AV.bool ?_); unfold Sp.long; dsimp only; (repeat (first | rw [if_pos (by omega)] | rw [if_neg (by omega)])); all_goals first | rfl | (simp only [cmpI, decide_eq_decide]; omega) | (show decide (((body.length : Int).tmod 5) = 0) = _; rw [decide_eq_decide, Int.tmod_eq_emod_of_nonneg (by omega)]; omega))
     ·(try simp only [cmpI, errD_nil, qa, qb, qc, qd] at ht23)
      refine awp_seq (awp_seq (awp_region rfl ?_))
      refine sP (opp_cmp rfl rfl rfl rfl) rfl rfl ?_
      refine sP (opp_as (v := .bool _) rfl rfl) rfl rfl ?_
      refine awp_cond _ rfl (fun ht28 => ?_) (fun ht28 => ?_)
      ·(try simp only [cmpI, errD_nil, qa, qb, qc, qd] at ht28)
       refine awp_skip ?_
       refine awp_cond _ rfl (fun ht28 => ?_) (fun ht28 => ?_)
       ·(try simp only [cmpI, errD_nil, qa, qb, qc, qd] at ht28)
        refine awp_seq (awp_region rfl ?_)
        refine sP (opp_mv (v := .int _ _) rfl rfl) rfl rfl ?_
        refine sP (opp_cmp rfl rfl rfl rfl) rfl rfl ?_
        refine sP (opp_as (v := .bool _) rfl rfl) rfl rfl ?_
        refine awp_ret ?_
        repeat (first | refine athen_ret ?_ | refine ain_ret ?_)
        refine apost_ret (aend1s (r0 := .bool _) (.tmp .nil) shut rfl ⟨Wk.v ?_, rfl, rfl⟩)
        first | (exfalso; omega) | (refine .of (congrArg AV.bool ?_); unfold Sp.long; dsimp only; (repeat (first | rw [if_pos (by omega)] | rw [if_neg (by omega)])); all_goals first | rfl | (simp only [cmpI, decide_eq_decide]; omega) | (show decide (((body.length : Int).tmod 5) = 0) = _; rw [decide_eq_decide, Int.tmod_eq_emod_of_nonneg (by omega)]; omega))
       ·(try simp only [cmpI, errD_nil, qa, qb, qc, qd] at ht28)
        refine awp_skip (awp_seq (awp_region rfl ?_))
        refine sP (opp_as (v := .bool _) rfl rfl) rfl rfl ?_
        refine awp_ret ?_
        repeat (first | refine athen_ret ?_ | refine ain_ret ?_)
        refine apost_ret (aend1s (r0 := .bool _) (.tmp .nil) shut rfl ⟨Wk.v ?_, rfl, rfl⟩)
        first | (exfalso; omega) | (refine .of (congrArg AV.bool ?_); unfold Sp.long; dsimp only; (repeat (first | rw [if_pos (by omega)] | rw [if_neg (by omega)])); all_goals first | rfl | (simp only [cmpI, decide_eq_decide]; omega) | (show decide (((body.length : Int).tmod 5) = 0) = _; rw [decide_eq_decide, Int.tmod_eq_emod_of_nonneg (by omega)]; omega))
      ·(try simp only [cmpI, errD_nil, qa, qb, qc, qd] at ht28)
       refine awp_region rfl ?_
       refine sP (opp_cmp rfl rfl rfl rfl) rfl rfl ?_
       refine sP (opp_as (v := .bool _) rfl rfl) rfl rfl ?_
       refine awp_cond _ rfl (fun ht28 => ?_) (fun ht28 => ?_)
       ·(try simp only [cmpI, errD_nil, qa, qb, qc, qd] at ht28)
        refine awp_seq (awp_region rfl ?_)
        refine sP (opp_mv (v := .int _ _) rfl rfl) rfl rfl ?_
        refine sP (opp_cmp rfl rfl rfl rfl) rfl rfl ?_
        refine sP (opp_as (v := .bool _) rfl rfl) rfl rfl ?_
        refine awp_ret ?_
        repeat (first | refine athen_ret ?_ | refine ain_ret ?_)
        refine apost_ret (aend1s (r0 := .bool _) (.tmp .nil) shut rfl ⟨Wk.v ?_, rfl, rfl⟩)
        first | (exfalso; omega) | (refine .of (congrArg AV.bool ?_); unfold Sp.long; dsimp only; (repeat (first | rw [if_pos (by omega)] | rw [if_neg (by omega)])); all_goals first | rfl | (simp only [cmpI, decide_eq_decide]; omega) | (show decide (((body.length : Int).tmod 5) = 0) = _; rw [decide_eq_decide, Int.tmod_eq_emod_of_nonneg (by omega)]; omega))
       ·(try simp only [cmpI, errD_nil, qa, qb, qc, qd] at ht28)
        refine awp_skip (awp_seq (awp_region rfl ?_))
        refine sP (opp_as (v := .bool _) rfl rfl) rfl rfl ?_
        refine awp_ret ?_
        repeat (first | refine athen_ret ?_ | refine ain_ret ?_)
        refine apost_ret (aend1s (r0 := .bool _) (.tmp .nil) shut rfl ⟨Wk.v ?_, rfl, rfl⟩)
        first | (exfalso; omega) | (refine .of (congrArg AV.bool ?_); unfold Sp.long; dsimp only; (repeat (first | rw [if_pos (by omega)] | rw [if_neg (by omega)])); all_goals first | rfl | (simp only [cmpI, decide_eq_decide]; omega) | (show decide (((body.length : Int).tmod 5) = 0) = _; rw [decide_eq_decide, Int.tmod_eq_emod_of_nonneg (by omega)]; omega))
 ·(try simp only [cmpI, errD_nil, qa, qb, qc, qd] at ht9)
  refine awp_region rfl ?_
  refine sP (opp_cmp rfl rfl rfl rfl) rfl rfl ?_
  refine sP (opp_as (v := .bool _) rfl rfl) rfl rfl ?_
  refine awp_cond _ rfl (fun ht9 => ?_) (fun ht9 => ?_)
  ·(try simp only [cmpI, errD_nil, qa, qb, qc, qd] at ht9)
   refine awp_seq (awp_region rfl ?_)
   refine sP (opp_mv (v := .int _ _) rfl rfl) rfl rfl ?_
   refine sP (opp_cmp rfl rfl rfl rfl) rfl rfl ?_
   refine sP (opp_as (v := .bool _) rfl rfl) rfl rfl ?_
   refine awp_ret ?_
   repeat (first | refine athen_ret ?_ | refine ain_ret ?_)
   refine apost_ret (aend1s (r0 := .bool _) (.tmp .nil) shut rfl ⟨Wk.v ?_, rfl, rfl⟩)
   first | (exfalso; omega) | (refine .of (congrArg AV.bool ?_); unfold Sp.long; dsimp only; (repeat (first | rw [if_pos (by omega)] | rw [if_neg (by omega)])); all_goals first | rfl | (simp only [cmpI, decide_eq_decide]; omega) | (show decide (((body.length : Int).tmod 5) = 0) = _; rw [decide_eq_decide, Int.tmod_eq_emod_of_nonneg (by omega)]; omega))
  ·(try simp only [cmpI, errD_nil, qa, qb, qc, qd] at ht9)
   refine awp_seq (awp_region rfl ?_)
   refine sP (opp_cmp rfl rfl rfl rfl) rfl rfl ?_
   refine sP (opp_as (v := .bool _) rfl rfl) rfl rfl ?_
   refine awp_cond _ rfl (fun ht14 => ?_) (fun ht14 => ?_)
   ·(try simp only [cmpI, errD_nil, qa, qb, qc, qd] at ht14)
    refine awp_seq (awp_region rfl ?_)
    refine sP (opp_mv (v := .int _ _) rfl rfl) rfl rfl ?_
    refine sP (opp_cmp rfl rfl rfl rfl) rfl rfl ?_
    refine sP (opp_as (v := .bool _) rfl rfl) rfl rfl ?_
    refine awp_ret ?_
    repeat (first | refine athen_ret ?_ | refine ain_ret ?_)
    refine apost_ret (aend1s (r0 := .bool _) (.tmp .nil) shut rfl ⟨Wk.v ?_, rfl, rfl⟩)
    first | (exfalso; omega) | (refine .of (congrArg AV.bool ?_); unfold Sp.long; dsimp only; (repeat (first | rw [if_pos (by omega)] | rw [if_neg (by omega)])); all_goals first | rfl | (simp only [cmpI, decide_eq_decide]; omega) | (show decide (((body.length : Int).tmod 5) = 0) = _; rw [decide_eq_decide, Int.tmod_eq_emod_of_nonneg (by omega)]; omega))
   ·(try simp only [cmpI, errD_nil, qa, qb, qc, qd] at ht14)
    refine awp_seq (awp_region rfl ?_)
    refine sP (opp_cmp rfl rfl rfl rfl) rfl rfl ?_
    refine sP (opp_as (v := .bool _) rfl rfl) rfl rfl ?_
    refine awp_cond _ rfl (fun ht18 => ?_) (fun ht18 => ?_)
    ·(try simp only [cmpI, errD_nil, qa, qb, qc, qd] at ht18)
     refine awp_seq (awp_region rfl ?_)
     refine sP (opp_mv (v := .int _ _) rfl rfl) rfl rfl ?_
     refine sP (opp_arith rfl rfl rfl (.inr <| .inr <| .inr <| .inr <| .inl ⟨rfl, by omega, rfl⟩)) rfl rfl ?_
     refine sP (opp_cmp rfl rfl rfl rfl) rfl rfl ?_
     refine sP (opp_as (v := .bool _) rfl rfl) rfl rfl ?_
     refine awp_ret ?_
     repeat (first | refine athen_ret ?_ | refine ain_ret ?_)
     refine apost_ret (aend1s (r0 := .bool _) (.tmp .nil) shut rfl ⟨Wk.v ?_, rfl, rfl⟩)
     first | (exfalso; omega) | (refine .of (congrArg AV.bool ?_); unfold Sp.long; dsimp only; (repeat (first | rw [if_pos (by omega)] | rw [if_neg (by omega)])); all_goals first | rfl | (simp only [cmpI, decide_eq_decide]; omega) | (show decide (((body.length : Int).tmod 5) = 0) = _; rw [decide_eq_decide, Int.tmod_eq_emod_of_nonneg (by omega)]; omega))
    ·(try simp only [cmpI, errD_nil, qa, qb, qc, qd] at ht18)
     refine awp_seq (awp_region rfl ?_)
     refine sP (opp_cmp rfl rfl rfl rfl) rfl rfl ?_
     refine sP (opp_as (v := .bool _) rfl rfl) rfl rfl ?_
     refine awp_cond _ rfl (fun ht23 => ?_) (fun ht23 => ?_)
     ·(try simp only [cmpI, errD_nil, qa, qb, qc, qd] at ht23)
      refine awp_seq (awp_region rfl ?_)
      refine sP (opp_fieldP rfl rfl fld94_1 rfl) rfl rfl ?_
      refine sP (opp_loadP rfl rfl rfl rfl bi rfl ty38) rfl rfl ?_
      refine sR (opr_call rfl rfl ent74 rfl (c74 body nn h0) (AViews.refl _ rfl)) rfl rfl rfl ?_ -- d=27 t=4 a=26
      refine sP (opp_as (v := .bool _) rfl rfl) rfl rfl ?_
      refine awp_ret ?_
      repeat (first | refine athen_ret ?_ | refine ain_ret ?_)
      refine apost_ret (aend1s (r0 := .bool _) (.tmp .nil) shut rfl ⟨Wk.v ?_, rfl, rfl⟩)
      first | (exfalso; omega) | (refine .of (congrArg AV.bool ?_); unfold Sp.long; dsimp only; (repeat (first | rw [if_pos (by omega)] | rw [if_neg (by omega)])); all_goals first | rfl | (simp only [cmpI, decide_eq_decide]; omega) | (show decide (((body.length : Int).tmod 5) = 0) = _; rw [decide_eq_decide, Int.tmod_eq_emod_of_nonneg (by omega)]; omega))
     ·(try simp only [cmpI, errD_nil, qa, qb, qc, qd] at ht23)
      refine awp_seq (awp_seq (awp_region rfl ?_))
      refine sP (opp_cmp rfl rfl rfl rfl) rfl rfl ?_
      refine sP (opp_as (v := .bool _) rfl rfl) rfl rfl ?_
      refine awp_cond _ rfl (fun ht28 => ?_) (fun ht28 => ?_)
      ·(try simp only [cmpI, errD_nil, qa, qb, qc, qd] at ht28)
       refine awp_skip ?_
       refine awp_cond _ rfl (fun ht28 => ?_) (fun ht28 => ?_)
       ·(try simp only [cmpI, errD_nil, qa, qb, qc, qd] at ht28)
        refine awp_seq (awp_region rfl ?_)
        refine sP (opp_mv (v := .int _ _) rfl rfl) rfl rfl ?_
        refine sP (opp_cmp rfl rfl rfl rfl) rfl rfl ?_
        refine sP (opp_as (v := .bool _) rfl rfl) rfl rfl ?_
        refine awp_ret ?_
        repeat (first | refine athen_ret ?_ | refine ain_ret ?_)
        refine apost_ret (aend1s (r0 := .bool _) (.tmp .nil) shut rfl ⟨Wk.v ?_, rfl, rfl⟩)
        first | (exfalso; omega) | (refine .of (congrArg AV.bool ?_); unfold Sp.long; dsimp only; (repeat (first | rw [if_pos (by omega)] | rw [if_neg (by omega)])); all_goals first | rfl | (simp only [cmpI, decide_eq_decide]; omega) | (show decide (((body.length : Int).tmod 5) = 0) = _; rw [decide_eq_decide, Int.tmod_eq_emod_of_nonneg (by omega)]; omega))
       ·(try simp only [cmpI, errD_nil, qa, qb, qc, qd] at ht28)
        refine awp_skip (awp_seq (awp_region rfl ?_))
        refine sP (opp_as (v := .bool _) rfl rfl) rfl rfl ?_
        refine awp_ret ?_
        repeat (first | refine athen_ret ?_ | refine ain_ret ?_)
        refine apost_ret (aend1s (r0 := .bool _) (.tmp .nil) shut rfl ⟨Wk.v ?_, rfl, rfl⟩)
        first | (exfalso; omega) | (refine .of (congrArg AV.bool ?_); unfold Sp.long; dsimp only; (repeat (first | rw [if_pos (by omega)] | rw [if_neg (by omega)])); all_goals first | rfl | (simp only [cmpI, decide_eq_decide]; omega) | (show decide (((body.length : Int).tmod 5) = 0) = _; rw [decide_eq_decide, Int.tmod_eq_emod_of_nonneg (by omega)]; omega))
      ·(try simp only [cmpI, errD_nil, qa, qb, qc, qd] at ht28)
       refine awp_region rfl ?_
       refine sP (opp_cmp rfl rfl rfl rfl) rfl rfl ?_
       refine sP (opp_as (v := .bool _) rfl rfl) rfl rfl ?_
       refine awp_cond _ rfl (fun ht28 => ?_) (fun ht28 => ?_)
       ·(try simp only [cmpI, errD_nil, qa, qb, qc, qd] at ht28)
        refine awp_seq (awp_region rfl ?_)
        refine sP (opp_mv (v := .int _ _) rfl rfl) rfl rfl ?_
        refine sP (opp_cmp rfl rfl rfl rfl) rfl rfl ?_
        refine sP (opp_as (v := .bool _) rfl rfl) rfl rfl ?_
        refine awp_ret ?_
        repeat (first | refine athen_ret ?_ | refine ain_ret ?_)
        refine apost_ret (aend1s (r0 := .bool _) (.tmp .nil) shut rfl ⟨Wk.v ?_, rfl, rfl⟩)
        first | (exfalso; omega) | (refine .of (congrArg AV.bool ?_); unfold Sp.long; dsimp only; (repeat (first | rw [if_pos (by omega)] | rw [if_neg (by omega)])); all_goals first | rfl | (simp only [cmpI, decide_eq_decide]; omega) | (show decide (((body.length : Int).tmod 5) = 0) = _; rw [decide_eq_decide, Int.tmod_eq_emod_of_nonneg (by omega)]; omega))
       ·(try simp only [cmpI, errD_nil, qa, qb, qc, qd] at ht28)
        refine awp_skip (awp_seq (awp_region rfl ?_))
        refine sP (opp_as (v := .bool _) rfl rfl) rfl rfl ?_
        refine awp_ret ?_
        repeat (first | refine athen_ret ?_ | refine ain_ret ?_)
        refine apost_ret (aend1s (r0 := .bool _) (.tmp .nil) shut rfl ⟨Wk.v ?_, rfl, rfl⟩)
        first | (exfalso; omega) | (refine .of (congrArg AV.bool ?_); unfold Sp.long; dsimp only; (repeat (first | rw [if_pos (by omega)] | rw [if_neg (by omega)])); all_goals first | rfl | (simp only [cmpI, decide_eq_decide]; omega) | (show decide (((body.length : Int).tmod 5) = 0) = _; rw [decide_eq_decide, Int.tmod_eq_emod_of_nonneg (by omega)]; omega))
theorem c50 (r : Rc) (h0 : r.body.length ≤ 4294967296) (h9 : r.tag = 9 → 1 ≤ r.body.length) : APure (V ea cds gl) 50 [rcAV r] true (.bool (Sp.flags r)) := by
 obtain ⟨tag, nn, body⟩ := r
 dsimp only at h0 h9
 unfold rcAV; dsimp only
 refine acalls_of_body (N := 30) Tryd.func50 rfl rfl (Nat.le_of_ble_eq_true rfl) fun C hV hN hM hO => ?_
 obtain ⟨_, _, w0, G0, σ0, _, own0⟩ := C; dsimp only at hV hN hM hO; subst hV; subst hN; subst hM
 refine awp_seq (awp_region rfl ?_)
 refine sR (opr_box (y := .agg _) (n := 1) rfl rfl rfl) rfl rfl rfl ?_
 refine sP (opp_as (v := .bool _) rfl rfl) rfl rfl ?_
 refine awp_seq (awp_seq (awp_region rfl ?_))
 refine sP (opp_fieldP rfl rfl fld94_0 rfl) rfl rfl ?_
 refine sP (opp_loadP rfl rfl rfl rfl bi rfl ty3) rfl rfl ?_
 refine sP (opp_cmp rfl rfl rfl rfl) rfl rfl ?_
 refine awp_cond _ rfl (fun ht6 => ?_) (fun ht6 => ?_)
 ·(try simp only [cmpI, errD_nil, qa, qb, qc, qd] at ht6)
  refine awp_seq ?_
  have h91 := h9 (by omega)
  refine awp_region rfl ?_
  refine sP (opp_fieldP rfl rfl fld94_1 rfl) rfl rfl ?_
  refine sP (opp_loadP rfl rfl rfl rfl bi rfl ty38) rfl rfl ?_
  refine sP (opp_indexSl rfl rfl rfl el38 (by omega) (by omega)) rfl rfl ?_
  refine sP (opp_loadF rfl rfl ty5) rfl rfl ?_
  refine sP (opp_cmp rfl rfl rfl rfl) rfl rfl ?_
  refine sP (opp_as (v := .bool _) rfl rfl) rfl rfl ?_
  refine awp_ret ?_
  repeat (first | refine athen_ret ?_ | refine ain_ret ?_)
  refine apost_ret (aend1s (r0 := .bool _) (.tmp .nil) shut rfl ⟨Wk.v ?_, rfl, rfl⟩)
  rw [show Sp.flags ⟨tag, nn, body⟩ = decide ((body.getD 0 0).toNat ≤ 1) from if_pos (by omega)]; exact .of (congrArg AV.bool (by show decide (((body.getD 0 0).toNat : Int) < 2) = _; rw [decide_eq_decide]; omega))
 ·(try simp only [cmpI, errD_nil, qa, qb, qc, qd] at ht6)
  refine awp_skip (awp_seq (awp_seq (awp_region rfl ?_)))
  refine sP (opp_as (v := .int _ _) rfl rfl) rfl rfl ?_
  refine awp_block ?_
  refine awp_loopK (ι := Nat) (fun i => i ≤ body.length ∧ ∀ j, j < i → (body.getD j 0).toNat ≤ 1) (fun i => [(2, .top), (3, .int .i64 (i : Int)), (12, .top), (13, .top), (14, .top), (15, .top), (16, .top), (17, .top), (18, .top), (19, .top), (20, .top), (21, .top), (22, .top), (23, .top), (24, .top), (25, .top), (26, .top), (27, .top), (28, .top), (29, .top)]) (fun i => []) [] (fun i => body.length - i) (0) (⟨Nat.zero_le _, fun j hj => absurd hj (Nat.not_lt_zero j)⟩) (by
   refine imp_over [] rfl rfl (by kernel_rfl) ?_ ?_
   ·iterate 20 refine And.intro wkv ?_
    exact True.intro
   ·exact True.intro
   ) ?_
  intro i hi1
  refine awp_seq (awp_seq (awp_region rfl ?_))
  refine sP (opp_fieldP rfl rfl fld94_0 rfl) rfl rfl ?_
  refine sP (opp_loadP rfl rfl rfl rfl bi rfl ty3) rfl rfl ?_
  refine sP (opp_cmp rfl rfl rfl rfl) rfl rfl ?_
  refine sP (opp_mv (v := .bool _) rfl rfl) rfl rfl ?_
  refine sG _ rfl rfl rfl rfl (fun hg => (And.intro gi (True.intro))) (fun hg => opp_mv (v := .int _ _) rfl rfl) ?_
  refine sG _ rfl rfl rfl rfl (fun hg => (And.intro gi (True.intro))) (fun hg => opp_fieldP rfl rfl fld94_1 rfl) ?_
  refine sG _ rfl rfl rfl rfl (fun hg => (And.intro gi (True.intro))) (fun hg => opp_loadP rfl rfl rfl rfl bi rfl ty38) ?_
  refine sG _ rfl rfl rfl rfl (fun hg => (And.intro gi (True.intro))) (fun hg => opp_lenSl rfl rfl un38) ?_
  refine sG _ rfl rfl rfl rfl (fun hg => (And.intro gi (And.intro gi (True.intro)))) (fun hg => opp_cmp rfl rfl rfl rfl) ?_
  refine sPick rfl rfl rfl rfl (by exact True.intro) rfl rfl (fun hg => gi) (fun hg => gi) ?_
  refine awp_cond _ rfl (fun ht21 => ?_) (fun ht21 => ?_)
  ·(try simp only [cmpI, errD_nil, qa, qb, qc, qd] at ht21)
   refine awp_skip (awp_seq (awp_block (awp_seq ?_)))
   have h6 : tag = 6 ∧ i < body.length := by cases h : decide (tag = 6) <;> simp [h] at ht21; exact ⟨by simpa using h, by omega⟩
   refine awp_region rfl ?_
   refine sP (opp_fieldP rfl rfl fld94_1 rfl) rfl rfl ?_
   refine sP (opp_loadP rfl rfl rfl rfl bi rfl ty38) rfl rfl ?_
   refine sP (opp_mv (v := .int _ _) rfl rfl) rfl rfl ?_
   refine sP (opp_indexSl rfl rfl rfl el38 (by omega) (by omega)) rfl rfl ?_
   refine sP (opp_loadF rfl rfl ty5) rfl rfl ?_
   refine sP (opp_cmp rfl rfl rfl rfl) rfl rfl ?_
   refine awp_cond _ rfl (fun ht29 => ?_) (fun ht29 => ?_)
   ·(try simp only [cmpI, errD_nil, qa, qb, qc, qd] at ht29)
    refine awp_seq (awp_region rfl ?_)
    refine sP (opp_as (v := .bool _) rfl rfl) rfl rfl ?_
    refine awp_ret ?_
    repeat (first | refine athen_ret ?_ | refine ain_ret ?_)
    refine apost_ret (aend1s (r0 := .bool _) (.tmp .nil) shut rfl ⟨Wk.v ?_, rfl, rfl⟩)
    have h8 : 1 < (body.getD i 0).toNat := by have h7 := ht29; rw [show ((i : Nat) : Int).toNat = i by simp] at h7; omega
    rw [show Sp.flags ⟨tag, nn, body⟩ = false by unfold Sp.flags; rw [if_neg (by show ¬ tag = 9; omega), if_pos h6.1]; exact all_not _ _ i h6.2 (by simp only [decide_eq_false_iff_not]; omega)]; exact .refl
   ·(try simp only [cmpI, errD_nil, qa, qb, qc, qd] at ht29)
    refine awp_skip (awp_region rfl ?_)
    refine sP (opp_mv (v := .int _ _) rfl rfl) rfl rfl ?_
    refine sP (opp_arith rfl rfl rfl (.inl ⟨rfl, w64 (by omega)⟩)) rfl rfl ?_
    refine sP (opp_as (v := .int _ _) rfl rfl) rfl rfl ?_
    have h8 : (body.getD i 0).toNat ≤ 1 := by have h7 := ht29; rw [show ((i : Nat) : Int).toNat = i by simp] at h7; omega
    refine Exists.intro (i + 1) (And.intro (And.intro (⟨by show i + 1 ≤ _; omega, fun j hj => by rcases Nat.lt_succ_iff_lt_or_eq.1 hj with h | h; exact hi1.2 j h; rw [h]; exact h8⟩) (by first | omega | (dsimp only; omega))) (by
     refine imp_over [] rfl rfl (by kernel_rfl) ?_ ?_
     ·iterate 20 refine And.intro wkv ?_
      exact True.intro
     ·exact True.intro
     ))
  ·(try simp only [cmpI, errD_nil, qa, qb, qc, qd] at ht21)
   refine awp_exit (awp_seq (awp_region rfl ?_))
   refine sP (opp_as (v := .bool _) rfl rfl) rfl rfl ?_
   refine awp_ret ?_
   repeat (first | refine athen_ret ?_ | refine ain_ret ?_)
   refine apost_ret (aend1s (r0 := .bool _) (.tmp .nil) shut rfl ⟨Wk.v ?_, rfl, rfl⟩)
   have h6 : tag ≠ 6 ∨ body.length ≤ i := by cases h : decide (tag = 6) <;> simp [h] at ht21; exact .inl (by simpa using h); exact .inr (by omega)
   rw [show Sp.flags ⟨tag, nn, body⟩ = true by unfold Sp.flags; rw [if_neg (by show ¬ tag = 9; omega)]; by_cases ht : tag = 6; rw [if_pos ht]; exact all_take _ _ (fun j hj => by simp only [decide_eq_true_eq]; exact hi1.2 j (by show j < i; have hj2 : j < body.length := hj; omega)); rw [if_neg ht]]; exact .refl
end
end Go.Proofs.YtpmgdmbcdohgcaaDoor
