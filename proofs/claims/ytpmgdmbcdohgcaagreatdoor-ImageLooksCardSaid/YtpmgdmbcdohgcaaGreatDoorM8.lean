/- My own texts, packed: L19x, FyA5, FyA6, L20x, L21x, L22x, L23x, L24x, L25x, L26x, S20, L27x, FyA7, L28x, KYx, KZx, L5x, L30x. -/
import Derived.Test.YtpmgdmbcdohgcaaGreatDoorM7
import Derived.Test.YtpmgdmbcdohgcaaGreatDoorM6
import Derived.Test.YtpmgdmbcdohgcaaGreatDoorM2
/- Layer 16: a process out of bytes (walks over this dump). -/
namespace Go.Proofs.YtpmgdmbcdohgcaaGreatDoor
attribute [local irreducible] Tryz.prog
open Go.Fy
set_option linter.unusedSimpArgs false
set_option linter.unusedVariables false
def regAt (b : List UInt8) (i j : Nat) : AV := .int .u32 ((if j ≤ i then (Sp.proc b).regs.getD j 0 else 0 : Nat) : Int)
def upTo (k q n : Nat) : AV := .int .i64 ((bif Nat.blt q k then n else 0 : Nat) : Int)
theorem regs_get (b : List UInt8) (i : Nat) (h : i < 15) : (Sp.proc b).regs.getD (i + 1) 0 = Sp.fld b (4 * i) 4 := by
  simp [Sp.proc, List.getD_eq_getElem?_getD, h]
theorem regAt_next (b : List UInt8) (i j : Nat) (h : i < 15) : (if j = ((i : Int) + 1).toNat then AV.int .u32 (Sp.fld b (4 * i) 4 : Nat) else regAt b i j) = regAt b (i + 1) j := by
  rw [show ((i : Int) + 1).toNat = i + 1 by omega]
  by_cases h1 : j = i + 1
  · subst h1; rw [if_pos rfl]; unfold regAt; rw [if_pos (Nat.le_refl _), regs_get b i h]
  · rw [if_neg h1]; unfold regAt
    by_cases h2 : j ≤ i
    · rw [if_pos h2, if_pos (by omega)]
    · rw [if_neg h2, if_neg (by omega)]
section
variable {ea : Nat → Addr} {cds : List Nat} {gl : Nat → Option AV}
theorem c177 (b : List UInt8) (h0 : b.length = 68) : APure (V ea cds gl) 177 [.sl 1 false b.length (bAt b)] false (prAV (Sp.proc b)) := by
 refine acalls_of_body (N := 55) Tryz.func177 rfl rfl (Nat.le_of_ble_eq_true rfl) fun C hV hN hM hO => ?_
 obtain ⟨_, _, w0, G0, σ0, _, own0⟩ := C; dsimp only at hV hN hM hO; subst hV; subst hN; subst hM
 refine awp_seq (awp_region rfl ?_)
 refine sR (opr_alloc (n := 2) rfl z131) rfl rfl rfl ?_
 refine awp_seq (awp_region rfl ?_)
 refine sP (opp_mv (v := .sl _ _ _ _) rfl rfl) rfl rfl ?_
 refine sR (opr_callO (rl := [(8, 13)]) (r1 := .ptr _ _ _) (H1 := [(13, some (.agg [.sl _ _ _ _, .int _ _, .int _ _]))]) (n1 := [13]) rfl rfl ent52 rfl (co52 b (by omega)) (AViews.refl _ rfl) rfl rfl rfl rfl) rfl rfl rfl ?_
 refine sP (opp_as (v := .ptr _ _ _) rfl rfl) rfl rfl ?_
 refine awp_seq (awp_region rfl ?_)
 refine sR (opr_alloc (n := 4) rfl z131) rfl rfl rfl ?_
 refine awp_seq (awp_seq (awp_region rfl ?_))
 refine sP (opp_as (v := .int _ _) rfl rfl) rfl rfl ?_
 refine awp_block ?_
 refine awp_loopK (ι := Nat) (fun i => i ≤ 15) (fun i => [(5, .int .i64 ((i : Int) + 1)), (6, .top), (7, .top), (14, .top), (15, .top), (16, .top), (17, .top), (18, .top), (19, .top), (20, .top), (21, .top), (22, .top), (23, .top), (24, .top), (25, .top), (26, .top), (27, .top)]) (fun i => [(13, some (.agg [.sl 1 false b.length (bAt b), .int .i64 ((4 * i : Nat) : Int), .int .i64 (b.length : Int)])), (4, some (.agg [.arr 1 16 (regAt b i), .int .u32 0, .int .i64 0, .int .i64 0, .int .i64 0, .int .i64 0]))]) [] (fun i => 15 - i) (0) (Nat.zero_le _) (by
  refine imp_over [] rfl rfl (by kernel_rfl) ?_ ?_
  ·iterate 17 refine And.intro wkv ?_
   exact True.intro
  ·refine And.intro (And.intro rfl (And.intro rfl (Exists.intro _ (And.intro rfl wkc)))) ?_
   refine And.intro (And.intro rfl (And.intro rfl (Exists.intro _ (And.intro rfl (by exact Wk.c (Wk.agg (.cons (.arr (fun j hj => by unfold regAt; by_cases h : j ≤ 0; rw [if_pos h, show j = 0 by omega]; rfl; rw [if_neg h]; rfl)) (.cons .refl (.cons .refl (.cons .refl (.cons .refl (.cons .refl .nil)))))))))))) ?_
   exact True.intro
  ) ?_
 intro i hi1
 refine awp_seq (awp_seq (awp_region rfl ?_))
 refine sP (opp_mv (v := .int _ _) rfl rfl) rfl rfl ?_
 refine sP (opp_cmp rfl rfl rfl rfl) rfl rfl ?_
 refine awp_cond _ rfl (fun ht15 => ?_) (fun ht15 => ?_)
 ·(try simp only [cmpI, errD_nil, qa, qb, qc, qd] at ht15)
  refine awp_skip (awp_seq (awp_block (awp_seq (awp_region rfl ?_))))
  refine sP (opp_mv (v := .ptr _ _ _) rfl rfl) rfl rfl ?_
  refine sR (opr_callG (rl := [(1, 13)]) (r1 := .tup [.int _ _, .err _]) (H1 := [(13, some (.agg [.sl _ _ _ _, .int _ _, .int _ _]))]) (n1 := []) rfl rfl ent54 (cg54c b false (4 * i) b.length (by omega) (by omega) (by omega)) (And.intro (And.intro rfl wka) True.intro) (And.intro (And.intro rfl (Exists.intro _ (And.intro rfl wkc))) True.intro) rfl rfl rfl rfl) rfl rfl rfl ?_
  refine sP (opp_mv (v := .tup _) rfl rfl) rfl rfl ?_
  refine sP (opp_extract rfl rfl rfl) rfl rfl ?_
  refine sP (opp_extract rfl rfl rfl) rfl rfl ?_
  refine sP (opp_as (v := .int _ _) rfl rfl) rfl rfl ?_
  refine sP (opp_as (v := .err _) rfl rfl) rfl rfl ?_
  have hf := fld_lt b (4 * i) 4
  refine awp_region rfl ?_
  refine sP (opp_mv (v := .int _ _) rfl rfl) rfl rfl ?_
  refine sP (opp_mv (v := .int _ _) rfl rfl) rfl rfl ?_
  refine sP (opp_convInt rfl rfl un3s un24 (wu32 (by omega))) rfl rfl ?_
  refine sP (opp_fieldP rfl rfl fld131_0 rfl) rfl rfl ?_
  refine sP (opp_indexArrP rfl rfl rfl arr129 (by omega) (by omega)) rfl rfl ?_
  refine sR0 (opr_store (v := .int _ _) (trn := (.agg [_, _, _, _, _, _])) rfl rfl rfl rfl bi rfl rfl rfl rfl fr2 ty24 (fun _ _ h => h)) rfl rfl rfl ?_
  refine awp_region rfl ?_
  refine sP (opp_mv (v := .int _ _) rfl rfl) rfl rfl ?_
  refine sP (opp_arith rfl rfl rfl (.inl ⟨rfl, w64 (by omega)⟩)) rfl rfl ?_
  refine sP (opp_as (v := .int _ _) rfl rfl) rfl rfl ?_
  refine Exists.intro (i + 1) (And.intro (And.intro (by omega) (by first | omega | (dsimp only; omega))) (by
   refine imp_over [] rfl rfl (by kernel_rfl) ?_ ?_
   ·refine And.intro (by exact Or.inr (And.intro rfl (WkV.of (by show AV.int .i64 _ = AV.int .i64 _; simp)))) ?_
    iterate 16 refine And.intro wkv ?_
    exact True.intro
   ·refine And.intro (And.intro rfl (And.intro rfl (Exists.intro _ (And.intro rfl (by exact WkC.of (by show AV.agg [_, AV.int .i64 _, _] = AV.agg [_, AV.int .i64 _, _]; rw [show 4 * i + 4 = 4 * (i + 1) by omega]; rfl)))))) ?_
    refine And.intro (And.intro rfl (And.intro rfl (Exists.intro _ (And.intro rfl (by show WkC (AV.agg [AV.arr 1 16 _, _, _, _, _, _]) (AV.agg [AV.arr 1 16 _, _, _, _, _, _]); exact Wk.c (Wk.agg (.cons (.arr (fun j hj => regAt_next b i j (by omega))) (.cons .refl (.cons .refl (.cons .refl (.cons .refl (.cons .refl .nil)))))))))))) ?_
    exact True.intro
   ))
 ·(try simp only [cmpI, errD_nil, qa, qb, qc, qd] at ht15)
  refine awp_exit (awp_seq ?_)
  have hie : i = 15 := by omega
  subst hie
  refine awp_region rfl ?_
  refine sP (opp_mv (v := .ptr _ _ _) rfl rfl) rfl rfl ?_
  refine sR (opr_callG (rl := [(1, 13)]) (r1 := .tup [.int _ _, .err _]) (H1 := [(13, some (.agg [.sl _ _ _ _, .int _ _, .int _ _]))]) (n1 := []) rfl rfl ent54 (cg54c b false 60 b.length (by omega) (by omega) (by omega)) (And.intro (And.intro rfl wka) True.intro) (And.intro (And.intro rfl (Exists.intro _ (And.intro rfl wkc))) True.intro) rfl rfl rfl rfl) rfl rfl rfl ?_
  refine sP (opp_mv (v := .tup _) rfl rfl) rfl rfl ?_
  refine sP (opp_extract rfl rfl rfl) rfl rfl ?_
  refine sP (opp_extract rfl rfl rfl) rfl rfl ?_
  refine sP (opp_as (v := .int _ _) rfl rfl) rfl rfl ?_
  refine sP (opp_as (v := .err _) rfl rfl) rfl rfl ?_
  refine awp_seq ?_
  have hf := fld_lt b 60 4
  refine awp_region rfl ?_
  refine sP (opp_mv (v := .int _ _) rfl rfl) rfl rfl ?_
  refine sP (opp_convInt rfl rfl un3s un24 (wu32 (by omega))) rfl rfl ?_
  refine sP (opp_fieldP rfl rfl fld131_1 rfl) rfl rfl ?_
  refine sR0 (opr_store (v := .int _ _) (trn := (.agg [_, .int _ _, _, _, _, _])) rfl rfl rfl rfl bi rfl rfl rfl rfl fr2 ty24 (fun _ _ h => h)) rfl rfl rfl ?_
  refine awp_seq (awp_seq (awp_region rfl ?_))
  refine sP (opp_fieldP rfl rfl fld131_2 rfl) rfl rfl ?_
  refine sP (opp_fieldP rfl rfl fld131_3 rfl) rfl rfl ?_
  refine sP (opp_fieldP rfl rfl fld131_4 rfl) rfl rfl ?_
  refine sP (opp_fieldP rfl rfl fld131_5 rfl) rfl rfl ?_
  refine sR (opr_build4 (n := 40) rfl eb316 z315 rfl rfl rfl rfl) rfl rfl rfl ?_
  refine sP (opp_lenOsl rfl rfl un316) rfl rfl ?_
  refine sP (opp_mv (v := .int _ _) rfl rfl) rfl rfl ?_
  refine awp_block ?_
  refine awp_loopK (ι := Nat) (fun k => k ≤ 4) (fun k => [(11, .top), (42, .int .i64 (k : Int)), (43, .top), (44, .top), (45, .top), (46, .top), (47, .top), (48, .top), (49, .top), (50, .top), (51, .top), (52, .top), (53, .top)]) (fun k => [(13, some (.agg [.sl 1 false b.length (bAt b), .int .i64 ((64 + k : Nat) : Int), .int .i64 (b.length : Int)])), (4, some (.agg [.arr 1 16 (regAt b 15), .int .u32 (Sp.fld b 60 4 : Nat), upTo k 0 (Sp.fld b 64 1), upTo k 1 (Sp.fld b 65 1), upTo k 2 (Sp.fld b 66 1), upTo k 3 (Sp.fld b 67 1)]))]) [] (fun k => 4 - k) (0) (Nat.zero_le _) (by
   refine imp_over [] rfl rfl (by kernel_rfl) ?_ ?_
   ·iterate 13 refine And.intro wkv ?_
    exact True.intro
   ·refine And.intro (And.intro rfl (And.intro rfl (Exists.intro _ (And.intro rfl wkc)))) ?_
    refine And.intro (And.intro rfl (And.intro rfl (Exists.intro _ (And.intro rfl wkc)))) ?_
    exact True.intro
   ) ?_
  intro k hk; have hk5 : k = 0 ∨ k = 1 ∨ k = 2 ∨ k = 3 ∨ k = 4 := (by omega); rcases hk5 with rfl | rfl | rfl | rfl | rfl
  ·skip
   refine awp_seq (awp_region rfl ?_)
   refine sP (opp_cmp rfl rfl rfl rfl) rfl rfl ?_
   refine awp_seq ?_
   refine awp_cond _ rfl (fun ht43 => ?_) (fun ht43 => ?_)
   ·(try simp only [cmpI, errD_nil, qa, qb, qc, qd] at ht43)
    refine awp_skip (awp_seq (awp_block (awp_seq (awp_region rfl ?_))))
    refine sP (opp_indexOsl0 rfl rfl rfl el316 (by omega) (by omega)) rfl rfl ?_
    refine sP (opp_loadP rfl rfl rfl rfl bi rfl ty315) rfl rfl ?_
    refine sP (opp_as (v := .ptr _ _ _) rfl rfl) rfl rfl ?_
    refine awp_region rfl ?_
    refine sP (opp_mv (v := .ptr _ _ _) rfl rfl) rfl rfl ?_
    refine sP (opp_mv (v := .ptr _ _ _) rfl rfl) rfl rfl ?_
    refine sR (opr_callG (rl := [(1, 13)]) (r1 := .tup [.int _ _, .err _]) (H1 := [(13, some (.agg [.sl _ _ _ _, .int _ _, .int _ _]))]) (n1 := []) rfl rfl ent180 (cg180c b false 64 b.length (by omega) (by omega) (by omega)) (And.intro (And.intro rfl wka) True.intro) (And.intro (And.intro rfl (Exists.intro _ (And.intro rfl wkc))) True.intro) rfl rfl rfl rfl) rfl rfl rfl ?_
    refine sP (opp_mv (v := .tup _) rfl rfl) rfl rfl ?_
    refine sP (opp_extract rfl rfl rfl) rfl rfl ?_
    refine sP (opp_extract rfl rfl rfl) rfl rfl ?_
    refine sP (opp_nilCheckP rfl rfl) rfl rfl ?_
    refine sR0 (opr_store (v := .int _ _) (trn := (.agg [_, _, _, _, _, _])) rfl rfl rfl rfl bi rfl rfl rfl rfl fr2 ty3 (fun _ _ h => h)) rfl rfl rfl ?_
    refine awp_region rfl ?_
    refine sP (opp_arith rfl rfl rfl (.inl ⟨rfl, w64 (by omega)⟩)) rfl rfl ?_
    refine sP (opp_mv (v := .int _ _) rfl rfl) rfl rfl ?_
    refine Exists.intro (1) (And.intro (And.intro (by omega) (by first | omega | (dsimp only; omega))) (by
     refine imp_over [] rfl rfl (by kernel_rfl) ?_ ?_
     ·iterate 13 refine And.intro wkv ?_
      exact True.intro
     ·refine And.intro (And.intro rfl (And.intro rfl (Exists.intro _ (And.intro rfl wkc)))) ?_
      refine And.intro (And.intro rfl (And.intro rfl (Exists.intro _ (And.intro rfl wkc)))) ?_
      exact True.intro
     ))
   ·(try simp only [cmpI, errD_nil, qa, qb, qc, qd] at ht43)
    exfalso; simp [cmpI] at ht43
  ·skip
   refine awp_seq (awp_region rfl ?_)
   refine sP (opp_cmp rfl rfl rfl rfl) rfl rfl ?_
   refine awp_seq ?_
   refine awp_cond _ rfl (fun ht43 => ?_) (fun ht43 => ?_)
   ·(try simp only [cmpI, errD_nil, qa, qb, qc, qd] at ht43)
    refine awp_skip (awp_seq (awp_block (awp_seq (awp_region rfl ?_))))
    refine sP (opp_indexOsl0 rfl rfl rfl el316 (by omega) (by omega)) rfl rfl ?_
    refine sP (opp_loadP rfl rfl rfl rfl bi rfl ty315) rfl rfl ?_
    refine sP (opp_as (v := .ptr _ _ _) rfl rfl) rfl rfl ?_
    refine awp_region rfl ?_
    refine sP (opp_mv (v := .ptr _ _ _) rfl rfl) rfl rfl ?_
    refine sP (opp_mv (v := .ptr _ _ _) rfl rfl) rfl rfl ?_
    refine sR (opr_callG (rl := [(1, 13)]) (r1 := .tup [.int _ _, .err _]) (H1 := [(13, some (.agg [.sl _ _ _ _, .int _ _, .int _ _]))]) (n1 := []) rfl rfl ent180 (cg180c b false 65 b.length (by omega) (by omega) (by omega)) (And.intro (And.intro rfl wka) True.intro) (And.intro (And.intro rfl (Exists.intro _ (And.intro rfl wkc))) True.intro) rfl rfl rfl rfl) rfl rfl rfl ?_
    refine sP (opp_mv (v := .tup _) rfl rfl) rfl rfl ?_
    refine sP (opp_extract rfl rfl rfl) rfl rfl ?_
    refine sP (opp_extract rfl rfl rfl) rfl rfl ?_
    refine sP (opp_nilCheckP rfl rfl) rfl rfl ?_
    refine sR0 (opr_store (v := .int _ _) (trn := (.agg [_, _, _, _, _, _])) rfl rfl rfl rfl bi rfl rfl rfl rfl fr2 ty3 (fun _ _ h => h)) rfl rfl rfl ?_
    refine awp_region rfl ?_
    refine sP (opp_arith rfl rfl rfl (.inl ⟨rfl, w64 (by omega)⟩)) rfl rfl ?_
    refine sP (opp_mv (v := .int _ _) rfl rfl) rfl rfl ?_
    refine Exists.intro (2) (And.intro (And.intro (by omega) (by first | omega | (dsimp only; omega))) (by
     refine imp_over [] rfl rfl (by kernel_rfl) ?_ ?_
     ·iterate 13 refine And.intro wkv ?_
      exact True.intro
     ·refine And.intro (And.intro rfl (And.intro rfl (Exists.intro _ (And.intro rfl wkc)))) ?_
      refine And.intro (And.intro rfl (And.intro rfl (Exists.intro _ (And.intro rfl wkc)))) ?_
      exact True.intro
     ))
   ·(try simp only [cmpI, errD_nil, qa, qb, qc, qd] at ht43)
    exfalso; simp [cmpI] at ht43
  ·skip
   refine awp_seq (awp_region rfl ?_)
   refine sP (opp_cmp rfl rfl rfl rfl) rfl rfl ?_
   refine awp_seq ?_
   refine awp_cond _ rfl (fun ht43 => ?_) (fun ht43 => ?_)
   ·(try simp only [cmpI, errD_nil, qa, qb, qc, qd] at ht43)
    refine awp_skip (awp_seq (awp_block (awp_seq (awp_region rfl ?_))))
    refine sP (opp_indexOsl0 rfl rfl rfl el316 (by omega) (by omega)) rfl rfl ?_
    refine sP (opp_loadP rfl rfl rfl rfl bi rfl ty315) rfl rfl ?_
    refine sP (opp_as (v := .ptr _ _ _) rfl rfl) rfl rfl ?_
    refine awp_region rfl ?_
    refine sP (opp_mv (v := .ptr _ _ _) rfl rfl) rfl rfl ?_
    refine sP (opp_mv (v := .ptr _ _ _) rfl rfl) rfl rfl ?_
    refine sR (opr_callG (rl := [(1, 13)]) (r1 := .tup [.int _ _, .err _]) (H1 := [(13, some (.agg [.sl _ _ _ _, .int _ _, .int _ _]))]) (n1 := []) rfl rfl ent180 (cg180c b false 66 b.length (by omega) (by omega) (by omega)) (And.intro (And.intro rfl wka) True.intro) (And.intro (And.intro rfl (Exists.intro _ (And.intro rfl wkc))) True.intro) rfl rfl rfl rfl) rfl rfl rfl ?_
    refine sP (opp_mv (v := .tup _) rfl rfl) rfl rfl ?_
    refine sP (opp_extract rfl rfl rfl) rfl rfl ?_
    refine sP (opp_extract rfl rfl rfl) rfl rfl ?_
    refine sP (opp_nilCheckP rfl rfl) rfl rfl ?_
    refine sR0 (opr_store (v := .int _ _) (trn := (.agg [_, _, _, _, _, _])) rfl rfl rfl rfl bi rfl rfl rfl rfl fr2 ty3 (fun _ _ h => h)) rfl rfl rfl ?_
    refine awp_region rfl ?_
    refine sP (opp_arith rfl rfl rfl (.inl ⟨rfl, w64 (by omega)⟩)) rfl rfl ?_
    refine sP (opp_mv (v := .int _ _) rfl rfl) rfl rfl ?_
    refine Exists.intro (3) (And.intro (And.intro (by omega) (by first | omega | (dsimp only; omega))) (by
     refine imp_over [] rfl rfl (by kernel_rfl) ?_ ?_
     ·iterate 13 refine And.intro wkv ?_
      exact True.intro
     ·refine And.intro (And.intro rfl (And.intro rfl (Exists.intro _ (And.intro rfl wkc)))) ?_
      refine And.intro (And.intro rfl (And.intro rfl (Exists.intro _ (And.intro rfl wkc)))) ?_
      exact True.intro
     ))
   ·(try simp only [cmpI, errD_nil, qa, qb, qc, qd] at ht43)
    exfalso; simp [cmpI] at ht43
  ·skip
   refine awp_seq (awp_region rfl ?_)
   refine sP (opp_cmp rfl rfl rfl rfl) rfl rfl ?_
   refine awp_seq ?_
   refine awp_cond _ rfl (fun ht43 => ?_) (fun ht43 => ?_)
   ·(try simp only [cmpI, errD_nil, qa, qb, qc, qd] at ht43)
    refine awp_skip (awp_seq (awp_block (awp_seq (awp_region rfl ?_))))
    refine sP (opp_indexOsl0 rfl rfl rfl el316 (by omega) (by omega)) rfl rfl ?_
    refine sP (opp_loadP rfl rfl rfl rfl bi rfl ty315) rfl rfl ?_
    refine sP (opp_as (v := .ptr _ _ _) rfl rfl) rfl rfl ?_
    refine awp_region rfl ?_
    refine sP (opp_mv (v := .ptr _ _ _) rfl rfl) rfl rfl ?_
    refine sP (opp_mv (v := .ptr _ _ _) rfl rfl) rfl rfl ?_
    refine sR (opr_callG (rl := [(1, 13)]) (r1 := .tup [.int _ _, .err _]) (H1 := [(13, some (.agg [.sl _ _ _ _, .int _ _, .int _ _]))]) (n1 := []) rfl rfl ent180 (cg180c b false 67 b.length (by omega) (by omega) (by omega)) (And.intro (And.intro rfl wka) True.intro) (And.intro (And.intro rfl (Exists.intro _ (And.intro rfl wkc))) True.intro) rfl rfl rfl rfl) rfl rfl rfl ?_
    refine sP (opp_mv (v := .tup _) rfl rfl) rfl rfl ?_
    refine sP (opp_extract rfl rfl rfl) rfl rfl ?_
    refine sP (opp_extract rfl rfl rfl) rfl rfl ?_
    refine sP (opp_nilCheckP rfl rfl) rfl rfl ?_
    refine sR0 (opr_store (v := .int _ _) (trn := (.agg [_, _, _, _, _, _])) rfl rfl rfl rfl bi rfl rfl rfl rfl fr2 ty3 (fun _ _ h => h)) rfl rfl rfl ?_
    refine awp_region rfl ?_
    refine sP (opp_arith rfl rfl rfl (.inl ⟨rfl, w64 (by omega)⟩)) rfl rfl ?_
    refine sP (opp_mv (v := .int _ _) rfl rfl) rfl rfl ?_
    refine Exists.intro (4) (And.intro (And.intro (by omega) (by first | omega | (dsimp only; omega))) (by
     refine imp_over [] rfl rfl (by kernel_rfl) ?_ ?_
     ·iterate 13 refine And.intro wkv ?_
      exact True.intro
     ·refine And.intro (And.intro rfl (And.intro rfl (Exists.intro _ (And.intro rfl wkc)))) ?_
      refine And.intro (And.intro rfl (And.intro rfl (Exists.intro _ (And.intro rfl wkc)))) ?_
      exact True.intro
     ))
   ·(try simp only [cmpI, errD_nil, qa, qb, qc, qd] at ht43)
    exfalso; simp [cmpI] at ht43
  ·skip
   refine awp_seq (awp_region rfl ?_)
   refine sP (opp_cmp rfl rfl rfl rfl) rfl rfl ?_
   refine awp_seq ?_
   refine awp_cond _ rfl (fun ht43 => ?_) (fun ht43 => ?_)
   ·(try simp only [cmpI, errD_nil, qa, qb, qc, qd] at ht43)
    exfalso; simp [cmpI] at ht43
   ·(try simp only [cmpI, errD_nil, qa, qb, qc, qd] at ht43)
    refine awp_exit (awp_seq (awp_region rfl ?_))
    refine sP (opp_loadP rfl rfl rfl rfl bi rfl ty131) rfl rfl ?_
    refine sR0 (opr_store (v := .agg _) (trn := (.agg _)) rfl rfl rfl rfl bi rfl rfl rfl rfl fr2 ty131 (fun _ _ h => h)) rfl rfl rfl ?_
    refine awp_ret ?_
    repeat (first | refine athen_ret ?_ | refine ain_ret ?_)
    refine apost_ret (aend1 (r0 := .agg _) (.cell rfl rfl rfl (by exact True.intro) rfl ty131 .nil) (.noN rfl rfl) ⟨Wk.v ?_, rfl, rfl⟩)
    exact .agg (.cons (.arr (fun j hj => by unfold regAt; rw [if_pos (by omega)])) (.cons .refl (.cons .refl (.cons .refl (.cons .refl (.cons .refl .nil))))))
end
end Go.Proofs.YtpmgdmbcdohgcaaGreatDoor
/- The engine, 29: calls that are told a part of a struct that is handed over (my own text; any program). -/
set_option linter.unusedSimpArgs false
namespace Go.Fy
open Go.RowKit
section
variable {C : Ctx} {o : Oper} {ρ : Operand → AV} {η : Nat → Option AV}
end
end Go.Fy
/- The engine, 30: rows over arrays, copy (my own text; any program). -/
set_option linter.unusedSimpArgs false
namespace Go.Fy
open Go.RowKit
theorem bound_run {E : RE} {ρ : Operand → AV} {ε : Operand → Value} {d : Int} {lo : Option Operand} {l : Int} (hr : ∀ x, lo = some x → RelV E (ρ x) (ε x)) (hlo : bound d (lo.map ρ) = some l) :
    lo.map ε = none ∧ l = d ∨ ∃ k, lo.map ε = some (.int k l) := by
  cases lo with
  | none => simp [bound] at hlo; left; exact ⟨rfl, hlo.symm⟩
  | some y =>
    have e := hr y rfl
    simp only [Option.map_some] at hlo ⊢
    cases hy : ρ y <;> simp only [hy, bound] at hlo <;> first | (cases hlo; done) | skip
    rw [hy] at e; simp only [RelV] at e
    right; simp only [Option.some.injEq] at hlo; subst hlo; exact ⟨_, by rw [e]⟩
section
variable {V : Env} {o : Oper} {ρ : Operand → AV} {η : Nat → Option AV}
/-- a[l:h] of an array that lies in an own block. -/
theorem opp_sliceArrP {x : Operand} {lo hi : Option Operand} {t : TypeId} {z n b off q : Nat} {p : List Nat} {f : Nat → AV} {tr : AV} {l h : Int} {g : Bool} (ho : o.op = .slice t x lo hi none)
    (hx : ρ x = .ptr b p off) (hH : η b = some tr) (hg : getP p tr = some (.arr z n f)) (hin : inP p tr) (hoff : offP p tr = off) (hq : q * z = off) (hlo : bound 0 (lo.map ρ) = some l) (hhi : bound n (hi.map ρ) = some h) (ht : arrOf V.P t = some (n, z, g))
    (h0 : 0 ≤ l) (h1 : l ≤ h) (h2 : h ≤ n) : OpP V o ρ η (.osl b z (q + l.toNat) (h - l).toNat (n - l.toNat)) :=
  opp_val fun E ε _ _ hr hη => by
    have e1 := hr x (by simp [ho, Op.operands])
    rw [hx] at e1
    simp only [RelV, Rel, List.cons.injEq, and_true] at e1
    obtain ⟨hm, ha⟩ := e1
    have e2 := bound_run (fun y hy => hr y (by simp [ho, Op.operands, hy])) hlo
    have e3 := bound_run (fun y hy => hr y (by simp [ho, Op.operands, hy])) hhi
    obtain ⟨e, hu, hz, -⟩ := arrOf_spec ht
    obtain ⟨hbm, c, ty, fr, cs, rest, g1, g2, g3, g4⟩ := hη b tr hH
    obtain ⟨k1, k2⟩ := rel_getP p tr cs _ g3 hg hin
    rw [hoff] at k2
    have hsz : (AV.arr z n f).sz = n * z := by simp [AV.sz]
    rw [hsz] at k2
    have hcl : cs.length ≤ c.size := by rw [← Array.length_toList, g2]; simp
    refine ⟨.slice (some (if n = l.toNat then ⟨E.σ b, off, none⟩ else (⟨E.σ b, off, none⟩ : Addr).add (l.toNat * z))) (h.toNat - l.toNat) (n - l.toNat), ?_, ?_⟩
    · simp only [execOp, ho, ha, Option.map_none, Instr.sliceAt, Sem.run_bind, run_underlying hu, Result.andThen, Sem.run_pure, Instr.sureAddr,
        sliceBounds_run false n n _ _ l h e2 e3 h0 h1 h2, hz]
    · simp only [RelV, Rel, List.cons.injEq, and_true, Value.slice.injEq]
      refine ⟨hm, by omega, if n = l.toNat then off else off + l.toNat * z, n - l.toNat, ⟨?_, by omega, rfl⟩, Nat.le_refl _, fun hpos => ?_, c, ty, fr, g1, ?_⟩
      · split
        · rfl
        · rw [add_eq rfl]
      · rw [if_neg (by omega), Nat.add_mul, hq]
      · have e5 : q + l.toNat + (n - l.toNat) = q + n := by omega
        rw [e5, Nat.add_mul, hq]; omega
end
theorem arr_drop {E : RE} {z n m : Nat} {f : Nat → AV} {as1 : List Value} (h : Rel E (.arr z m f) as1) (hn : n ≤ m) : Rel E (.arr z (m - n) fun j => f (n + j)) (as1.drop (n * z)) := by
  simp only [Rel] at *
  refine ⟨by rw [List.length_drop, h.1, Nat.sub_mul], fun j hj => ?_⟩
  have := h.2 (n + j) (by omega)
  rw [List.drop_drop, ← Nat.add_mul]; exact this
section
variable {C : Ctx} {o : Oper} {ρ : Operand → AV} {η : Nat → Option AV}
/-- copy(s, x): s an own row (from element q of what lies there on), x any row. -/
theorem opr_copy {s x : Operand} {t t2 e : TypeId} {z by_ i q nd c m k : Nat} {p : List Nat} {tr trn : AV} {f g : Nat → AV} {j? : Option Nat} (ho : o.op = .call { callee := .builtin .copy, args := #[s, x], argTypes := #[t, t2] })
    (hs : ρ s = .osl i z q nd c) (hH : η i = some tr) (hg : getP p tr = some (.arr z m f)) (hin : inP p tr) (hoff : offP p tr = q * z) (hnm : nd ≤ m) (hx : RowV η (ρ x) z k g j?) (ht : elB C.V.P t = some (e, z, by_))
    (htr : ∀ (E : RE) cs, Rel E (setP p tr (.arr z m fun j => if j < min k nd then g j else f j)) cs → Rel E trn cs) : OpR C o ρ η ⟨.int .i64 (min k nd : Nat), [(i, some trn)], []⟩ := by
  intro hd S hρ hη hn a w ⟨σ, hc⟩
  have e1 := hρ s (by simp [ho, Op.operands, Call.operands]) _ _ rfl (ev_rel hc s)
  have e2 := hρ x (by simp [ho, Op.operands, Call.operands]) _ _ rfl (ev_rel hc x)
  rw [hs] at e1
  have hi := hη i tr hH
  obtain ⟨ax, capx, news, e2, hkc, hsome, hnone, hh, hr⟩ := hx.cells (fun i y hi => ⟨(hc.blk i y (hη i y hi)).1, (hc.blk i y (hη i y hi)).2.2.2⟩) e2
  simp only [RelV, Rel, List.cons.injEq, and_true] at e1
  obtain ⟨-, hndc, of, capd, e1, hcc, hof, cb, tb, fb, hheap, hcsz⟩ := e1
  have hheap' : w.heap[σ i]? = some (.cells cb tb fb) := hheap
  have hl : news.length = k * z := by simp only [Rel] at hr; exact hr.1
  obtain ⟨c1, ty, fr, cs, rest, b1, b2, b3, b4⟩ := (hc.blk i tr hi).2.2.2
  have b1' : w.heap[σ i]? = some (.cells c1 ty fr) := b1
  obtain ⟨g1, g2⟩ := rel_getP p tr cs _ b3 hg hin
  have hsz : (AV.arr z m f).sz = m * z := by simp [AV.sz]
  rw [hsz] at g1 g2
  rw [hoff] at g1 g2
  have hcl : cs.length ≤ c1.size := by rw [← Array.length_toList, b2]; simp
  obtain ⟨M, hM⟩ : ∃ M, min k nd * z = M := ⟨_, rfl⟩
  let ds := news.take M
  have hkz : M ≤ k * z := hM ▸ Nat.mul_le_mul_right _ (Nat.min_le_left _ _)
  have hmz : M ≤ m * z := hM ▸ Nat.mul_le_mul_right _ (Nat.le_trans (Nat.min_le_right _ _) hnm)
  have hdl : ds.length = M := by simp only [ds, List.length_take, hl]; omega
  have hrt : Rel (C.RE S w σ) (.arr z (min k nd) g) ds := by
    have := Rel.le (RE.bare_le _) _ _ (arr_take hr (Nat.min_le_left k nd))
    rw [hM] at this; exact this
  obtain ⟨hu, i', hi', hz1, hz2⟩ := elB_spec ht
  have hfc : (Builtin.firstCells z (min k nd) (.slice ax k capx)).run C.V.P w = .ok ds.toArray w := by
    cases ax with
    | none =>
      have hk0 := (hnone rfl).1
      have : ds = [] := List.length_eq_zero_iff.1 (by rw [hdl, ← hM, hk0]; simp)
      rw [this]
      exact run_firstCells_none w _ _ _ _
    | some b =>
      refine run_firstCells_some w z (min k nd) b k capx ds (hdl.trans hM.symm) fun j v hj => ?_
      have hjl := (List.getElem?_eq_some_iff.1 hj).1
      have hk : 0 < k := by
        rcases Nat.eq_zero_or_pos k with h | h
        · subst h; simp at hkz; omega
        · exact h
      obtain ⟨b', q1, q2, -⟩ := hsome hk
      cases q1
      rw [add_eq q2]
      have := hh b rfl j v (by
        simp only [ds] at hj
        rw [List.getElem?_take_of_lt (by omega)] at hj; exact hj)
      rwa [Nat.zero_add] at this
  have hst : (storeCells ⟨σ i, of, none⟩ ds).run C.V.P w = .ok () (w.setCells (σ i) (q * z) ds) := by
    rcases Nat.eq_zero_or_pos nd with h0 | h0
    · have : ds = [] := List.length_eq_zero_iff.1 (by rw [hdl, ← hM, h0]; simp)
      rw [this]; rfl
    · have hof' := hof (by omega)
      subst hof'
      have := run_storeCells_cells (P := C.V.P) (σ i) (q * z) ds 0 w (fun j hj => by
          simp only [World.cell?, b1', Option.isSome_none, Bool.false_eq_true, if_false, Nat.add_zero]
          rw [Array.getElem?_eq_getElem (by omega)]; rfl)
        (fun j hj => b4 _ (by omega)) (Rel.cells _ _ hrt)
      simpa using this
  have hrun : (execOp a.eval o).run C.V.P w = .ok (.value (.int .i64 (min k nd : Nat))) (w.setCells (σ i) (q * z) ds) := by
    have h5 : (Builtin.copy_ #[t, t2] o.type #[.slice (some ⟨σ i, of, none⟩) nd capd, .slice ax k capx]).run C.V.P w = .ok (goInt (min k nd : Nat)) (w.setCells (σ i) (q * z) ds) := by
      have hz3 : i'.size = z := hz1
      have h6 : Nat.min k nd = min k nd := rfl
      simp [Builtin.copy_, run_underlying hu, Builtin.lenOf, sizeOf, typeInfo, hi', hz3, h6, hfc, hst, Result.andThen]
    have e1' : a.eval s = .slice (some ⟨σ i, of, none⟩) nd capd := e1
    simp [execOp, ho, resolve, invoke, builtin, e1', e2, h5, Result.andThen, goInt]
  unfold Oper.wp
  rw [hrun]
  have hw := hc.write i tr trn hi (q * z) ds (fun c' t' fr' hc' => by
      rw [b1'] at hc'; simp only [Option.some.injEq, Obj.cells.injEq] at hc'; obtain ⟨rfl, -, -⟩ := hc'; rw [hdl]; omega)
    (fun E hE cs' rest' hr' _ => by
      obtain ⟨k1, k2⟩ := rel_getP p tr cs' _ hr' hg hin
      rw [hsz] at k1 k2
      rw [hoff] at k1 k2
      have hd2 : ds.length ≤ ((cs'.drop (q * z)).take (m * z)).length := by rw [hdl, List.length_take, List.length_drop]; omega
      have hnew : Rel E (.arr z m fun j => if j < min k nd then g j else f j) (ds ++ ((cs'.drop (q * z)).take (m * z)).drop M) := by
        have h7 := arr_append (Rel.le hE _ _ hrt) (arr_drop (n := min k nd) k1 (by have := Nat.min_le_right k nd; omega))
        rw [hM] at h7
        have e6 : min k nd + (m - min k nd) = m := by have := Nat.min_le_right k nd; omega
        rw [e6] at h7
        exact h7.arr_congr fun j hj => by
          by_cases hlt : j < min k nd
          · rw [if_pos hlt, if_pos hlt]
          · rw [if_neg hlt, if_neg hlt]; congr 1; omega
      have h8 := rel_setP p tr cs' _ (.arr z m fun j => if j < min k nd then g j else f j) _ hr' hg hin hnew (by simp [AV.sz]) (fun _ => rfl)
      rw [hoff] at h8
      have e7 : splice cs' (q * z) (ds ++ ((cs'.drop (q * z)).take (m * z)).drop M) = splice cs' (q * z) ds := by
        apply List.ext_getElem?
        intro j
        have hll : (ds ++ ((cs'.drop (q * z)).take (m * z)).drop M).length = m * z := by
          rw [List.length_append, hdl, List.length_drop, List.length_take, List.length_drop]; omega
        rw [splice_getElem? (by rw [hll]; exact k2), splice_getElem? (by rw [hdl]; omega), hll, hdl]
        by_cases c1 : q * z ≤ j ∧ j < q * z + m * z
        · rw [if_pos c1]
          by_cases c2 : j < q * z + M
          · rw [if_pos ⟨c1.1, c2⟩, List.getElem?_append_left (by rw [hdl]; omega)]
          · rw [if_neg (by omega), List.getElem?_append_right (by rw [hdl]; omega), List.getElem?_drop, List.getElem?_take_of_lt (by omega), List.getElem?_drop]
            congr 1; omega
        · rw [if_neg c1, if_neg (by omega)]
      rw [e7] at h8
      exact ⟨_, rest', splice_append_left (by rw [hdl]; omega), htr E _ h8⟩)
  exact ⟨σ, hw.put o.dst _ _ hd (by simp [RelV])⟩
end
end Go.Fy
/- Layer 16: a record put to a state (walks over this dump). -/
namespace Go.Proofs.YtpmgdmbcdohgcaaGreatDoor
attribute [local irreducible] Tryz.prog
open Go.Fy
set_option linter.unusedSimpArgs false
set_option linter.unusedVariables false
theorem tms_len (b : List UInt8) : (Sp.timersOf b).length = b.length / 5 := by simp [Sp.timersOf]
theorem tms_get (b : List UInt8) (j : Nat) (h : j < b.length / 5) : tmAt (Sp.timersOf b) j = .agg [.int .i64 (Sp.fld b (5 * j) 1 : Nat), .int .i64 (Sp.fld b (5 * j + 1) 4 : Nat)] := by
  simp [tmAt, Sp.timersOf, List.getD_eq_getElem?_getD, h]
theorem snoc_lt {α : Type} (l : List α) (x d : α) (j : Nat) (h : j < l.length) : (l ++ [x]).getD j d = l.getD j d := by
  simp only [List.getD_eq_getElem?_getD, List.getElem?_append, if_pos h]
theorem snoc_eq {α : Type} (l : List α) (x d : α) (j : Nat) (h : j = l.length) : (l ++ [x]).getD j d = x := by
  subst h; simp [List.getD_eq_getElem?_getD, List.getElem?_append]
section
variable {ea : Nat → Addr} {cds : List Nat} {gl : Nat → Option AV}
theorem cg122a (b : List UInt8) (h0 : b.length = 8) (v : Nat → Value) (x y : Int) : AGen (V ea cds gl) 122 [.ptr 1 [] 0, rcAV ⟨1, false, b⟩] [(1, some (.agg [.val (v 0), .int .i64 x, .int .i64 y, .val (v 3), .val (v 4), .val (v 5), .val (v 6), .val (v 7), .val (v 8), .val (v 9)]))]
  (.tup []) [(1, some (.agg [.val (v 0), .int .i64 (Sp.fld b 0 4 : Nat), .int .i64 (Sp.fld b 4 4 : Nat), .val (v 3), .val (v 4), .val (v 5), .val (v 6), .val (v 7), .val (v 8), .val (v 9)]))] := by
 unfold rcAV
 refine agen_of_body (N := 163) Tryz.func122 rfl rfl (Nat.le_of_ble_eq_true rfl) fun C hV hN hM hO => ?_
 obtain ⟨_, _, w0, G0, σ0, _, own0⟩ := C; dsimp only at hV hN hM hO; subst hV; subst hN; subst hM
 refine awp_seq (awp_region rfl ?_)
 refine sR (opr_box (y := .agg _) (n := 3) rfl rfl rfl) rfl rfl rfl ?_
 refine awp_seq (awp_region rfl ?_)
 refine sP (opp_fieldP rfl rfl fld105_1 rfl) rfl rfl ?_
 refine sP (opp_loadP rfl rfl rfl rfl bi rfl ty22) rfl rfl ?_
 refine sR (opr_callO (rl := [(8, 16)]) (r1 := .ptr _ _ _) (H1 := [(16, some (.agg [.sl _ _ _ _, .int _ _, .int _ _]))]) (n1 := [16]) rfl rfl ent52 rfl (co52 b (by omega)) (AViews.refl _ rfl) rfl rfl rfl rfl) rfl rfl rfl ?_
 refine sP (opp_as (v := .ptr _ _ _) rfl rfl) rfl rfl ?_
 refine awp_seq (awp_region rfl ?_)
 refine sP (opp_fieldP rfl rfl fld105_0 rfl) rfl rfl ?_
 refine sP (opp_loadP rfl rfl rfl rfl bi rfl ty3) rfl rfl ?_
 refine awp_block (awp_seq (awp_region rfl ?_))
 refine sP (opp_cmp rfl rfl rfl rfl) rfl rfl ?_
 refine sP (opp_as (v := .bool _) rfl rfl) rfl rfl ?_
 refine awp_cond _ rfl (fun ht19 => ?_) (fun ht19 => ?_)
 ·(try simp only [cmpI, errD_nil, qa, qb, qc, qd] at ht19)
  refine awp_seq (awp_region rfl ?_)
  refine sP (opp_mv (v := .ptr _ _ _) rfl rfl) rfl rfl ?_
  refine sP (opp_mv (v := .ptr _ _ _) rfl rfl) rfl rfl ?_
  refine sR (opr_callG (rl := [(1, 16)]) (r1 := .tup [.int _ _, .err _]) (H1 := [(16, some (.agg [.sl _ _ _ _, .int _ _, .int _ _]))]) (n1 := []) rfl rfl ent54 (cg54c b false 0 b.length (by omega) (by omega) (by omega)) (And.intro (And.intro rfl wka) True.intro) (And.intro (And.intro rfl (Exists.intro _ (And.intro rfl wkc))) True.intro) rfl rfl rfl rfl) rfl rfl rfl ?_
  refine sP (opp_mv (v := .tup _) rfl rfl) rfl rfl ?_
  refine sP (opp_extract rfl rfl rfl) rfl rfl ?_
  refine sP (opp_extract rfl rfl rfl) rfl rfl ?_
  refine sP (opp_nilCheckP rfl rfl) rfl rfl ?_
  refine sP (opp_fieldP rfl rfl fld61_1 rfl) rfl rfl ?_
  refine sR0 (opr_store (v := .int _ _) (trn := (.agg [_, .int _ _, _, _, _, _, _, _, _, _])) rfl rfl rfl rfl bi rfl rfl rfl rfl fr2 ty3 (fun _ _ h => h)) rfl rfl rfl ?_
  refine awp_region rfl ?_
  refine sP (opp_mv (v := .ptr _ _ _) rfl rfl) rfl rfl ?_
  refine sP (opp_mv (v := .ptr _ _ _) rfl rfl) rfl rfl ?_
  refine sR (opr_callG (rl := [(1, 16)]) (r1 := .tup [.int _ _, .err _]) (H1 := [(16, some (.agg [.sl _ _ _ _, .int _ _, .int _ _]))]) (n1 := []) rfl rfl ent54 (cg54c b false 4 b.length (by omega) (by omega) (by omega)) (And.intro (And.intro rfl wka) True.intro) (And.intro (And.intro rfl (Exists.intro _ (And.intro rfl wkc))) True.intro) rfl rfl rfl rfl) rfl rfl rfl ?_
  refine sP (opp_mv (v := .tup _) rfl rfl) rfl rfl ?_
  refine sP (opp_extract rfl rfl rfl) rfl rfl ?_
  refine sP (opp_extract rfl rfl rfl) rfl rfl ?_
  refine sP (opp_nilCheckP rfl rfl) rfl rfl ?_
  refine sP (opp_fieldP rfl rfl fld61_2 rfl) rfl rfl ?_
  refine sR0 (opr_store (v := .int _ _) (trn := (.agg [_, _, .int _ _, _, _, _, _, _, _, _])) rfl rfl rfl rfl bi rfl rfl rfl rfl fr2 ty3 (fun _ _ h => h)) rfl rfl rfl ?_
  repeat (first | refine athen_ret ?_ | refine ain_ret ?_)
  refine gpost_ret (gends (l := []) true .nil (fun h => by cases h) .nil rfl .refl rfl (And.intro (Exists.intro _ (Exists.intro _ (And.intro rfl (And.intro shut (And.intro (fun h => by cases h) (And.intro ?_ rfl)))))) True.intro))
  ·exact .refl
 ·(try simp only [cmpI, errD_nil, qa, qb, qc, qd] at ht19)
  exfalso; first | omega | (simp at ht19; done)
theorem cg122b (b : List UInt8) (h0 : b.length = 68) (v : Nat → Value) (l : List Pr) (hl : l.length ≤ 4294967296) : AGen (V ea cds gl) 122 [.ptr 1 [] 0, rcAV ⟨3, false, b⟩] [(1, some (.agg [.val (v 0), .val (v 1), .val (v 2), .osl 2 21 0 l.length l.length, .val (v 4), .val (v 5), .val (v 6), .val (v 7), .val (v 8), .val (v 9)])), (2, some (.arr 21 l.length (prAt l)))]
  (.tup []) [(1, some (.agg [.val (v 0), .val (v 1), .val (v 2), .osl 48 21 0 (l.length + 1) (l.length + 1), .val (v 4), .val (v 5), .val (v 6), .val (v 7), .val (v 8), .val (v 9)])), (2, none), (48, some (.arr 21 (l.length + 1) (prAt (l ++ [Sp.proc b]))))] := by
 unfold rcAV
 refine agen_of_body (N := 163) Tryz.func122 rfl rfl (Nat.le_of_ble_eq_true rfl) fun C hV hN hM hO => ?_
 obtain ⟨_, _, w0, G0, σ0, _, own0⟩ := C; dsimp only at hV hN hM hO; subst hV; subst hN; subst hM
 refine awp_seq (awp_region rfl ?_)
 refine sR (opr_box (y := .agg _) (n := 3) rfl rfl rfl) rfl rfl rfl ?_
 refine awp_seq (awp_region rfl ?_)
 refine sP (opp_fieldP rfl rfl fld105_1 rfl) rfl rfl ?_
 refine sP (opp_loadP rfl rfl rfl rfl bi rfl ty22) rfl rfl ?_
 refine sR (opr_callO (rl := [(8, 16)]) (r1 := .ptr _ _ _) (H1 := [(16, some (.agg [.sl _ _ _ _, .int _ _, .int _ _]))]) (n1 := [16]) rfl rfl ent52 rfl (co52 b (by omega)) (AViews.refl _ rfl) rfl rfl rfl rfl) rfl rfl rfl ?_
 refine sP (opp_as (v := .ptr _ _ _) rfl rfl) rfl rfl ?_
 refine awp_seq (awp_region rfl ?_)
 refine sP (opp_fieldP rfl rfl fld105_0 rfl) rfl rfl ?_
 refine sP (opp_loadP rfl rfl rfl rfl bi rfl ty3) rfl rfl ?_
 refine awp_block (awp_seq (awp_region rfl ?_))
 refine sP (opp_cmp rfl rfl rfl rfl) rfl rfl ?_
 refine sP (opp_as (v := .bool _) rfl rfl) rfl rfl ?_
 refine awp_cond _ rfl (fun ht19 => ?_) (fun ht19 => ?_)
 ·(try simp only [cmpI, errD_nil, qa, qb, qc, qd] at ht19)
  exfalso; first | omega | (simp at ht19; done)
 ·(try simp only [cmpI, errD_nil, qa, qb, qc, qd] at ht19)
  refine awp_seq (awp_region rfl ?_)
  refine sP (opp_cmp rfl rfl rfl rfl) rfl rfl ?_
  refine sP (opp_as (v := .bool _) rfl rfl) rfl rfl ?_
  refine awp_cond _ rfl (fun ht37 => ?_) (fun ht37 => ?_)
  ·(try simp only [cmpI, errD_nil, qa, qb, qc, qd] at ht37)
   refine awp_draw hmix rfl (by kernel_rfl) ?_
   refine dP (fun _ => false) (opp_mv (v := .ptr _ _ _) rfl rfl) rfl rfl ?_
   refine dP (fun _ => false) (opp_mv (v := .ptr _ _ _) rfl rfl) rfl rfl ?_
   refine dP (fun _ => false) (opp_nilCheckP rfl rfl) rfl rfl ?_
   refine dP (fun _ => false) (opp_fieldP rfl rfl fld61_3 rfl) rfl rfl ?_
   refine dP (fun n => Nat.beq n 1) (opp_loadP rfl rfl rfl rfl bi rfl ty55) rfl rfl ?_
   refine dP (fun _ => false) (opp_fieldP rfl rfl fld105_1 rfl) rfl rfl ?_
   refine dP (fun n => Nat.beq n 3) (opp_loadP rfl rfl rfl rfl bi rfl ty22) rfl rfl ?_
   refine dR (fun n => !([] : List Nat).contains n) (opr_call rfl rfl ent177 rfl (c177 b h0) (AViews.refl _ rfl)) rfl rfl rfl ?_ -- d=46 t=131 a=45
   refine dR (fun _ => false) (opr_buildSlice (n := 47) (g := fun j => if j = 0 then .agg _ else .agg [.arr 1 16 (fun _ => .int .u32 0), .int .u32 0, .int .i64 0, .int .i64 0, .int .i64 0, .int .i64 0]) rfl eb55 z131 (by decide) rfl rfl) rfl rfl rfl ?_
   refine dR (fun n => !([] : List Nat).contains n) (opr_append (d := 48) rfl rfl rfl (by omega) (.osl0 rfl (by omega)) eb55 z131 (by omega) (by omega)) rfl rfl rfl ?_
   refine dP (fun _ => false) (opp_nilCheckP rfl rfl) rfl rfl ?_
   refine dP (fun _ => false) (opp_fieldP rfl rfl fld61_3 rfl) rfl rfl ?_
   refine dR0 (fun n => Nat.beq n 1) (opr_store (v := .osl _ _ _ _ _) (trn := (.agg [_, _, _, .osl _ _ _ _ _, _, _, _, _, _, _])) rfl rfl rfl rfl bi rfl rfl rfl rfl fr2 ty55 (fun _ _ h => h)) rfl rfl rfl ?_
   refine And.intro (by kernel_rfl) ?_
   repeat (first | refine athen_ret ?_ | refine ain_ret ?_)
   refine gpost_ret (gends (l := []) false .nil (fun h => by cases h) .nil rfl .refl rfl (And.intro (Exists.intro _ (Exists.intro _ (And.intro rfl (And.intro shut (And.intro (fun h => by cases h) (And.intro ?_ rfl)))))) (And.intro (Exists.intro _ (Exists.intro _ (And.intro rfl (And.intro shut (And.intro (fun h => by cases h) (And.intro ?_ rfl)))))) True.intro)))
   ·exact .refl
   ·exact .arr (fun j hj => by by_cases h : j < l.length; rw [if_pos h, prAt, prAt, snoc_lt _ _ _ _ h]; rw [if_neg h, if_pos (by omega), prAt, snoc_eq _ _ _ _ (by omega)]; rfl)
  ·(try simp only [cmpI, errD_nil, qa, qb, qc, qd] at ht37)
   exfalso; first | omega | (simp at ht37; done)
theorem cg122c (b : List UInt8) (h0 : b.length = 68) (v : Nat → Value) (f : Nat → AV) : AGen (V ea cds gl) 122 [.ptr 1 [] 0, rcAV ⟨3, false, b⟩] [(1, some (.agg [.val (v 0), .val (v 1), .val (v 2), .sl 21 true 0 f, .val (v 4), .val (v 5), .val (v 6), .val (v 7), .val (v 8), .val (v 9)]))]
  (.tup []) [(1, some (.agg [.val (v 0), .val (v 1), .val (v 2), .osl 48 21 0 1 1, .val (v 4), .val (v 5), .val (v 6), .val (v 7), .val (v 8), .val (v 9)])), (48, some (.arr 21 1 (prAt [Sp.proc b])))] := by
 unfold rcAV
 refine agen_of_body (N := 163) Tryz.func122 rfl rfl (Nat.le_of_ble_eq_true rfl) fun C hV hN hM hO => ?_
 obtain ⟨_, _, w0, G0, σ0, _, own0⟩ := C; dsimp only at hV hN hM hO; subst hV; subst hN; subst hM
 refine awp_seq (awp_region rfl ?_)
 refine sR (opr_box (y := .agg _) (n := 3) rfl rfl rfl) rfl rfl rfl ?_
 refine awp_seq (awp_region rfl ?_)
 refine sP (opp_fieldP rfl rfl fld105_1 rfl) rfl rfl ?_
 refine sP (opp_loadP rfl rfl rfl rfl bi rfl ty22) rfl rfl ?_
 refine sR (opr_callO (rl := [(8, 16)]) (r1 := .ptr _ _ _) (H1 := [(16, some (.agg [.sl _ _ _ _, .int _ _, .int _ _]))]) (n1 := [16]) rfl rfl ent52 rfl (co52 b (by omega)) (AViews.refl _ rfl) rfl rfl rfl rfl) rfl rfl rfl ?_
 refine sP (opp_as (v := .ptr _ _ _) rfl rfl) rfl rfl ?_
 refine awp_seq (awp_region rfl ?_)
 refine sP (opp_fieldP rfl rfl fld105_0 rfl) rfl rfl ?_
 refine sP (opp_loadP rfl rfl rfl rfl bi rfl ty3) rfl rfl ?_
 refine awp_block (awp_seq (awp_region rfl ?_))
 refine sP (opp_cmp rfl rfl rfl rfl) rfl rfl ?_
 refine sP (opp_as (v := .bool _) rfl rfl) rfl rfl ?_
 refine awp_cond _ rfl (fun ht19 => ?_) (fun ht19 => ?_)
 ·(try simp only [cmpI, errD_nil, qa, qb, qc, qd] at ht19)
  exfalso; first | omega | (simp at ht19; done)
 ·(try simp only [cmpI, errD_nil, qa, qb, qc, qd] at ht19)
  refine awp_seq (awp_region rfl ?_)
  refine sP (opp_cmp rfl rfl rfl rfl) rfl rfl ?_
  refine sP (opp_as (v := .bool _) rfl rfl) rfl rfl ?_
  refine awp_cond _ rfl (fun ht37 => ?_) (fun ht37 => ?_)
  ·(try simp only [cmpI, errD_nil, qa, qb, qc, qd] at ht37)
   refine awp_draw hmix rfl (by kernel_rfl) ?_
   refine dP (fun _ => false) (opp_mv (v := .ptr _ _ _) rfl rfl) rfl rfl ?_
   refine dP (fun _ => false) (opp_mv (v := .ptr _ _ _) rfl rfl) rfl rfl ?_
   refine dP (fun _ => false) (opp_nilCheckP rfl rfl) rfl rfl ?_
   refine dP (fun _ => false) (opp_fieldP rfl rfl fld61_3 rfl) rfl rfl ?_
   refine dP (fun n => Nat.beq n 1) (opp_loadP rfl rfl rfl rfl bi rfl ty55) rfl rfl ?_
   refine dP (fun _ => false) (opp_fieldP rfl rfl fld105_1 rfl) rfl rfl ?_
   refine dP (fun n => Nat.beq n 3) (opp_loadP rfl rfl rfl rfl bi rfl ty22) rfl rfl ?_
   refine dR (fun n => !([] : List Nat).contains n) (opr_call rfl rfl ent177 rfl (c177 b h0) (AViews.refl _ rfl)) rfl rfl rfl ?_ -- d=46 t=131 a=45
   refine dR (fun _ => false) (opr_buildSlice (n := 47) (g := fun j => if j = 0 then .agg _ else .agg [.arr 1 16 (fun _ => .int .u32 0), .int .u32 0, .int .i64 0, .int .i64 0, .int .i64 0, .int .i64 0]) rfl eb55 z131 (by decide) rfl rfl) rfl rfl rfl ?_
   refine dR (fun n => !([] : List Nat).contains n) (opr_appendNil (d := 48) rfl rfl (.osl0 rfl (by omega)) eb55 z131 (by omega) (by omega) (by omega)) rfl rfl rfl ?_
   refine dP (fun _ => false) (opp_nilCheckP rfl rfl) rfl rfl ?_
   refine dP (fun _ => false) (opp_fieldP rfl rfl fld61_3 rfl) rfl rfl ?_
   refine dR0 (fun n => Nat.beq n 1) (opr_store (v := .osl _ _ _ _ _) (trn := (.agg [_, _, _, .osl _ _ _ _ _, _, _, _, _, _, _])) rfl rfl rfl rfl bi rfl rfl rfl rfl fr2 ty55 (fun _ _ h => h)) rfl rfl rfl ?_
   refine And.intro (by kernel_rfl) ?_
   repeat (first | refine athen_ret ?_ | refine ain_ret ?_)
   refine gpost_ret (gends (l := []) true .nil (fun h => by cases h) .nil rfl .refl rfl (And.intro (Exists.intro _ (Exists.intro _ (And.intro rfl (And.intro shut (And.intro (fun h => by cases h) (And.intro ?_ rfl)))))) (And.intro (Exists.intro _ (Exists.intro _ (And.intro rfl (And.intro shut (And.intro (fun h => by cases h) (And.intro ?_ rfl)))))) True.intro)))
   ·exact .refl
   ·exact .arr (fun j hj => by rw [show j = 0 by omega]; rfl)
  ·(try simp only [cmpI, errD_nil, qa, qb, qc, qd] at ht37)
   exfalso; first | omega | (simp at ht37; done)
theorem cg122d (b : List UInt8) (h0 : b.length ≤ 4294967296) (v : Nat → Value) (nn : Bool) (n : Nat) (f : Nat → AV) : AGen (V ea cds gl) 122 [.ptr 1 [] 0, rcAV ⟨4, false, b⟩] [(1, some (.agg [.val (v 0), .val (v 1), .val (v 2), .val (v 3), .sl 1 nn n f, .val (v 5), .val (v 6), .val (v 7), .val (v 8), .val (v 9)]))]
  (.tup []) [(1, some (.agg [.val (v 0), .val (v 1), .val (v 2), .val (v 3), rowV 1 (Sp.nums b).length (natAt (Sp.nums b)), .val (v 5), .val (v 6), .val (v 7), .val (v 8), .val (v 9)]))] := by
 unfold rcAV
 refine agen_of_body (N := 163) Tryz.func122 rfl rfl (Nat.le_of_ble_eq_true rfl) fun C hV hN hM hO => ?_
 obtain ⟨_, _, w0, G0, σ0, _, own0⟩ := C; dsimp only at hV hN hM hO; subst hV; subst hN; subst hM
 refine awp_seq (awp_region rfl ?_)
 refine sR (opr_box (y := .agg _) (n := 3) rfl rfl rfl) rfl rfl rfl ?_
 refine awp_seq (awp_region rfl ?_)
 refine sP (opp_fieldP rfl rfl fld105_1 rfl) rfl rfl ?_
 refine sP (opp_loadP rfl rfl rfl rfl bi rfl ty22) rfl rfl ?_
 refine sR (opr_callO (rl := [(8, 16)]) (r1 := .ptr _ _ _) (H1 := [(16, some (.agg [.sl _ _ _ _, .int _ _, .int _ _]))]) (n1 := [16]) rfl rfl ent52 rfl (co52 b (by omega)) (AViews.refl _ rfl) rfl rfl rfl rfl) rfl rfl rfl ?_
 refine sP (opp_as (v := .ptr _ _ _) rfl rfl) rfl rfl ?_
 refine awp_seq (awp_region rfl ?_)
 refine sP (opp_fieldP rfl rfl fld105_0 rfl) rfl rfl ?_
 refine sP (opp_loadP rfl rfl rfl rfl bi rfl ty3) rfl rfl ?_
 refine awp_block (awp_seq (awp_region rfl ?_))
 refine sP (opp_cmp rfl rfl rfl rfl) rfl rfl ?_
 refine sP (opp_as (v := .bool _) rfl rfl) rfl rfl ?_
 refine awp_cond _ rfl (fun ht19 => ?_) (fun ht19 => ?_)
 ·(try simp only [cmpI, errD_nil, qa, qb, qc, qd] at ht19)
  exfalso; first | omega | (simp at ht19; done)
 ·(try simp only [cmpI, errD_nil, qa, qb, qc, qd] at ht19)
  refine awp_seq (awp_region rfl ?_)
  refine sP (opp_cmp rfl rfl rfl rfl) rfl rfl ?_
  refine sP (opp_as (v := .bool _) rfl rfl) rfl rfl ?_
  refine awp_cond _ rfl (fun ht37 => ?_) (fun ht37 => ?_)
  ·(try simp only [cmpI, errD_nil, qa, qb, qc, qd] at ht37)
   exfalso; first | omega | (simp at ht37; done)
  ·(try simp only [cmpI, errD_nil, qa, qb, qc, qd] at ht37)
   refine awp_seq (awp_region rfl ?_)
   refine sP (opp_cmp rfl rfl rfl rfl) rfl rfl ?_
   refine sP (opp_as (v := .bool _) rfl rfl) rfl rfl ?_
   refine awp_cond _ rfl (fun ht51 => ?_) (fun ht51 => ?_)
   ·(try simp only [cmpI, errD_nil, qa, qb, qc, qd] at ht51)
    refine awp_region rfl ?_
    refine sP (opp_mv (v := .ptr _ _ _) rfl rfl) rfl rfl ?_
    refine sP (opp_fieldP rfl rfl fld105_1 rfl) rfl rfl ?_
    refine sP (opp_loadP rfl rfl rfl rfl bi rfl ty22) rfl rfl ?_
    refine sR (opr_call rfl rfl ent178 rfl (c178 b false (by omega)) (AViews.refl _ rfl)) rfl rfl rfl ?_ -- d=56 t=48 a=55
    refine sP (opp_nilCheckP rfl rfl) rfl rfl ?_
    refine sP (opp_fieldP rfl rfl fld61_4 rfl) rfl rfl ?_
    refine sR0 (opr_store (v := .sl _ _ _ _) (trn := (.agg [_, _, _, _, .sl _ _ _ _, _, _, _, _, _])) rfl rfl rfl rfl bi rfl rfl rfl rfl fr2 ty48 (fun _ _ h => h)) rfl rfl rfl ?_
    repeat (first | refine athen_ret ?_ | refine ain_ret ?_)
    refine gpost_ret (gends (l := []) true .nil (fun h => by cases h) .nil rfl .refl rfl (And.intro (Exists.intro _ (Exists.intro _ (And.intro rfl (And.intro shut (And.intro (fun h => by cases h) (And.intro ?_ rfl)))))) True.intro))
    ·exact .refl
   ·(try simp only [cmpI, errD_nil, qa, qb, qc, qd] at ht51)
    exfalso; first | omega | (simp at ht51; done)
theorem cg122e (b : List UInt8) (h0 : b.length ≤ 4294967296) (v : Nat → Value) (nn : Bool) (n : Nat) (f : Nat → AV) : AGen (V ea cds gl) 122 [.ptr 1 [] 0, rcAV ⟨7, false, b⟩] [(1, some (.agg [.val (v 0), .val (v 1), .val (v 2), .val (v 3), .val (v 4), .val (v 5), .val (v 6), .sl 1 nn n f, .val (v 8), .val (v 9)]))]
  (.tup []) [(1, some (.agg [.val (v 0), .val (v 1), .val (v 2), .val (v 3), .val (v 4), .val (v 5), .val (v 6), rowV 1 (Sp.nums b).length (natAt (Sp.nums b)), .val (v 8), .val (v 9)]))] := by
 unfold rcAV
 refine agen_of_body (N := 163) Tryz.func122 rfl rfl (Nat.le_of_ble_eq_true rfl) fun C hV hN hM hO => ?_
 obtain ⟨_, _, w0, G0, σ0, _, own0⟩ := C; dsimp only at hV hN hM hO; subst hV; subst hN; subst hM
 refine awp_seq (awp_region rfl ?_)
 refine sR (opr_box (y := .agg _) (n := 3) rfl rfl rfl) rfl rfl rfl ?_
 refine awp_seq (awp_region rfl ?_)
 refine sP (opp_fieldP rfl rfl fld105_1 rfl) rfl rfl ?_
 refine sP (opp_loadP rfl rfl rfl rfl bi rfl ty22) rfl rfl ?_
 refine sR (opr_callO (rl := [(8, 16)]) (r1 := .ptr _ _ _) (H1 := [(16, some (.agg [.sl _ _ _ _, .int _ _, .int _ _]))]) (n1 := [16]) rfl rfl ent52 rfl (co52 b (by omega)) (AViews.refl _ rfl) rfl rfl rfl rfl) rfl rfl rfl ?_
 refine sP (opp_as (v := .ptr _ _ _) rfl rfl) rfl rfl ?_
 refine awp_seq (awp_region rfl ?_)
 refine sP (opp_fieldP rfl rfl fld105_0 rfl) rfl rfl ?_
 refine sP (opp_loadP rfl rfl rfl rfl bi rfl ty3) rfl rfl ?_
 refine awp_block (awp_seq (awp_region rfl ?_))
 refine sP (opp_cmp rfl rfl rfl rfl) rfl rfl ?_
 refine sP (opp_as (v := .bool _) rfl rfl) rfl rfl ?_
 refine awp_cond _ rfl (fun ht19 => ?_) (fun ht19 => ?_)
 ·(try simp only [cmpI, errD_nil, qa, qb, qc, qd] at ht19)
  exfalso; first | omega | (simp at ht19; done)
 ·(try simp only [cmpI, errD_nil, qa, qb, qc, qd] at ht19)
  refine awp_seq (awp_region rfl ?_)
  refine sP (opp_cmp rfl rfl rfl rfl) rfl rfl ?_
  refine sP (opp_as (v := .bool _) rfl rfl) rfl rfl ?_
  refine awp_cond _ rfl (fun ht37 => ?_) (fun ht37 => ?_)
  ·(try simp only [cmpI, errD_nil, qa, qb, qc, qd] at ht37)
   exfalso; first | omega | (simp at ht37; done)
  ·(try simp only [cmpI, errD_nil, qa, qb, qc, qd] at ht37)
   refine awp_seq (awp_region rfl ?_)
   refine sP (opp_cmp rfl rfl rfl rfl) rfl rfl ?_
   refine sP (opp_as (v := .bool _) rfl rfl) rfl rfl ?_
   refine awp_cond _ rfl (fun ht51 => ?_) (fun ht51 => ?_)
   ·(try simp only [cmpI, errD_nil, qa, qb, qc, qd] at ht51)
    exfalso; first | omega | (simp at ht51; done)
   ·(try simp only [cmpI, errD_nil, qa, qb, qc, qd] at ht51)
    refine awp_seq (awp_region rfl ?_)
    refine sP (opp_cmp rfl rfl rfl rfl) rfl rfl ?_
    refine sP (opp_as (v := .bool _) rfl rfl) rfl rfl ?_
    refine awp_cond _ rfl (fun ht59 => ?_) (fun ht59 => ?_)
    ·(try simp only [cmpI, errD_nil, qa, qb, qc, qd] at ht59)
     exfalso; first | omega | (simp at ht59; done)
    ·(try simp only [cmpI, errD_nil, qa, qb, qc, qd] at ht59)
     refine awp_seq (awp_region rfl ?_)
     refine sP (opp_cmp rfl rfl rfl rfl) rfl rfl ?_
     refine sP (opp_as (v := .bool _) rfl rfl) rfl rfl ?_
     refine awp_cond _ rfl (fun ht89 => ?_) (fun ht89 => ?_)
     ·(try simp only [cmpI, errD_nil, qa, qb, qc, qd] at ht89)
      exfalso; first | omega | (simp at ht89; done)
     ·(try simp only [cmpI, errD_nil, qa, qb, qc, qd] at ht89)
      refine awp_seq (awp_region rfl ?_)
      refine sP (opp_cmp rfl rfl rfl rfl) rfl rfl ?_
      refine sP (opp_as (v := .bool _) rfl rfl) rfl rfl ?_
      refine awp_cond _ rfl (fun ht113 => ?_) (fun ht113 => ?_)
      ·(try simp only [cmpI, errD_nil, qa, qb, qc, qd] at ht113)
       refine awp_region rfl ?_
       refine sP (opp_mv (v := .ptr _ _ _) rfl rfl) rfl rfl ?_
       refine sP (opp_fieldP rfl rfl fld105_1 rfl) rfl rfl ?_
       refine sP (opp_loadP rfl rfl rfl rfl bi rfl ty22) rfl rfl ?_
       refine sR (opr_call rfl rfl ent178 rfl (c178 b false (by omega)) (AViews.refl _ rfl)) rfl rfl rfl ?_ -- d=118 t=48 a=117
       refine sP (opp_nilCheckP rfl rfl) rfl rfl ?_
       refine sP (opp_fieldP rfl rfl fld61_7 rfl) rfl rfl ?_
       refine sR0 (opr_store (v := .sl _ _ _ _) (trn := (.agg [_, _, _, _, _, _, _, .sl _ _ _ _, _, _])) rfl rfl rfl rfl bi rfl rfl rfl rfl fr2 ty48 (fun _ _ h => h)) rfl rfl rfl ?_
       repeat (first | refine athen_ret ?_ | refine ain_ret ?_)
       refine gpost_ret (gends (l := []) true .nil (fun h => by cases h) .nil rfl .refl rfl (And.intro (Exists.intro _ (Exists.intro _ (And.intro rfl (And.intro shut (And.intro (fun h => by cases h) (And.intro ?_ rfl)))))) True.intro))
       ·exact .refl
      ·(try simp only [cmpI, errD_nil, qa, qb, qc, qd] at ht113)
       exfalso; first | omega | (simp at ht113; done)
theorem cg122f (b : List UInt8) (h0 : b.length ≤ 4294967296) (h5 : b.length % 5 = 0) (v : Nat → Value) (nn : Bool) (n : Nat) (f : Nat → AV) : AGen (V ea cds gl) 122 [.ptr 1 [] 0, rcAV ⟨5, false, b⟩] [(1, some (.agg [.val (v 0), .val (v 1), .val (v 2), .val (v 3), .val (v 4), .sl 2 nn n f, .val (v 6), .val (v 7), .val (v 8), .val (v 9)]))]
  (.tup []) [(1, some (.agg [.val (v 0), .val (v 1), .val (v 2), .val (v 3), .val (v 4), rowV 2 (Sp.timersOf b).length (tmAt (Sp.timersOf b)), .val (v 6), .val (v 7), .val (v 8), .val (v 9)]))] := by
 unfold rcAV
 refine agen_of_body (N := 163) Tryz.func122 rfl rfl (Nat.le_of_ble_eq_true rfl) fun C hV hN hM hO => ?_
 obtain ⟨_, _, w0, G0, σ0, _, own0⟩ := C; dsimp only at hV hN hM hO; subst hV; subst hN; subst hM
 refine awp_seq (awp_region rfl ?_)
 refine sR (opr_box (y := .agg _) (n := 3) rfl rfl rfl) rfl rfl rfl ?_
 refine awp_seq (awp_region rfl ?_)
 refine sP (opp_fieldP rfl rfl fld105_1 rfl) rfl rfl ?_
 refine sP (opp_loadP rfl rfl rfl rfl bi rfl ty22) rfl rfl ?_
 refine sR (opr_callO (rl := [(8, 16)]) (r1 := .ptr _ _ _) (H1 := [(16, some (.agg [.sl _ _ _ _, .int _ _, .int _ _]))]) (n1 := [16]) rfl rfl ent52 rfl (co52 b (by omega)) (AViews.refl _ rfl) rfl rfl rfl rfl) rfl rfl rfl ?_
 refine sP (opp_as (v := .ptr _ _ _) rfl rfl) rfl rfl ?_
 refine awp_seq (awp_region rfl ?_)
 refine sP (opp_fieldP rfl rfl fld105_0 rfl) rfl rfl ?_
 refine sP (opp_loadP rfl rfl rfl rfl bi rfl ty3) rfl rfl ?_
 refine awp_block (awp_seq (awp_region rfl ?_))
 refine sP (opp_cmp rfl rfl rfl rfl) rfl rfl ?_
 refine sP (opp_as (v := .bool _) rfl rfl) rfl rfl ?_
 refine awp_cond _ rfl (fun ht19 => ?_) (fun ht19 => ?_)
 ·(try simp only [cmpI, errD_nil, qa, qb, qc, qd] at ht19)
  exfalso; first | omega | (simp at ht19; done)
 ·(try simp only [cmpI, errD_nil, qa, qb, qc, qd] at ht19)
  refine awp_seq (awp_region rfl ?_)
  refine sP (opp_cmp rfl rfl rfl rfl) rfl rfl ?_
  refine sP (opp_as (v := .bool _) rfl rfl) rfl rfl ?_
  refine awp_cond _ rfl (fun ht37 => ?_) (fun ht37 => ?_)
  ·(try simp only [cmpI, errD_nil, qa, qb, qc, qd] at ht37)
   exfalso; first | omega | (simp at ht37; done)
  ·(try simp only [cmpI, errD_nil, qa, qb, qc, qd] at ht37)
   refine awp_seq (awp_region rfl ?_)
   refine sP (opp_cmp rfl rfl rfl rfl) rfl rfl ?_
   refine sP (opp_as (v := .bool _) rfl rfl) rfl rfl ?_
   refine awp_cond _ rfl (fun ht51 => ?_) (fun ht51 => ?_)
   ·(try simp only [cmpI, errD_nil, qa, qb, qc, qd] at ht51)
    exfalso; first | omega | (simp at ht51; done)
   ·(try simp only [cmpI, errD_nil, qa, qb, qc, qd] at ht51)
    refine awp_seq (awp_region rfl ?_)
    refine sP (opp_cmp rfl rfl rfl rfl) rfl rfl ?_
    refine sP (opp_as (v := .bool _) rfl rfl) rfl rfl ?_
    refine awp_cond _ rfl (fun ht59 => ?_) (fun ht59 => ?_)
    ·(try simp only [cmpI, errD_nil, qa, qb, qc, qd] at ht59)
     refine awp_seq (awp_region rfl ?_)
     refine sP (opp_mv (v := .ptr _ _ _) rfl rfl) rfl rfl ?_
     refine sP (opp_nilCheckP rfl rfl) rfl rfl ?_
     refine sP (opp_fieldP rfl rfl fld61_5 rfl) rfl rfl ?_
     refine sR0 (opr_store (v := .sl _ _ _ _) (trn := (.agg [_, _, _, _, _, .sl _ _ _ _, _, _, _, _])) rfl rfl rfl rfl bi rfl rfl rfl rfl fr2 ty56 (fun _ _ h => h)) rfl rfl rfl ?_
     refine awp_block ?_
     refine awp_loopK (ι := Nat × Bool) (fun p => 5 * p.1 ≤ b.length ∧ (p.2 = true ↔ p.1 = 0)) (fun p => [(5, .top), (6, .top), (7, .top), (8, .top), (64, .top), (65, .top), (66, .top), (67, .top), (68, .top), (69, .top), (70, .top), (71, .top), (72, .top), (73, .top), (74, .top), (75, .top), (76, .top), (77, .top), (78, .top), (79, .top), (80, .top), (81, .top), (82, .top), (83, .top), (84, .top), (85, .top), (86, .top), (87, .top), (88, .top)]) (fun p => [(16, some (.agg [.sl 1 false b.length (bAt b), .int .i64 ((5 * p.1 : Nat) : Int), .int .i64 (b.length : Int)])), (1, some (.agg [.val (v 0), .val (v 1), .val (v 2), .val (v 3), .val (v 4), cond p.2 (.sl 1 true 0 (fun _ => .top)) (.osl 1004 2 0 p.1 p.1), .val (v 6), .val (v 7), .val (v 8), .val (v 9)])), (1004, cond p.2 none (some (.arr 2 p.1 (tmAt (Sp.timersOf b)))))]) [1004] (fun p => b.length - p.1) ((0, true)) (⟨Nat.zero_le _, by simp⟩) (by
      refine imp_over [] rfl rfl (by kernel_rfl) ?_ ?_
      ·iterate 29 refine And.intro wkv ?_
       exact True.intro
      ·refine And.intro (And.intro rfl (And.intro rfl (Exists.intro _ (And.intro rfl wkc)))) ?_
       refine And.intro (And.intro rfl (And.intro rfl (Exists.intro _ (And.intro rfl wkc)))) ?_
       exact True.intro
      ) ?_
     intro p hi1; obtain ⟨i, e⟩ := p; rcases e with _ | _
     ·dsimp only [cond] at hi1 ⊢
      refine awp_seq (awp_seq (awp_region rfl ?_))
      refine sP (opp_mv (v := .ptr _ _ _) rfl rfl) rfl rfl ?_
      refine sR (opr_callG (rl := [(1, 16)]) (r1 := .int _ _) (H1 := [(16, some (.agg [.sl _ _ _ _, .int _ _, .int _ _]))]) (n1 := []) rfl rfl ent179 (cg179c b false (5 * i) b.length (by omega) (by omega)) (And.intro (And.intro rfl wka) True.intro) (And.intro (And.intro rfl (Exists.intro _ (And.intro rfl wkc))) True.intro) rfl rfl rfl rfl) rfl rfl rfl ?_
      refine sP (opp_cmp rfl rfl rfl rfl) rfl rfl ?_
      refine awp_cond _ rfl (fun ht66 => ?_) (fun ht66 => ?_)
      ·(try simp only [cmpI, errD_nil, qa, qb, qc, qd] at ht66)
       refine awp_skip (awp_block (awp_seq (awp_region rfl ?_)))
       refine sP (opp_mv (v := .ptr _ _ _) rfl rfl) rfl rfl ?_
       refine sR (opr_callG (rl := [(1, 16)]) (r1 := .tup [.int _ _, .err _]) (H1 := [(16, some (.agg [.sl _ _ _ _, .int _ _, .int _ _]))]) (n1 := []) rfl rfl ent180 (cg180c b false (5 * i) b.length (by omega) (by omega) (by omega)) (And.intro (And.intro rfl wka) True.intro) (And.intro (And.intro rfl (Exists.intro _ (And.intro rfl wkc))) True.intro) rfl rfl rfl rfl) rfl rfl rfl ?_
       refine sP (opp_mv (v := .tup _) rfl rfl) rfl rfl ?_
       refine sP (opp_extract rfl rfl rfl) rfl rfl ?_
       refine sP (opp_extract rfl rfl rfl) rfl rfl ?_
       refine sP (opp_as (v := .int _ _) rfl rfl) rfl rfl ?_
       refine sP (opp_as (v := .err _) rfl rfl) rfl rfl ?_
       refine awp_seq (awp_region rfl ?_)
       refine sP (opp_mv (v := .ptr _ _ _) rfl rfl) rfl rfl ?_
       refine sR (opr_callG (rl := [(1, 16)]) (r1 := .tup [.int _ _, .err _]) (H1 := [(16, some (.agg [.sl _ _ _ _, .int _ _, .int _ _]))]) (n1 := []) rfl rfl ent54 (cg54c b false (5 * i + 1) b.length (by omega) (by omega) (by omega)) (And.intro (And.intro rfl wka) True.intro) (And.intro (And.intro rfl (Exists.intro _ (And.intro rfl wkc))) True.intro) rfl rfl rfl rfl) rfl rfl rfl ?_
       refine sP (opp_mv (v := .tup _) rfl rfl) rfl rfl ?_
       refine sP (opp_extract rfl rfl rfl) rfl rfl ?_
       refine sP (opp_extract rfl rfl rfl) rfl rfl ?_
       refine sP (opp_as (v := .int _ _) rfl rfl) rfl rfl ?_
       refine sP (opp_as (v := .err _) rfl rfl) rfl rfl ?_
       refine awp_region rfl ?_
       refine sP (opp_mv (v := .ptr _ _ _) rfl rfl) rfl rfl ?_
       refine sP (opp_mv (v := .ptr _ _ _) rfl rfl) rfl rfl ?_
       refine sP (opp_nilCheckP rfl rfl) rfl rfl ?_
       refine sP (opp_fieldP rfl rfl fld61_5 rfl) rfl rfl ?_
       refine sP (opp_loadP rfl rfl rfl rfl bi rfl ty56) rfl rfl ?_
       refine sP (opp_mv (v := .int _ _) rfl rfl) rfl rfl ?_
       refine sP (opp_mv (v := .int _ _) rfl rfl) rfl rfl ?_
       refine sP (opp_build rfl z133 bld133 rfl [.int _ _, .int _ _] rfl) rfl rfl ?_
       refine sR (opr_buildSlice (n := 85) (g := fun j => if j = 0 then .agg _ else .agg [.int .i64 0, .int .i64 0]) rfl eb56 z133 (by decide) rfl rfl) rfl rfl rfl ?_
       refine sR (opr_append (d := 86) rfl rfl rfl (by omega) (.osl0 rfl (by omega)) eb56 z133 (by omega) (by omega)) rfl rfl rfl ?_
       refine sP (opp_nilCheckP rfl rfl) rfl rfl ?_
       refine sP (opp_fieldP rfl rfl fld61_5 rfl) rfl rfl ?_
       refine sR0 (opr_store (v := .osl _ _ _ _ _) (trn := (.agg [_, _, _, _, _, .osl _ _ _ _ _, _, _, _, _])) rfl rfl rfl rfl bi rfl rfl rfl rfl fr2 ty56 (fun _ _ h => h)) rfl rfl rfl ?_
       refine Exists.intro ((i + 1, false)) (And.intro (And.intro (And.intro (by show 5 * (i + 1) ≤ _; omega) (by simp)) (by first | omega | (dsimp only; omega))) (by
        refine imp_over [(1004, 86)] rfl rfl (by kernel_rfl) ?_ ?_
        ·iterate 29 refine And.intro wkv ?_
         exact True.intro
        ·refine And.intro (And.intro rfl (And.intro rfl (Exists.intro _ (And.intro rfl (by exact WkC.of (by show AV.agg [_, AV.int .i64 _, _] = AV.agg [_, AV.int .i64 _, _]; rw [show 5 * i + 1 + 4 = 5 * (i + 1) by omega]; rfl)))))) ?_
         refine And.intro (And.intro rfl (And.intro rfl (Exists.intro _ (And.intro rfl wkc)))) ?_
         refine And.intro (And.intro rfl (And.intro rfl (Exists.intro _ (And.intro rfl (by show WkC (AV.arr 2 _ _) (AV.arr 2 _ _); exact WkC.arr (fun j hj => by by_cases h : j < i; rw [if_pos h]; rw [if_neg h, show j = i by omega, if_pos (by omega), tms_get b i (by omega)])))))) ?_
         exact True.intro
        ))
      ·(try simp only [cmpI, errD_nil, qa, qb, qc, qd] at ht66)
       refine awp_exit ?_
       repeat (first | refine athen_ret ?_ | refine ain_ret ?_)
       refine gpost_ret (gends (l := []) true .nil (fun h => by cases h) .nil rfl .refl rfl (And.intro (Exists.intro _ (Exists.intro _ (And.intro rfl (And.intro shut (And.intro (fun h => by cases h) (And.intro ?_ rfl)))))) True.intro))
       ·have hie : i = b.length / 5 := by omega
        have hne : (Sp.timersOf b).length ≠ 0 := by rw [tms_len]; intro h; have h1 : i = 0 := (by omega); simp [h1] at hi1
        rw [rowV, tms_len, ← hie, show decide (i = 0) = false by rw [decide_eq_false_iff_not]; rw [tms_len] at hne; omega]; exact .refl
     ·dsimp only [cond] at hi1 ⊢
      refine awp_seq (awp_seq (awp_region rfl ?_))
      refine sP (opp_mv (v := .ptr _ _ _) rfl rfl) rfl rfl ?_
      refine sR (opr_callG (rl := [(1, 16)]) (r1 := .int _ _) (H1 := [(16, some (.agg [.sl _ _ _ _, .int _ _, .int _ _]))]) (n1 := []) rfl rfl ent179 (cg179c b false (5 * i) b.length (by omega) (by omega)) (And.intro (And.intro rfl wka) True.intro) (And.intro (And.intro rfl (Exists.intro _ (And.intro rfl wkc))) True.intro) rfl rfl rfl rfl) rfl rfl rfl ?_
      refine sP (opp_cmp rfl rfl rfl rfl) rfl rfl ?_
      refine awp_cond _ rfl (fun ht66 => ?_) (fun ht66 => ?_)
      ·(try simp only [cmpI, errD_nil, qa, qb, qc, qd] at ht66)
       refine awp_skip (awp_block (awp_seq (awp_region rfl ?_)))
       refine sP (opp_mv (v := .ptr _ _ _) rfl rfl) rfl rfl ?_
       refine sR (opr_callG (rl := [(1, 16)]) (r1 := .tup [.int _ _, .err _]) (H1 := [(16, some (.agg [.sl _ _ _ _, .int _ _, .int _ _]))]) (n1 := []) rfl rfl ent180 (cg180c b false (5 * i) b.length (by omega) (by omega) (by omega)) (And.intro (And.intro rfl wka) True.intro) (And.intro (And.intro rfl (Exists.intro _ (And.intro rfl wkc))) True.intro) rfl rfl rfl rfl) rfl rfl rfl ?_
       refine sP (opp_mv (v := .tup _) rfl rfl) rfl rfl ?_
       refine sP (opp_extract rfl rfl rfl) rfl rfl ?_
       refine sP (opp_extract rfl rfl rfl) rfl rfl ?_
       refine sP (opp_as (v := .int _ _) rfl rfl) rfl rfl ?_
       refine sP (opp_as (v := .err _) rfl rfl) rfl rfl ?_
       refine awp_seq (awp_region rfl ?_)
       refine sP (opp_mv (v := .ptr _ _ _) rfl rfl) rfl rfl ?_
       refine sR (opr_callG (rl := [(1, 16)]) (r1 := .tup [.int _ _, .err _]) (H1 := [(16, some (.agg [.sl _ _ _ _, .int _ _, .int _ _]))]) (n1 := []) rfl rfl ent54 (cg54c b false (5 * i + 1) b.length (by omega) (by omega) (by omega)) (And.intro (And.intro rfl wka) True.intro) (And.intro (And.intro rfl (Exists.intro _ (And.intro rfl wkc))) True.intro) rfl rfl rfl rfl) rfl rfl rfl ?_
       refine sP (opp_mv (v := .tup _) rfl rfl) rfl rfl ?_
       refine sP (opp_extract rfl rfl rfl) rfl rfl ?_
       refine sP (opp_extract rfl rfl rfl) rfl rfl ?_
       refine sP (opp_as (v := .int _ _) rfl rfl) rfl rfl ?_
       refine sP (opp_as (v := .err _) rfl rfl) rfl rfl ?_
       refine awp_region rfl ?_
       refine sP (opp_mv (v := .ptr _ _ _) rfl rfl) rfl rfl ?_
       refine sP (opp_mv (v := .ptr _ _ _) rfl rfl) rfl rfl ?_
       refine sP (opp_nilCheckP rfl rfl) rfl rfl ?_
       refine sP (opp_fieldP rfl rfl fld61_5 rfl) rfl rfl ?_
       refine sP (opp_loadP rfl rfl rfl rfl bi rfl ty56) rfl rfl ?_
       refine sP (opp_mv (v := .int _ _) rfl rfl) rfl rfl ?_
       refine sP (opp_mv (v := .int _ _) rfl rfl) rfl rfl ?_
       refine sP (opp_build rfl z133 bld133 rfl [.int _ _, .int _ _] rfl) rfl rfl ?_
       refine sR (opr_buildSlice (n := 85) (g := fun j => if j = 0 then .agg _ else .agg [.int .i64 0, .int .i64 0]) rfl eb56 z133 (by decide) rfl rfl) rfl rfl rfl ?_
       refine sR (opr_appendNil (d := 86) rfl rfl (.osl0 rfl (by omega)) eb56 z133 (by omega) (by omega) (by omega)) rfl rfl rfl ?_
       refine sP (opp_nilCheckP rfl rfl) rfl rfl ?_
       refine sP (opp_fieldP rfl rfl fld61_5 rfl) rfl rfl ?_
       refine sR0 (opr_store (v := .osl _ _ _ _ _) (trn := (.agg [_, _, _, _, _, .osl _ _ _ _ _, _, _, _, _])) rfl rfl rfl rfl bi rfl rfl rfl rfl fr2 ty56 (fun _ _ h => h)) rfl rfl rfl ?_
       have hi0 : i = 0 := hi1.2.1 rfl
       refine Exists.intro ((i + 1, false)) (And.intro (And.intro (And.intro (by show 5 * (i + 1) ≤ _; omega) (by simp)) (by first | omega | (dsimp only; omega))) (by
        refine imp_over [(1004, 86)] rfl rfl (by kernel_rfl) ?_ ?_
        ·iterate 29 refine And.intro wkv ?_
         exact True.intro
        ·refine And.intro (And.intro rfl (And.intro rfl (Exists.intro _ (And.intro rfl (by exact WkC.of (by show AV.agg [_, AV.int .i64 _, _] = AV.agg [_, AV.int .i64 _, _]; rw [show 5 * i + 1 + 4 = 5 * (i + 1) by omega]; rfl)))))) ?_
         refine And.intro (And.intro rfl (And.intro rfl (Exists.intro _ (And.intro rfl (by subst hi0; exact WkC.refl _))))) ?_
         refine And.intro (And.intro rfl (And.intro rfl (Exists.intro _ (And.intro rfl (by show WkC (AV.arr 2 _ _) (AV.arr 2 _ _); subst hi0; exact WkC.arr (fun j hj => by rw [show j = 0 by omega, tms_get b 0 (by omega)]; rfl)))))) ?_
         exact True.intro
        ))
      ·(try simp only [cmpI, errD_nil, qa, qb, qc, qd] at ht66)
       refine awp_exit ?_
       repeat (first | refine athen_ret ?_ | refine ain_ret ?_)
       refine gpost_ret (gends (l := []) true .nil (fun h => by cases h) .nil rfl .refl rfl (And.intro (Exists.intro _ (Exists.intro _ (And.intro rfl (And.intro shut (And.intro (fun h => by cases h) (And.intro ?_ rfl)))))) True.intro))
       ·have hi0 : i = 0 := hi1.2.1 rfl
        have hie : b.length / 5 = 0 := by omega
        rw [rowV, tms_len, hie]; exact .agg (.cons .refl (.cons .refl (.cons .refl (.cons .refl (.cons .refl (.cons .sl0 (.cons .refl (.cons .refl (.cons .refl (.cons .refl .nil))))))))))
    ·(try simp only [cmpI, errD_nil, qa, qb, qc, qd] at ht59)
     exfalso; first | omega | (simp at ht59; done)
end
end Go.Proofs.YtpmgdmbcdohgcaaGreatDoor
/- Layer 16: a record put to a state, the other tags (walks over this dump). -/
namespace Go.Proofs.YtpmgdmbcdohgcaaGreatDoor
attribute [local irreducible] Tryz.prog
open Go.Fy
set_option linter.unusedSimpArgs false
set_option linter.unusedVariables false
def ups (b : List UInt8) : List Bool := b.map fun c => decide (c.toNat = 1)
theorem ups_len (b : List UInt8) : (ups b).length = b.length := by simp [ups]
theorem ups_get (b : List UInt8) (j : Nat) (h : j < b.length) : boolAt (ups b) j = .bool (decide (((b.getD j 0).toNat : Int) = 1)) := by
  simp only [boolAt, ups, List.getD_eq_getElem?_getD, List.getElem?_map, List.getElem?_eq_getElem h, Option.map_some, Option.getD_some]
  congr 1; rw [decide_eq_decide]; omega
theorem pg_eq (b : List UInt8) (h : b.length = 65) : AV.agg [.int .i64 0, .bool (cmpI .eql ((b.getD (Int.toNat 0) 0).toNat : Int) 1), .arr 1 64 fun j => if j < min ((b.length : Int) - 1).toNat (((64 : Nat) : Int) - 0).toNat then bAt b (Int.toNat 1 + j) else .int .u8 0] = pgAV (Sp.page b) := by
  have e1 : cmpI .eql ((b.getD (Int.toNat 0) 0).toNat : Int) 1 = (Sp.page b).dirty := by
    show decide _ = decide _
    rw [decide_eq_decide]; show ((b.getD 0 0).toNat : Int) = 1 ↔ _; omega
  have e2 : (fun j => if j < min ((b.length : Int) - 1).toNat (((64 : Nat) : Int) - 0).toNat then bAt b (Int.toNat 1 + j) else AV.int .u8 0) = bAt (Sp.page b).data := by
    funext j
    by_cases hj : j < 64
    · rw [if_pos (by omega)]; exact (bAt_drop b 1 j).symm
    · rw [if_neg (by omega)]; simp only [bAt, Sp.page, List.getD_eq_getElem?_getD]; rw [List.getElem?_eq_none (by rw [List.length_drop]; omega)]; rfl
  rw [e1, e2]; rfl
section
variable {ea : Nat → Addr} {cds : List Nat} {gl : Nat → Option AV}
theorem cg122g (b : List UInt8) (h0 : b.length ≤ 4294967296) (v : Nat → Value) (nn : Bool) (n : Nat) (f : Nat → AV) : AGen (V ea cds gl) 122 [.ptr 1 [] 0, rcAV ⟨6, false, b⟩] [(1, some (.agg [.val (v 0), .val (v 1), .val (v 2), .val (v 3), .val (v 4), .val (v 5), .sl 1 nn n f, .val (v 7), .val (v 8), .val (v 9)]))]
  (.tup []) [(1, some (.agg [.val (v 0), .val (v 1), .val (v 2), .val (v 3), .val (v 4), .val (v 5), rowV 1 (ups b).length (boolAt (ups b)), .val (v 7), .val (v 8), .val (v 9)]))] := by
 unfold rcAV; dsimp only
 refine agen_of_body (N := 163) Tryz.func122 rfl rfl (Nat.le_of_ble_eq_true rfl) fun C hV hN hM hO => ?_
 obtain ⟨_, _, w0, G0, σ0, _, own0⟩ := C; dsimp only at hV hN hM hO; subst hV; subst hN; subst hM
 refine awp_seq (awp_region rfl ?_)
 refine sR (opr_box (y := .agg _) (n := 3) rfl rfl rfl) rfl rfl rfl ?_
 refine awp_seq (awp_region rfl ?_)
 refine sP (opp_fieldP rfl rfl fld105_1 rfl) rfl rfl ?_
 refine sP (opp_loadP rfl rfl rfl rfl bi rfl ty22) rfl rfl ?_
 refine sR (opr_callO (rl := [(8, 16)]) (r1 := .ptr _ _ _) (H1 := [(16, some (.agg [.sl _ _ _ _, .int _ _, .int _ _]))]) (n1 := [16]) rfl rfl ent52 rfl (co52 b (by omega)) (AViews.refl _ rfl) rfl rfl rfl rfl) rfl rfl rfl ?_
 refine sP (opp_as (v := .ptr _ _ _) rfl rfl) rfl rfl ?_
 refine awp_seq (awp_region rfl ?_)
 refine sP (opp_fieldP rfl rfl fld105_0 rfl) rfl rfl ?_
 refine sP (opp_loadP rfl rfl rfl rfl bi rfl ty3) rfl rfl ?_
 refine awp_block (awp_seq (awp_region rfl ?_))
 refine sP (opp_cmp rfl rfl rfl rfl) rfl rfl ?_
 refine sP (opp_as (v := .bool _) rfl rfl) rfl rfl ?_
 refine awp_cond _ rfl (fun ht19 => ?_) (fun ht19 => ?_)
 ·(try simp only [cmpI, errD_nil, qa, qb, qc, qd] at ht19)
  exfalso; first | omega | (simp at ht19; done)
 ·(try simp only [cmpI, errD_nil, qa, qb, qc, qd] at ht19)
  refine awp_seq (awp_region rfl ?_)
  refine sP (opp_cmp rfl rfl rfl rfl) rfl rfl ?_
  refine sP (opp_as (v := .bool _) rfl rfl) rfl rfl ?_
  refine awp_cond _ rfl (fun ht37 => ?_) (fun ht37 => ?_)
  ·(try simp only [cmpI, errD_nil, qa, qb, qc, qd] at ht37)
   exfalso; first | omega | (simp at ht37; done)
  ·(try simp only [cmpI, errD_nil, qa, qb, qc, qd] at ht37)
   refine awp_seq (awp_region rfl ?_)
   refine sP (opp_cmp rfl rfl rfl rfl) rfl rfl ?_
   refine sP (opp_as (v := .bool _) rfl rfl) rfl rfl ?_
   refine awp_cond _ rfl (fun ht51 => ?_) (fun ht51 => ?_)
   ·(try simp only [cmpI, errD_nil, qa, qb, qc, qd] at ht51)
    exfalso; first | omega | (simp at ht51; done)
   ·(try simp only [cmpI, errD_nil, qa, qb, qc, qd] at ht51)
    refine awp_seq (awp_region rfl ?_)
    refine sP (opp_cmp rfl rfl rfl rfl) rfl rfl ?_
    refine sP (opp_as (v := .bool _) rfl rfl) rfl rfl ?_
    refine awp_cond _ rfl (fun ht59 => ?_) (fun ht59 => ?_)
    ·(try simp only [cmpI, errD_nil, qa, qb, qc, qd] at ht59)
     exfalso; first | omega | (simp at ht59; done)
    ·(try simp only [cmpI, errD_nil, qa, qb, qc, qd] at ht59)
     refine awp_seq (awp_region rfl ?_)
     refine sP (opp_cmp rfl rfl rfl rfl) rfl rfl ?_
     refine sP (opp_as (v := .bool _) rfl rfl) rfl rfl ?_
     refine awp_cond _ rfl (fun ht89 => ?_) (fun ht89 => ?_)
     ·(try simp only [cmpI, errD_nil, qa, qb, qc, qd] at ht89)
      refine awp_seq (awp_region rfl ?_)
      refine sP (opp_mv (v := .ptr _ _ _) rfl rfl) rfl rfl ?_
      refine sP (opp_nilCheckP rfl rfl) rfl rfl ?_
      refine sP (opp_fieldP rfl rfl fld61_6 rfl) rfl rfl ?_
      refine sR0 (opr_store (v := .sl _ _ _ _) (trn := (.agg [_, _, _, _, _, _, .sl _ _ _ _, _, _, _])) rfl rfl rfl rfl bi rfl rfl rfl rfl fr2 ty57 (fun _ _ h => h)) rfl rfl rfl ?_
      refine awp_seq (awp_region rfl ?_)
      refine sP (opp_fieldP rfl rfl fld105_1 rfl) rfl rfl ?_
      refine sP (opp_loadP rfl rfl rfl rfl bi rfl ty22) rfl rfl ?_
      refine sP (opp_lenSl rfl rfl un22) rfl rfl ?_
      refine sP (opp_mv (v := .int _ _) rfl rfl) rfl rfl ?_
      refine awp_block ?_
      refine awp_loopK (ι := Nat × Bool) (fun p => p.1 ≤ b.length ∧ (p.2 = true ↔ p.1 = 0)) (fun p => [(10, .top), (97, .int .i64 (p.1 : Int)), (98, .top), (99, .top), (100, .top), (101, .top), (102, .top), (103, .top), (104, .top), (105, .top), (106, .top), (107, .top), (108, .top), (109, .top), (110, .top), (111, .top), (112, .top)]) (fun p => [(1, some (.agg [.val (v 0), .val (v 1), .val (v 2), .val (v 3), .val (v 4), .val (v 5), cond p.2 (.sl 1 true 0 (fun _ => .top)) (.osl 1004 1 0 p.1 p.1), .val (v 7), .val (v 8), .val (v 9)])), (1004, cond p.2 none (some (.arr 1 p.1 (boolAt (ups b)))))]) [1004] (fun p => b.length - p.1) ((0, true)) (⟨Nat.zero_le _, by simp⟩) (by
       refine imp_over [] rfl rfl (by kernel_rfl) ?_ ?_
       ·iterate 17 refine And.intro wkv ?_
        exact True.intro
       ·refine And.intro (And.intro rfl (And.intro rfl (Exists.intro _ (And.intro rfl wkc)))) ?_
        exact True.intro
       ) ?_
      intro p hi1; obtain ⟨i, e⟩ := p; rcases e with _ | _
      ·dsimp only [cond] at hi1 ⊢
       refine awp_seq (awp_region rfl ?_)
       refine sP (opp_cmp rfl rfl rfl rfl) rfl rfl ?_
       refine awp_seq ?_
       refine awp_cond _ rfl (fun ht98 => ?_) (fun ht98 => ?_)
       ·(try simp only [cmpI, errD_nil, qa, qb, qc, qd] at ht98)
        refine awp_skip (awp_seq (awp_block (awp_seq ?_)))
        have hby := (b.getD i 0).toNat_lt
        refine awp_region rfl ?_
        refine sP (opp_indexSl rfl rfl rfl el22 (by omega) (by omega)) rfl rfl ?_
        refine sP (opp_loadF rfl rfl ty5) rfl rfl ?_
        refine sP (opp_as (v := .int _ _) rfl rfl) rfl rfl ?_
        refine awp_region rfl ?_
        refine sP (opp_mv (v := .ptr _ _ _) rfl rfl) rfl rfl ?_
        refine sP (opp_mv (v := .ptr _ _ _) rfl rfl) rfl rfl ?_
        refine sP (opp_nilCheckP rfl rfl) rfl rfl ?_
        refine sP (opp_fieldP rfl rfl fld61_6 rfl) rfl rfl ?_
        refine sP (opp_loadP rfl rfl rfl rfl bi rfl ty57) rfl rfl ?_
        refine sP (opp_mv (v := .int _ _) rfl rfl) rfl rfl ?_
        refine sP (opp_cmp rfl rfl rfl rfl) rfl rfl ?_
        refine sR (opr_buildSlice (n := 108) (g := fun j => if j = 0 then .bool _ else .bool false) rfl eb57 z4 (by decide) rfl rfl) rfl rfl rfl ?_
        refine sR (opr_append (d := 109) rfl rfl rfl (by omega) (.osl0 rfl (by omega)) eb57 z4 (by omega) (by omega)) rfl rfl rfl ?_
        refine sP (opp_nilCheckP rfl rfl) rfl rfl ?_
        refine sP (opp_fieldP rfl rfl fld61_6 rfl) rfl rfl ?_
        refine sR0 (opr_store (v := .osl _ _ _ _ _) (trn := (.agg [_, _, _, _, _, _, .osl _ _ _ _ _, _, _, _])) rfl rfl rfl rfl bi rfl rfl rfl rfl fr2 ty57 (fun _ _ h => h)) rfl rfl rfl ?_
        refine awp_region rfl ?_
        refine sP (opp_arith rfl rfl rfl (.inl ⟨rfl, w64 (by omega)⟩)) rfl rfl ?_
        refine sP (opp_mv (v := .int _ _) rfl rfl) rfl rfl ?_
        refine Exists.intro ((i + 1, false)) (And.intro (And.intro (And.intro (by show i + 1 ≤ _; omega) (by simp)) (by first | omega | (dsimp only; omega))) (by
         refine imp_over [(1004, 109)] rfl rfl (by kernel_rfl) ?_ ?_
         ·iterate 17 refine And.intro wkv ?_
          exact True.intro
         ·refine And.intro (And.intro rfl (And.intro rfl (Exists.intro _ (And.intro rfl wkc)))) ?_
          refine And.intro (And.intro rfl (And.intro rfl (Exists.intro _ (And.intro rfl (by show WkC (AV.arr 1 _ _) (AV.arr 1 _ _); exact WkC.arr (fun j hj => by by_cases h : j < i; rw [if_pos h]; rw [if_neg h, show j = i by omega, if_pos (by omega), ups_get b i (by omega)]; rfl)))))) ?_
          exact True.intro
         ))
       ·(try simp only [cmpI, errD_nil, qa, qb, qc, qd] at ht98)
        refine awp_exit ?_
        repeat (first | refine athen_ret ?_ | refine ain_ret ?_)
        refine gpost_ret (gends (l := []) true .nil (fun h => by cases h) .nil rfl .refl rfl (And.intro (Exists.intro _ (Exists.intro _ (And.intro rfl (And.intro shut (And.intro (fun h => by cases h) (And.intro ?_ rfl)))))) True.intro))
        ·have hie : i = b.length := by omega
         have hne : i ≠ 0 := by intro h; simp [h] at hi1
         rw [rowV, ups_len, ← hie, show decide (i = 0) = false by rw [decide_eq_false_iff_not]; exact hne]; exact .refl
      ·dsimp only [cond] at hi1 ⊢
       refine awp_seq (awp_region rfl ?_)
       refine sP (opp_cmp rfl rfl rfl rfl) rfl rfl ?_
       refine awp_seq ?_
       refine awp_cond _ rfl (fun ht98 => ?_) (fun ht98 => ?_)
       ·(try simp only [cmpI, errD_nil, qa, qb, qc, qd] at ht98)
        refine awp_skip (awp_seq (awp_block (awp_seq ?_)))
        have hby := (b.getD i 0).toNat_lt
        refine awp_region rfl ?_
        refine sP (opp_indexSl rfl rfl rfl el22 (by omega) (by omega)) rfl rfl ?_
        refine sP (opp_loadF rfl rfl ty5) rfl rfl ?_
        refine sP (opp_as (v := .int _ _) rfl rfl) rfl rfl ?_
        refine awp_region rfl ?_
        refine sP (opp_mv (v := .ptr _ _ _) rfl rfl) rfl rfl ?_
        refine sP (opp_mv (v := .ptr _ _ _) rfl rfl) rfl rfl ?_
        refine sP (opp_nilCheckP rfl rfl) rfl rfl ?_
        refine sP (opp_fieldP rfl rfl fld61_6 rfl) rfl rfl ?_
        refine sP (opp_loadP rfl rfl rfl rfl bi rfl ty57) rfl rfl ?_
        refine sP (opp_mv (v := .int _ _) rfl rfl) rfl rfl ?_
        refine sP (opp_cmp rfl rfl rfl rfl) rfl rfl ?_
        refine sR (opr_buildSlice (n := 108) (g := fun j => if j = 0 then .bool _ else .bool false) rfl eb57 z4 (by decide) rfl rfl) rfl rfl rfl ?_
        refine sR (opr_appendNil (d := 109) rfl rfl (.osl0 rfl (by omega)) eb57 z4 (by omega) (by omega) (by omega)) rfl rfl rfl ?_
        refine sP (opp_nilCheckP rfl rfl) rfl rfl ?_
        refine sP (opp_fieldP rfl rfl fld61_6 rfl) rfl rfl ?_
        refine sR0 (opr_store (v := .osl _ _ _ _ _) (trn := (.agg [_, _, _, _, _, _, .osl _ _ _ _ _, _, _, _])) rfl rfl rfl rfl bi rfl rfl rfl rfl fr2 ty57 (fun _ _ h => h)) rfl rfl rfl ?_
        refine awp_region rfl ?_
        refine sP (opp_arith rfl rfl rfl (.inl ⟨rfl, w64 (by omega)⟩)) rfl rfl ?_
        refine sP (opp_mv (v := .int _ _) rfl rfl) rfl rfl ?_
        have hi0 : i = 0 := hi1.2.1 rfl
        refine Exists.intro ((i + 1, false)) (And.intro (And.intro (And.intro (by show i + 1 ≤ _; omega) (by simp)) (by first | omega | (dsimp only; omega))) (by
         refine imp_over [(1004, 109)] rfl rfl (by kernel_rfl) ?_ ?_
         ·iterate 17 refine And.intro wkv ?_
          exact True.intro
         ·refine And.intro (And.intro rfl (And.intro rfl (Exists.intro _ (And.intro rfl (by subst hi0; exact WkC.refl _))))) ?_
          refine And.intro (And.intro rfl (And.intro rfl (Exists.intro _ (And.intro rfl (by show WkC (AV.arr 1 _ _) (AV.arr 1 _ _); subst hi0; exact WkC.arr (fun j hj => by rw [show j = 0 by omega, ups_get b 0 (by omega)]; rfl)))))) ?_
          exact True.intro
         ))
       ·(try simp only [cmpI, errD_nil, qa, qb, qc, qd] at ht98)
        refine awp_exit ?_
        repeat (first | refine athen_ret ?_ | refine ain_ret ?_)
        refine gpost_ret (gends (l := []) true .nil (fun h => by cases h) .nil rfl .refl rfl (And.intro (Exists.intro _ (Exists.intro _ (And.intro rfl (And.intro shut (And.intro (fun h => by cases h) (And.intro ?_ rfl)))))) True.intro))
        ·have hi0 : i = 0 := hi1.2.1 rfl
         have hie : b.length = 0 := by omega
         rw [rowV, ups_len, hie]; exact .agg (.cons .refl (.cons .refl (.cons .refl (.cons .refl (.cons .refl (.cons .refl (.cons .sl0 (.cons .refl (.cons .refl (.cons .refl .nil))))))))))
     ·(try simp only [cmpI, errD_nil, qa, qb, qc, qd] at ht89)
      exfalso; first | omega | (simp at ht89; done)
theorem cg122h (b : List UInt8) (h0 : b.length ≤ 4294967296) (v : Nat → Value) (l : List Pt) (hl : l.length ≤ 4294967296) (hG1 : gl 1 = some (.err (.code 1))) (hG7 : gl 7 = some (.err (.code 2))) :
  AGen (V ea cds gl) 122 [.ptr 1 [] 0, rcAV ⟨8, false, b⟩] [(1, some (.agg [.val (v 0), .val (v 1), .val (v 2), .val (v 3), .val (v 4), .val (v 5), .val (v 6), .val (v 7), .osl 2 2 0 l.length l.length, .val (v 9)])), (2, some (.arr 2 l.length (ptAt l)))]
  (.tup []) [(1, some (.agg [.val (v 0), .val (v 1), .val (v 2), .val (v 3), .val (v 4), .val (v 5), .val (v 6), .val (v 7), .osl 136 2 0 (l.length + 1) (l.length + 1), .val (v 9)])), (2, none), (136, some (.arr 2 (l.length + 1) (ptAt (l ++ [(Sp.portQ b).1]))))] := by
 unfold rcAV; dsimp only
 refine agen_of_body (N := 163) Tryz.func122 rfl rfl (Nat.le_of_ble_eq_true rfl) fun C hV hN hM hO => ?_
 obtain ⟨_, _, w0, G0, σ0, _, own0⟩ := C; dsimp only at hV hN hM hO; subst hV; subst hN; subst hM
 refine awp_seq (awp_region rfl ?_)
 refine sR (opr_box (y := .agg _) (n := 3) rfl rfl rfl) rfl rfl rfl ?_
 refine awp_seq (awp_region rfl ?_)
 refine sP (opp_fieldP rfl rfl fld105_1 rfl) rfl rfl ?_
 refine sP (opp_loadP rfl rfl rfl rfl bi rfl ty22) rfl rfl ?_
 refine sR (opr_callO (rl := [(8, 16)]) (r1 := .ptr _ _ _) (H1 := [(16, some (.agg [.sl _ _ _ _, .int _ _, .int _ _]))]) (n1 := [16]) rfl rfl ent52 rfl (co52 b (by omega)) (AViews.refl _ rfl) rfl rfl rfl rfl) rfl rfl rfl ?_
 refine sP (opp_as (v := .ptr _ _ _) rfl rfl) rfl rfl ?_
 refine awp_seq (awp_region rfl ?_)
 refine sP (opp_fieldP rfl rfl fld105_0 rfl) rfl rfl ?_
 refine sP (opp_loadP rfl rfl rfl rfl bi rfl ty3) rfl rfl ?_
 refine awp_block (awp_seq (awp_region rfl ?_))
 refine sP (opp_cmp rfl rfl rfl rfl) rfl rfl ?_
 refine sP (opp_as (v := .bool _) rfl rfl) rfl rfl ?_
 refine awp_cond _ rfl (fun ht19 => ?_) (fun ht19 => ?_)
 ·(try simp only [cmpI, errD_nil, qa, qb, qc, qd] at ht19)
  exfalso; first | omega | (simp at ht19; done)
 ·(try simp only [cmpI, errD_nil, qa, qb, qc, qd] at ht19)
  refine awp_seq (awp_region rfl ?_)
  refine sP (opp_cmp rfl rfl rfl rfl) rfl rfl ?_
  refine sP (opp_as (v := .bool _) rfl rfl) rfl rfl ?_
  refine awp_cond _ rfl (fun ht37 => ?_) (fun ht37 => ?_)
  ·(try simp only [cmpI, errD_nil, qa, qb, qc, qd] at ht37)
   exfalso; first | omega | (simp at ht37; done)
  ·(try simp only [cmpI, errD_nil, qa, qb, qc, qd] at ht37)
   refine awp_seq (awp_region rfl ?_)
   refine sP (opp_cmp rfl rfl rfl rfl) rfl rfl ?_
   refine sP (opp_as (v := .bool _) rfl rfl) rfl rfl ?_
   refine awp_cond _ rfl (fun ht51 => ?_) (fun ht51 => ?_)
   ·(try simp only [cmpI, errD_nil, qa, qb, qc, qd] at ht51)
    exfalso; first | omega | (simp at ht51; done)
   ·(try simp only [cmpI, errD_nil, qa, qb, qc, qd] at ht51)
    refine awp_seq (awp_region rfl ?_)
    refine sP (opp_cmp rfl rfl rfl rfl) rfl rfl ?_
    refine sP (opp_as (v := .bool _) rfl rfl) rfl rfl ?_
    refine awp_cond _ rfl (fun ht59 => ?_) (fun ht59 => ?_)
    ·(try simp only [cmpI, errD_nil, qa, qb, qc, qd] at ht59)
     exfalso; first | omega | (simp at ht59; done)
    ·(try simp only [cmpI, errD_nil, qa, qb, qc, qd] at ht59)
     refine awp_seq (awp_region rfl ?_)
     refine sP (opp_cmp rfl rfl rfl rfl) rfl rfl ?_
     refine sP (opp_as (v := .bool _) rfl rfl) rfl rfl ?_
     refine awp_cond _ rfl (fun ht89 => ?_) (fun ht89 => ?_)
     ·(try simp only [cmpI, errD_nil, qa, qb, qc, qd] at ht89)
      exfalso; first | omega | (simp at ht89; done)
     ·(try simp only [cmpI, errD_nil, qa, qb, qc, qd] at ht89)
      refine awp_seq (awp_region rfl ?_)
      refine sP (opp_cmp rfl rfl rfl rfl) rfl rfl ?_
      refine sP (opp_as (v := .bool _) rfl rfl) rfl rfl ?_
      refine awp_cond _ rfl (fun ht113 => ?_) (fun ht113 => ?_)
      ·(try simp only [cmpI, errD_nil, qa, qb, qc, qd] at ht113)
       exfalso; first | omega | (simp at ht113; done)
      ·(try simp only [cmpI, errD_nil, qa, qb, qc, qd] at ht113)
       refine awp_seq (awp_region rfl ?_)
       refine sP (opp_cmp rfl rfl rfl rfl) rfl rfl ?_
       refine sP (opp_as (v := .bool _) rfl rfl) rfl rfl ?_
       refine awp_cond _ rfl (fun ht121 => ?_) (fun ht121 => ?_)
       ·(try simp only [cmpI, errD_nil, qa, qb, qc, qd] at ht121)
        refine awp_seq (awp_region rfl ?_)
        refine sP (opp_fieldP rfl rfl fld105_1 rfl) rfl rfl ?_
        refine sP (opp_loadP rfl rfl rfl rfl bi rfl ty22) rfl rfl ?_
        refine sR (opr_call rfl rfl ent176 rfl (c176 b (by omega) hG1 hG7) (AViews.refl _ rfl)) rfl rfl rfl ?_ -- d=126 t=277 a=125
        refine sP (opp_mv (v := .tup _) rfl rfl) rfl rfl ?_
        refine sP (opp_extract rfl rfl rfl) rfl rfl ?_
        refine sP (opp_extract rfl rfl rfl) rfl rfl ?_
        refine sR (opr_alloc (n := 11) rfl z107) rfl rfl rfl ?_
        refine sR0 (opr_store (v := .agg _) (trn := (.agg _)) rfl rfl rfl rfl bi rfl rfl rfl rfl fr2 ty107 (fun _ _ h => h)) rfl rfl rfl ?_
        refine sP (opp_as (v := .bool _) rfl rfl) rfl rfl ?_
        refine awp_draw hmix rfl (by kernel_rfl) ?_
        refine dP (fun _ => false) (opp_mv (v := .ptr _ _ _) rfl rfl) rfl rfl ?_
        refine dP (fun _ => false) (opp_mv (v := .ptr _ _ _) rfl rfl) rfl rfl ?_
        refine dP (fun _ => false) (opp_nilCheckP rfl rfl) rfl rfl ?_
        refine dP (fun _ => false) (opp_fieldP rfl rfl fld61_8 rfl) rfl rfl ?_
        refine dP (fun n => Nat.beq n 1) (opp_loadP rfl rfl rfl rfl bi rfl ty58) rfl rfl ?_
        refine dP (fun n => Nat.beq n 11) (opp_loadP rfl rfl rfl rfl bi rfl ty107) rfl rfl ?_
        refine dR (fun _ => false) (opr_buildSlice (n := 135) (g := fun j => if j = 0 then .agg _ else .agg [.sl 1 true 0 (fun _ => .top), .int .i64 0]) rfl eb58 z107 (by decide) rfl rfl) rfl rfl rfl ?_
        refine dR (fun n => !([] : List Nat).contains n) (opr_append (d := 136) rfl rfl rfl (by omega) (.osl0 rfl (by omega)) eb58 z107 (by omega) (by omega)) rfl rfl rfl ?_
        refine dP (fun _ => false) (opp_nilCheckP rfl rfl) rfl rfl ?_
        refine dP (fun _ => false) (opp_fieldP rfl rfl fld61_8 rfl) rfl rfl ?_
        refine dR0 (fun n => Nat.beq n 1) (opr_store (v := .osl _ _ _ _ _) (trn := (.agg [_, _, _, _, _, _, _, _, .osl _ _ _ _ _, _])) rfl rfl rfl rfl bi rfl rfl rfl rfl fr2 ty58 (fun _ _ h => h)) rfl rfl rfl ?_
        refine And.intro (by kernel_rfl) ?_
        repeat (first | refine athen_ret ?_ | refine ain_ret ?_)
        refine gpost_ret (gends (l := []) false .nil (fun h => by cases h) .nil rfl .refl rfl (And.intro (Exists.intro _ (Exists.intro _ (And.intro rfl (And.intro shut (And.intro (fun h => by cases h) (And.intro ?_ rfl)))))) (And.intro (Exists.intro _ (Exists.intro _ (And.intro rfl (And.intro shut (And.intro (fun h => by cases h) (And.intro ?_ rfl)))))) True.intro)))
        ·exact .refl
        ·exact .arr (fun j hj => by by_cases h : j < l.length; rw [if_pos h, ptAt, ptAt, snoc_lt _ _ _ _ h]; rw [if_neg h, if_pos (by omega), ptAt, snoc_eq _ _ _ _ (by omega)]; rfl)
       ·(try simp only [cmpI, errD_nil, qa, qb, qc, qd] at ht121)
        exfalso; first | omega | (simp at ht121; done)
theorem cg122i (b : List UInt8) (h0 : b.length ≤ 4294967296) (v : Nat → Value) (f : Nat → AV) (hG1 : gl 1 = some (.err (.code 1))) (hG7 : gl 7 = some (.err (.code 2))) :
  AGen (V ea cds gl) 122 [.ptr 1 [] 0, rcAV ⟨8, false, b⟩] [(1, some (.agg [.val (v 0), .val (v 1), .val (v 2), .val (v 3), .val (v 4), .val (v 5), .val (v 6), .val (v 7), .sl 2 true 0 f, .val (v 9)]))]
  (.tup []) [(1, some (.agg [.val (v 0), .val (v 1), .val (v 2), .val (v 3), .val (v 4), .val (v 5), .val (v 6), .val (v 7), .osl 136 2 0 1 1, .val (v 9)])), (136, some (.arr 2 1 (ptAt [(Sp.portQ b).1])))] := by
 unfold rcAV; dsimp only
 refine agen_of_body (N := 163) Tryz.func122 rfl rfl (Nat.le_of_ble_eq_true rfl) fun C hV hN hM hO => ?_
 obtain ⟨_, _, w0, G0, σ0, _, own0⟩ := C; dsimp only at hV hN hM hO; subst hV; subst hN; subst hM
 refine awp_seq (awp_region rfl ?_)
 refine sR (opr_box (y := .agg _) (n := 3) rfl rfl rfl) rfl rfl rfl ?_
 refine awp_seq (awp_region rfl ?_)
 refine sP (opp_fieldP rfl rfl fld105_1 rfl) rfl rfl ?_
 refine sP (opp_loadP rfl rfl rfl rfl bi rfl ty22) rfl rfl ?_
 refine sR (opr_callO (rl := [(8, 16)]) (r1 := .ptr _ _ _) (H1 := [(16, some (.agg [.sl _ _ _ _, .int _ _, .int _ _]))]) (n1 := [16]) rfl rfl ent52 rfl (co52 b (by omega)) (AViews.refl _ rfl) rfl rfl rfl rfl) rfl rfl rfl ?_
 refine sP (opp_as (v := .ptr _ _ _) rfl rfl) rfl rfl ?_
 refine awp_seq (awp_region rfl ?_)
 refine sP (opp_fieldP rfl rfl fld105_0 rfl) rfl rfl ?_
 refine sP (opp_loadP rfl rfl rfl rfl bi rfl ty3) rfl rfl ?_
 refine awp_block (awp_seq (awp_region rfl ?_))
 refine sP (opp_cmp rfl rfl rfl rfl) rfl rfl ?_
 refine sP (opp_as (v := .bool _) rfl rfl) rfl rfl ?_
 refine awp_cond _ rfl (fun ht19 => ?_) (fun ht19 => ?_)
 ·(try simp only [cmpI, errD_nil, qa, qb, qc, qd] at ht19)
  exfalso; first | omega | (simp at ht19; done)
 ·(try simp only [cmpI, errD_nil, qa, qb, qc, qd] at ht19)
  refine awp_seq (awp_region rfl ?_)
  refine sP (opp_cmp rfl rfl rfl rfl) rfl rfl ?_
  refine sP (opp_as (v := .bool _) rfl rfl) rfl rfl ?_
  refine awp_cond _ rfl (fun ht37 => ?_) (fun ht37 => ?_)
  ·(try simp only [cmpI, errD_nil, qa, qb, qc, qd] at ht37)
   exfalso; first | omega | (simp at ht37; done)
  ·(try simp only [cmpI, errD_nil, qa, qb, qc, qd] at ht37)
   refine awp_seq (awp_region rfl ?_)
   refine sP (opp_cmp rfl rfl rfl rfl) rfl rfl ?_
   refine sP (opp_as (v := .bool _) rfl rfl) rfl rfl ?_
   refine awp_cond _ rfl (fun ht51 => ?_) (fun ht51 => ?_)
   ·(try simp only [cmpI, errD_nil, qa, qb, qc, qd] at ht51)
    exfalso; first | omega | (simp at ht51; done)
   ·(try simp only [cmpI, errD_nil, qa, qb, qc, qd] at ht51)
    refine awp_seq (awp_region rfl ?_)
    refine sP (opp_cmp rfl rfl rfl rfl) rfl rfl ?_
    refine sP (opp_as (v := .bool _) rfl rfl) rfl rfl ?_
    refine awp_cond _ rfl (fun ht59 => ?_) (fun ht59 => ?_)
    ·(try simp only [cmpI, errD_nil, qa, qb, qc, qd] at ht59)
     exfalso; first | omega | (simp at ht59; done)
    ·(try simp only [cmpI, errD_nil, qa, qb, qc, qd] at ht59)
     refine awp_seq (awp_region rfl ?_)
     refine sP (opp_cmp rfl rfl rfl rfl) rfl rfl ?_
     refine sP (opp_as (v := .bool _) rfl rfl) rfl rfl ?_
     refine awp_cond _ rfl (fun ht89 => ?_) (fun ht89 => ?_)
     ·(try simp only [cmpI, errD_nil, qa, qb, qc, qd] at ht89)
      exfalso; first | omega | (simp at ht89; done)
     ·(try simp only [cmpI, errD_nil, qa, qb, qc, qd] at ht89)
      refine awp_seq (awp_region rfl ?_)
      refine sP (opp_cmp rfl rfl rfl rfl) rfl rfl ?_
      refine sP (opp_as (v := .bool _) rfl rfl) rfl rfl ?_
      refine awp_cond _ rfl (fun ht113 => ?_) (fun ht113 => ?_)
      ·(try simp only [cmpI, errD_nil, qa, qb, qc, qd] at ht113)
       exfalso; first | omega | (simp at ht113; done)
      ·(try simp only [cmpI, errD_nil, qa, qb, qc, qd] at ht113)
       refine awp_seq (awp_region rfl ?_)
       refine sP (opp_cmp rfl rfl rfl rfl) rfl rfl ?_
       refine sP (opp_as (v := .bool _) rfl rfl) rfl rfl ?_
       refine awp_cond _ rfl (fun ht121 => ?_) (fun ht121 => ?_)
       ·(try simp only [cmpI, errD_nil, qa, qb, qc, qd] at ht121)
        refine awp_seq (awp_region rfl ?_)
        refine sP (opp_fieldP rfl rfl fld105_1 rfl) rfl rfl ?_
        refine sP (opp_loadP rfl rfl rfl rfl bi rfl ty22) rfl rfl ?_
        refine sR (opr_call rfl rfl ent176 rfl (c176 b (by omega) hG1 hG7) (AViews.refl _ rfl)) rfl rfl rfl ?_ -- d=126 t=277 a=125
        refine sP (opp_mv (v := .tup _) rfl rfl) rfl rfl ?_
        refine sP (opp_extract rfl rfl rfl) rfl rfl ?_
        refine sP (opp_extract rfl rfl rfl) rfl rfl ?_
        refine sR (opr_alloc (n := 11) rfl z107) rfl rfl rfl ?_
        refine sR0 (opr_store (v := .agg _) (trn := (.agg _)) rfl rfl rfl rfl bi rfl rfl rfl rfl fr2 ty107 (fun _ _ h => h)) rfl rfl rfl ?_
        refine sP (opp_as (v := .bool _) rfl rfl) rfl rfl ?_
        refine awp_draw hmix rfl (by kernel_rfl) ?_
        refine dP (fun _ => false) (opp_mv (v := .ptr _ _ _) rfl rfl) rfl rfl ?_
        refine dP (fun _ => false) (opp_mv (v := .ptr _ _ _) rfl rfl) rfl rfl ?_
        refine dP (fun _ => false) (opp_nilCheckP rfl rfl) rfl rfl ?_
        refine dP (fun _ => false) (opp_fieldP rfl rfl fld61_8 rfl) rfl rfl ?_
        refine dP (fun n => Nat.beq n 1) (opp_loadP rfl rfl rfl rfl bi rfl ty58) rfl rfl ?_
        refine dP (fun n => Nat.beq n 11) (opp_loadP rfl rfl rfl rfl bi rfl ty107) rfl rfl ?_
        refine dR (fun _ => false) (opr_buildSlice (n := 135) (g := fun j => if j = 0 then .agg _ else .agg [.sl 1 true 0 (fun _ => .top), .int .i64 0]) rfl eb58 z107 (by decide) rfl rfl) rfl rfl rfl ?_
        refine dR (fun n => !([] : List Nat).contains n) (opr_appendNil (d := 136) rfl rfl (.osl0 rfl (by omega)) eb58 z107 (by omega) (by omega) (by omega)) rfl rfl rfl ?_
        refine dP (fun _ => false) (opp_nilCheckP rfl rfl) rfl rfl ?_
        refine dP (fun _ => false) (opp_fieldP rfl rfl fld61_8 rfl) rfl rfl ?_
        refine dR0 (fun n => Nat.beq n 1) (opr_store (v := .osl _ _ _ _ _) (trn := (.agg [_, _, _, _, _, _, _, _, .osl _ _ _ _ _, _])) rfl rfl rfl rfl bi rfl rfl rfl rfl fr2 ty58 (fun _ _ h => h)) rfl rfl rfl ?_
        refine And.intro (by kernel_rfl) ?_
        repeat (first | refine athen_ret ?_ | refine ain_ret ?_)
        refine gpost_ret (gends (l := []) true .nil (fun h => by cases h) .nil rfl .refl rfl (And.intro (Exists.intro _ (Exists.intro _ (And.intro rfl (And.intro shut (And.intro (fun h => by cases h) (And.intro ?_ rfl)))))) (And.intro (Exists.intro _ (Exists.intro _ (And.intro rfl (And.intro shut (And.intro (fun h => by cases h) (And.intro ?_ rfl)))))) True.intro)))
        ·exact .refl
        ·exact .arr (fun j hj => by rw [show j = 0 by omega]; rfl)
       ·(try simp only [cmpI, errD_nil, qa, qb, qc, qd] at ht121)
        exfalso; first | omega | (simp at ht121; done)
theorem cg122j (b : List UInt8) (h0 : b.length = 65) (v : Nat → Value) (l : List Pg) (hl : l.length ≤ 4294967296) : AGen (V ea cds gl) 122 [.ptr 1 [] 0, rcAV ⟨9, false, b⟩] [(1, some (.agg [.val (v 0), .val (v 1), .val (v 2), .val (v 3), .val (v 4), .val (v 5), .val (v 6), .val (v 7), .val (v 8), .osl 2 66 0 l.length l.length])), (2, some (.arr 66 l.length (pgAt l)))]
  (.tup []) [(1, some (.agg [.val (v 0), .val (v 1), .val (v 2), .val (v 3), .val (v 4), .val (v 5), .val (v 6), .val (v 7), .val (v 8), .osl 160 66 0 (l.length + 1) (l.length + 1)])), (2, none), (160, some (.arr 66 (l.length + 1) (pgAt (l ++ [Sp.page b]))))] := by
 unfold rcAV; dsimp only
 refine agen_of_body (N := 163) Tryz.func122 rfl rfl (Nat.le_of_ble_eq_true rfl) fun C hV hN hM hO => ?_
 obtain ⟨_, _, w0, G0, σ0, _, own0⟩ := C; dsimp only at hV hN hM hO; subst hV; subst hN; subst hM
 refine awp_seq (awp_region rfl ?_)
 refine sR (opr_box (y := .agg _) (n := 3) rfl rfl rfl) rfl rfl rfl ?_
 refine awp_seq (awp_region rfl ?_)
 refine sP (opp_fieldP rfl rfl fld105_1 rfl) rfl rfl ?_
 refine sP (opp_loadP rfl rfl rfl rfl bi rfl ty22) rfl rfl ?_
 refine sR (opr_callO (rl := [(8, 16)]) (r1 := .ptr _ _ _) (H1 := [(16, some (.agg [.sl _ _ _ _, .int _ _, .int _ _]))]) (n1 := [16]) rfl rfl ent52 rfl (co52 b (by omega)) (AViews.refl _ rfl) rfl rfl rfl rfl) rfl rfl rfl ?_
 refine sP (opp_as (v := .ptr _ _ _) rfl rfl) rfl rfl ?_
 refine awp_seq (awp_region rfl ?_)
 refine sP (opp_fieldP rfl rfl fld105_0 rfl) rfl rfl ?_
 refine sP (opp_loadP rfl rfl rfl rfl bi rfl ty3) rfl rfl ?_
 refine awp_block (awp_seq (awp_region rfl ?_))
 refine sP (opp_cmp rfl rfl rfl rfl) rfl rfl ?_
 refine sP (opp_as (v := .bool _) rfl rfl) rfl rfl ?_
 refine awp_cond _ rfl (fun ht19 => ?_) (fun ht19 => ?_)
 ·(try simp only [cmpI, errD_nil, qa, qb, qc, qd] at ht19)
  exfalso; first | omega | (simp at ht19; done)
 ·(try simp only [cmpI, errD_nil, qa, qb, qc, qd] at ht19)
  refine awp_seq (awp_region rfl ?_)
  refine sP (opp_cmp rfl rfl rfl rfl) rfl rfl ?_
  refine sP (opp_as (v := .bool _) rfl rfl) rfl rfl ?_
  refine awp_cond _ rfl (fun ht37 => ?_) (fun ht37 => ?_)
  ·(try simp only [cmpI, errD_nil, qa, qb, qc, qd] at ht37)
   exfalso; first | omega | (simp at ht37; done)
  ·(try simp only [cmpI, errD_nil, qa, qb, qc, qd] at ht37)
   refine awp_seq (awp_region rfl ?_)
   refine sP (opp_cmp rfl rfl rfl rfl) rfl rfl ?_
   refine sP (opp_as (v := .bool _) rfl rfl) rfl rfl ?_
   refine awp_cond _ rfl (fun ht51 => ?_) (fun ht51 => ?_)
   ·(try simp only [cmpI, errD_nil, qa, qb, qc, qd] at ht51)
    exfalso; first | omega | (simp at ht51; done)
   ·(try simp only [cmpI, errD_nil, qa, qb, qc, qd] at ht51)
    refine awp_seq (awp_region rfl ?_)
    refine sP (opp_cmp rfl rfl rfl rfl) rfl rfl ?_
    refine sP (opp_as (v := .bool _) rfl rfl) rfl rfl ?_
    refine awp_cond _ rfl (fun ht59 => ?_) (fun ht59 => ?_)
    ·(try simp only [cmpI, errD_nil, qa, qb, qc, qd] at ht59)
     exfalso; first | omega | (simp at ht59; done)
    ·(try simp only [cmpI, errD_nil, qa, qb, qc, qd] at ht59)
     refine awp_seq (awp_region rfl ?_)
     refine sP (opp_cmp rfl rfl rfl rfl) rfl rfl ?_
     refine sP (opp_as (v := .bool _) rfl rfl) rfl rfl ?_
     refine awp_cond _ rfl (fun ht89 => ?_) (fun ht89 => ?_)
     ·(try simp only [cmpI, errD_nil, qa, qb, qc, qd] at ht89)
      exfalso; first | omega | (simp at ht89; done)
     ·(try simp only [cmpI, errD_nil, qa, qb, qc, qd] at ht89)
      refine awp_seq (awp_region rfl ?_)
      refine sP (opp_cmp rfl rfl rfl rfl) rfl rfl ?_
      refine sP (opp_as (v := .bool _) rfl rfl) rfl rfl ?_
      refine awp_cond _ rfl (fun ht113 => ?_) (fun ht113 => ?_)
      ·(try simp only [cmpI, errD_nil, qa, qb, qc, qd] at ht113)
       exfalso; first | omega | (simp at ht113; done)
      ·(try simp only [cmpI, errD_nil, qa, qb, qc, qd] at ht113)
       refine awp_seq (awp_region rfl ?_)
       refine sP (opp_cmp rfl rfl rfl rfl) rfl rfl ?_
       refine sP (opp_as (v := .bool _) rfl rfl) rfl rfl ?_
       refine awp_cond _ rfl (fun ht121 => ?_) (fun ht121 => ?_)
       ·(try simp only [cmpI, errD_nil, qa, qb, qc, qd] at ht121)
        exfalso; first | omega | (simp at ht121; done)
       ·(try simp only [cmpI, errD_nil, qa, qb, qc, qd] at ht121)
        refine awp_seq (awp_region rfl ?_)
        refine sP (opp_cmp rfl rfl rfl rfl) rfl rfl ?_
        refine sP (opp_as (v := .bool _) rfl rfl) rfl rfl ?_
        refine awp_cond _ rfl (fun ht139 => ?_) (fun ht139 => ?_)
        ·(try simp only [cmpI, errD_nil, qa, qb, qc, qd] at ht139)
         refine awp_seq (awp_region rfl ?_)
         refine sP (opp_fieldP rfl rfl fld105_1 rfl) rfl rfl ?_
         refine sP (opp_loadP rfl rfl rfl rfl bi rfl ty22) rfl rfl ?_
         refine sP (opp_indexSl rfl rfl rfl el22 (by omega) (by omega)) rfl rfl ?_
         refine sP (opp_loadF rfl rfl ty5) rfl rfl ?_
         refine sP (opp_cmp rfl rfl rfl rfl) rfl rfl ?_
         refine sP (opp_build rfl z142 bld142 rfl [.int .i64 0, .bool _, .arr 1 64 (fun _ => .int .u8 0)] rfl) rfl rfl ?_
         refine sR (opr_alloc (n := 13) rfl z142) rfl rfl rfl ?_
         refine sR0 (opr_store (v := .agg _) (trn := (.agg _)) rfl rfl rfl rfl bi rfl rfl rfl rfl fr2 ty142 (fun _ _ h => h)) rfl rfl rfl ?_
         refine awp_seq ?_
         refine awp_draw hmix rfl (by kernel_rfl) ?_
         refine dP (fun _ => false) (opp_fieldP rfl rfl fld142_2 rfl) rfl rfl ?_
         refine dP (fun n => !([] : List Nat).contains n) (opp_sliceArrP rfl rfl rfl rfl bi rfl (Nat.mul_one _) rfl rfl arr140 (by omega) (by omega) (by omega)) rfl rfl ?_
         refine dP (fun _ => false) (opp_fieldP rfl rfl fld105_1 rfl) rfl rfl ?_
         refine dP (fun n => Nat.beq n 3) (opp_loadP rfl rfl rfl rfl bi rfl ty22) rfl rfl ?_
         refine dP (fun _ => false) (opp_sliceSl rfl rfl rfl rfl el22 (by omega) (by omega) (by omega)) rfl rfl ?_
         refine dR (fun n => !([] : List Nat).contains n) (opr_copy (p := [2]) (trn := (.agg [_, _, .arr _ _ _])) rfl rfl rfl rfl bi (by first | rfl | (simp [offP]; done)) (by omega) .sl eb22 (fun _ _ h => h)) rfl rfl rfl ?_
         refine And.intro (by kernel_rfl) ?_
         refine awp_draw hmix rfl (by kernel_rfl) ?_
         refine dP (fun _ => false) (opp_mv (v := .ptr _ _ _) rfl rfl) rfl rfl ?_
         refine dP (fun _ => false) (opp_mv (v := .ptr _ _ _) rfl rfl) rfl rfl ?_
         refine dP (fun _ => false) (opp_nilCheckP rfl rfl) rfl rfl ?_
         refine dP (fun _ => false) (opp_fieldP rfl rfl fld61_9 rfl) rfl rfl ?_
         refine dP (fun n => Nat.beq n 1) (opp_loadP rfl rfl rfl rfl bi rfl ty59) rfl rfl ?_
         refine dP (fun n => Nat.beq n 13) (opp_loadP rfl rfl rfl rfl bi rfl ty142) rfl rfl ?_
         refine dR (fun _ => false) (opr_buildSlice (n := 159) (g := fun j => if j = 0 then .agg _ else .agg [.int .i64 0, .bool false, .arr 1 64 (fun _ => .int .u8 0)]) rfl eb59 z142 (by decide) rfl rfl) rfl rfl rfl ?_
         refine dR (fun n => !([] : List Nat).contains n) (opr_append (d := 160) rfl rfl rfl (by omega) (.osl0 rfl (by omega)) eb59 z142 (by omega) (by omega)) rfl rfl rfl ?_
         refine dP (fun _ => false) (opp_nilCheckP rfl rfl) rfl rfl ?_
         refine dP (fun _ => false) (opp_fieldP rfl rfl fld61_9 rfl) rfl rfl ?_
         refine dR0 (fun n => Nat.beq n 1) (opr_store (v := .osl _ _ _ _ _) (trn := (.agg [_, _, _, _, _, _, _, _, _, .osl _ _ _ _ _])) rfl rfl rfl rfl bi rfl rfl rfl rfl fr2 ty59 (fun _ _ h => h)) rfl rfl rfl ?_
         refine And.intro (by kernel_rfl) ?_
         repeat (first | refine athen_ret ?_ | refine ain_ret ?_)
         refine gpost_ret (gends (l := []) false .nil (fun h => by cases h) .nil rfl .refl rfl (And.intro (Exists.intro _ (Exists.intro _ (And.intro rfl (And.intro shut (And.intro (fun h => by cases h) (And.intro ?_ rfl)))))) (And.intro (Exists.intro _ (Exists.intro _ (And.intro rfl (And.intro shut (And.intro (fun h => by cases h) (And.intro ?_ rfl)))))) True.intro)))
         ·exact .refl
         ·exact .arr (fun j hj => by by_cases h : j < l.length; rw [if_pos h, pgAt, pgAt, snoc_lt _ _ _ _ h]; rw [if_neg h, if_pos (by omega), pgAt, snoc_eq _ _ _ _ (by omega)]; exact pg_eq b h0)
        ·(try simp only [cmpI, errD_nil, qa, qb, qc, qd] at ht139)
         exfalso; first | omega | (simp at ht139; done)
theorem cg122k (b : List UInt8) (h0 : b.length = 65) (v : Nat → Value) (f : Nat → AV) : AGen (V ea cds gl) 122 [.ptr 1 [] 0, rcAV ⟨9, false, b⟩] [(1, some (.agg [.val (v 0), .val (v 1), .val (v 2), .val (v 3), .val (v 4), .val (v 5), .val (v 6), .val (v 7), .val (v 8), .sl 66 true 0 f]))]
  (.tup []) [(1, some (.agg [.val (v 0), .val (v 1), .val (v 2), .val (v 3), .val (v 4), .val (v 5), .val (v 6), .val (v 7), .val (v 8), .osl 160 66 0 1 1])), (160, some (.arr 66 1 (pgAt [Sp.page b])))] := by
 unfold rcAV; dsimp only
 refine agen_of_body (N := 163) Tryz.func122 rfl rfl (Nat.le_of_ble_eq_true rfl) fun C hV hN hM hO => ?_
 obtain ⟨_, _, w0, G0, σ0, _, own0⟩ := C; dsimp only at hV hN hM hO; subst hV; subst hN; subst hM
 refine awp_seq (awp_region rfl ?_)
 refine sR (opr_box (y := .agg _) (n := 3) rfl rfl rfl) rfl rfl rfl ?_
 refine awp_seq (awp_region rfl ?_)
 refine sP (opp_fieldP rfl rfl fld105_1 rfl) rfl rfl ?_
 refine sP (opp_loadP rfl rfl rfl rfl bi rfl ty22) rfl rfl ?_
 refine sR (opr_callO (rl := [(8, 16)]) (r1 := .ptr _ _ _) (H1 := [(16, some (.agg [.sl _ _ _ _, .int _ _, .int _ _]))]) (n1 := [16]) rfl rfl ent52 rfl (co52 b (by omega)) (AViews.refl _ rfl) rfl rfl rfl rfl) rfl rfl rfl ?_
 refine sP (opp_as (v := .ptr _ _ _) rfl rfl) rfl rfl ?_
 refine awp_seq (awp_region rfl ?_)
 refine sP (opp_fieldP rfl rfl fld105_0 rfl) rfl rfl ?_
 refine sP (opp_loadP rfl rfl rfl rfl bi rfl ty3) rfl rfl ?_
 refine awp_block (awp_seq (awp_region rfl ?_))
 refine sP (opp_cmp rfl rfl rfl rfl) rfl rfl ?_
 refine sP (opp_as (v := .bool _) rfl rfl) rfl rfl ?_
 refine awp_cond _ rfl (fun ht19 => ?_) (fun ht19 => ?_)
 ·(try simp only [cmpI, errD_nil, qa, qb, qc, qd] at ht19)
  exfalso; first | omega | (simp at ht19; done)
 ·(try simp only [cmpI, errD_nil, qa, qb, qc, qd] at ht19)
  refine awp_seq (awp_region rfl ?_)
  refine sP (opp_cmp rfl rfl rfl rfl) rfl rfl ?_
  refine sP (opp_as (v := .bool _) rfl rfl) rfl rfl ?_
  refine awp_cond _ rfl (fun ht37 => ?_) (fun ht37 => ?_)
  ·(try simp only [cmpI, errD_nil, qa, qb, qc, qd] at ht37)
   exfalso; first | omega | (simp at ht37; done)
  ·(try simp only [cmpI, errD_nil, qa, qb, qc, qd] at ht37)
   refine awp_seq (awp_region rfl ?_)
   refine sP (opp_cmp rfl rfl rfl rfl) rfl rfl ?_
   refine sP (opp_as (v := .bool _) rfl rfl) rfl rfl ?_
   refine awp_cond _ rfl (fun ht51 => ?_) (fun ht51 => ?_)
   ·(try simp only [cmpI, errD_nil, qa, qb, qc, qd] at ht51)
    exfalso; first | omega | (simp at ht51; done)
   ·(try simp only [cmpI, errD_nil, qa, qb, qc, qd] at ht51)
    refine awp_seq (awp_region rfl ?_)
    refine sP (opp_cmp rfl rfl rfl rfl) rfl rfl ?_
    refine sP (opp_as (v := .bool _) rfl rfl) rfl rfl ?_
    refine awp_cond _ rfl (fun ht59 => ?_) (fun ht59 => ?_)
    ·(try simp only [cmpI, errD_nil, qa, qb, qc, qd] at ht59)
     exfalso; first | omega | (simp at ht59; done)
    ·(try simp only [cmpI, errD_nil, qa, qb, qc, qd] at ht59)
     refine awp_seq (awp_region rfl ?_)
     refine sP (opp_cmp rfl rfl rfl rfl) rfl rfl ?_
     refine sP (opp_as (v := .bool _) rfl rfl) rfl rfl ?_
     refine awp_cond _ rfl (fun ht89 => ?_) (fun ht89 => ?_)
     ·(try simp only [cmpI, errD_nil, qa, qb, qc, qd] at ht89)
      exfalso; first | omega | (simp at ht89; done)
     ·(try simp only [cmpI, errD_nil, qa, qb, qc, qd] at ht89)
      refine awp_seq (awp_region rfl ?_)
      refine sP (opp_cmp rfl rfl rfl rfl) rfl rfl ?_
      refine sP (opp_as (v := .bool _) rfl rfl) rfl rfl ?_
      refine awp_cond _ rfl (fun ht113 => ?_) (fun ht113 => ?_)
      ·(try simp only [cmpI, errD_nil, qa, qb, qc, qd] at ht113)
       exfalso; first | omega | (simp at ht113; done)
      ·(try simp only [cmpI, errD_nil, qa, qb, qc, qd] at ht113)
       refine awp_seq (awp_region rfl ?_)
       refine sP (opp_cmp rfl rfl rfl rfl) rfl rfl ?_
       refine sP (opp_as (v := .bool _) rfl rfl) rfl rfl ?_
       refine awp_cond _ rfl (fun ht121 => ?_) (fun ht121 => ?_)
       ·(try simp only [cmpI, errD_nil, qa, qb, qc, qd] at ht121)
        exfalso; first | omega | (simp at ht121; done)
       ·(try simp only [cmpI, errD_nil, qa, qb, qc, qd] at ht121)
        refine awp_seq (awp_region rfl ?_)
        refine sP (opp_cmp rfl rfl rfl rfl) rfl rfl ?_
        refine sP (opp_as (v := .bool _) rfl rfl) rfl rfl ?_
        refine awp_cond _ rfl (fun ht139 => ?_) (fun ht139 => ?_)
        ·(try simp only [cmpI, errD_nil, qa, qb, qc, qd] at ht139)
         refine awp_seq (awp_region rfl ?_)
         refine sP (opp_fieldP rfl rfl fld105_1 rfl) rfl rfl ?_
         refine sP (opp_loadP rfl rfl rfl rfl bi rfl ty22) rfl rfl ?_
         refine sP (opp_indexSl rfl rfl rfl el22 (by omega) (by omega)) rfl rfl ?_
         refine sP (opp_loadF rfl rfl ty5) rfl rfl ?_
         refine sP (opp_cmp rfl rfl rfl rfl) rfl rfl ?_
         refine sP (opp_build rfl z142 bld142 rfl [.int .i64 0, .bool _, .arr 1 64 (fun _ => .int .u8 0)] rfl) rfl rfl ?_
         refine sR (opr_alloc (n := 13) rfl z142) rfl rfl rfl ?_
         refine sR0 (opr_store (v := .agg _) (trn := (.agg _)) rfl rfl rfl rfl bi rfl rfl rfl rfl fr2 ty142 (fun _ _ h => h)) rfl rfl rfl ?_
         refine awp_seq ?_
         refine awp_draw hmix rfl (by kernel_rfl) ?_
         refine dP (fun _ => false) (opp_fieldP rfl rfl fld142_2 rfl) rfl rfl ?_
         refine dP (fun n => !([] : List Nat).contains n) (opp_sliceArrP rfl rfl rfl rfl bi rfl (Nat.mul_one _) rfl rfl arr140 (by omega) (by omega) (by omega)) rfl rfl ?_
         refine dP (fun _ => false) (opp_fieldP rfl rfl fld105_1 rfl) rfl rfl ?_
         refine dP (fun n => Nat.beq n 3) (opp_loadP rfl rfl rfl rfl bi rfl ty22) rfl rfl ?_
         refine dP (fun _ => false) (opp_sliceSl rfl rfl rfl rfl el22 (by omega) (by omega) (by omega)) rfl rfl ?_
         refine dR (fun n => !([] : List Nat).contains n) (opr_copy (p := [2]) (trn := (.agg [_, _, .arr _ _ _])) rfl rfl rfl rfl bi (by first | rfl | (simp [offP]; done)) (by omega) .sl eb22 (fun _ _ h => h)) rfl rfl rfl ?_
         refine And.intro (by kernel_rfl) ?_
         refine awp_draw hmix rfl (by kernel_rfl) ?_
         refine dP (fun _ => false) (opp_mv (v := .ptr _ _ _) rfl rfl) rfl rfl ?_
         refine dP (fun _ => false) (opp_mv (v := .ptr _ _ _) rfl rfl) rfl rfl ?_
         refine dP (fun _ => false) (opp_nilCheckP rfl rfl) rfl rfl ?_
         refine dP (fun _ => false) (opp_fieldP rfl rfl fld61_9 rfl) rfl rfl ?_
         refine dP (fun n => Nat.beq n 1) (opp_loadP rfl rfl rfl rfl bi rfl ty59) rfl rfl ?_
         refine dP (fun n => Nat.beq n 13) (opp_loadP rfl rfl rfl rfl bi rfl ty142) rfl rfl ?_
         refine dR (fun _ => false) (opr_buildSlice (n := 159) (g := fun j => if j = 0 then .agg _ else .agg [.int .i64 0, .bool false, .arr 1 64 (fun _ => .int .u8 0)]) rfl eb59 z142 (by decide) rfl rfl) rfl rfl rfl ?_
         refine dR (fun n => !([] : List Nat).contains n) (opr_appendNil (d := 160) rfl rfl (.osl0 rfl (by omega)) eb59 z142 (by omega) (by omega) (by omega)) rfl rfl rfl ?_
         refine dP (fun _ => false) (opp_nilCheckP rfl rfl) rfl rfl ?_
         refine dP (fun _ => false) (opp_fieldP rfl rfl fld61_9 rfl) rfl rfl ?_
         refine dR0 (fun n => Nat.beq n 1) (opr_store (v := .osl _ _ _ _ _) (trn := (.agg [_, _, _, _, _, _, _, _, _, .osl _ _ _ _ _])) rfl rfl rfl rfl bi rfl rfl rfl rfl fr2 ty59 (fun _ _ h => h)) rfl rfl rfl ?_
         refine And.intro (by kernel_rfl) ?_
         repeat (first | refine athen_ret ?_ | refine ain_ret ?_)
         refine gpost_ret (gends (l := []) true .nil (fun h => by cases h) .nil rfl .refl rfl (And.intro (Exists.intro _ (Exists.intro _ (And.intro rfl (And.intro shut (And.intro (fun h => by cases h) (And.intro ?_ rfl)))))) (And.intro (Exists.intro _ (Exists.intro _ (And.intro rfl (And.intro shut (And.intro (fun h => by cases h) (And.intro ?_ rfl)))))) True.intro)))
         ·exact .refl
         ·exact .arr (fun j hj => by rw [if_pos (by omega), show j = 0 by omega]; exact pg_eq b h0)
        ·(try simp only [cmpI, errD_nil, qa, qb, qc, qd] at ht139)
         exfalso; first | omega | (simp at ht139; done)
theorem cg122l (t : Int) (b : List UInt8) (h0 : b.length ≤ 4294967296) (h1 : t ≠ 1) (h3 : t ≠ 3) (h4 : t ≠ 4) (h5 : t ≠ 5) (h6 : t ≠ 6) (h7 : t ≠ 7) (h8 : t ≠ 8) (h9 : t ≠ 9) (v : Nat → Value) : AGen (V ea cds gl) 122 [.ptr 1 [] 0, rcAV ⟨t, false, b⟩] [(1, some (.agg [.val (v 0), .val (v 1), .val (v 2), .val (v 3), .val (v 4), .val (v 5), .val (v 6), .val (v 7), .val (v 8), .val (v 9)]))]
  (.tup []) [(1, some (.agg [.val (v 0), .val (v 1), .val (v 2), .val (v 3), .val (v 4), .val (v 5), .val (v 6), .val (v 7), .val (v 8), .val (v 9)]))] := by
 unfold rcAV; dsimp only
 refine agen_of_body (N := 163) Tryz.func122 rfl rfl (Nat.le_of_ble_eq_true rfl) fun C hV hN hM hO => ?_
 obtain ⟨_, _, w0, G0, σ0, _, own0⟩ := C; dsimp only at hV hN hM hO; subst hV; subst hN; subst hM
 refine awp_seq (awp_region rfl ?_)
 refine sR (opr_box (y := .agg _) (n := 3) rfl rfl rfl) rfl rfl rfl ?_
 refine awp_seq (awp_region rfl ?_)
 refine sP (opp_fieldP rfl rfl fld105_1 rfl) rfl rfl ?_
 refine sP (opp_loadP rfl rfl rfl rfl bi rfl ty22) rfl rfl ?_
 refine sR (opr_callO (rl := [(8, 16)]) (r1 := .ptr _ _ _) (H1 := [(16, some (.agg [.sl _ _ _ _, .int _ _, .int _ _]))]) (n1 := [16]) rfl rfl ent52 rfl (co52 b (by omega)) (AViews.refl _ rfl) rfl rfl rfl rfl) rfl rfl rfl ?_
 refine sP (opp_as (v := .ptr _ _ _) rfl rfl) rfl rfl ?_
 refine awp_seq (awp_region rfl ?_)
 refine sP (opp_fieldP rfl rfl fld105_0 rfl) rfl rfl ?_
 refine sP (opp_loadP rfl rfl rfl rfl bi rfl ty3) rfl rfl ?_
 refine awp_block (awp_seq (awp_region rfl ?_))
 refine sP (opp_cmp rfl rfl rfl rfl) rfl rfl ?_
 refine sP (opp_as (v := .bool _) rfl rfl) rfl rfl ?_
 refine awp_cond _ rfl (fun ht19 => ?_) (fun ht19 => ?_)
 ·(try simp only [cmpI, errD_nil, qa, qb, qc, qd] at ht19)
  exfalso; omega
 ·(try simp only [cmpI, errD_nil, qa, qb, qc, qd] at ht19)
  refine awp_seq (awp_region rfl ?_)
  refine sP (opp_cmp rfl rfl rfl rfl) rfl rfl ?_
  refine sP (opp_as (v := .bool _) rfl rfl) rfl rfl ?_
  refine awp_cond _ rfl (fun ht37 => ?_) (fun ht37 => ?_)
  ·(try simp only [cmpI, errD_nil, qa, qb, qc, qd] at ht37)
   exfalso; omega
  ·(try simp only [cmpI, errD_nil, qa, qb, qc, qd] at ht37)
   refine awp_seq (awp_region rfl ?_)
   refine sP (opp_cmp rfl rfl rfl rfl) rfl rfl ?_
   refine sP (opp_as (v := .bool _) rfl rfl) rfl rfl ?_
   refine awp_cond _ rfl (fun ht51 => ?_) (fun ht51 => ?_)
   ·(try simp only [cmpI, errD_nil, qa, qb, qc, qd] at ht51)
    exfalso; omega
   ·(try simp only [cmpI, errD_nil, qa, qb, qc, qd] at ht51)
    refine awp_seq (awp_region rfl ?_)
    refine sP (opp_cmp rfl rfl rfl rfl) rfl rfl ?_
    refine sP (opp_as (v := .bool _) rfl rfl) rfl rfl ?_
    refine awp_cond _ rfl (fun ht59 => ?_) (fun ht59 => ?_)
    ·(try simp only [cmpI, errD_nil, qa, qb, qc, qd] at ht59)
     exfalso; omega
    ·(try simp only [cmpI, errD_nil, qa, qb, qc, qd] at ht59)
     refine awp_seq (awp_region rfl ?_)
     refine sP (opp_cmp rfl rfl rfl rfl) rfl rfl ?_
     refine sP (opp_as (v := .bool _) rfl rfl) rfl rfl ?_
     refine awp_cond _ rfl (fun ht89 => ?_) (fun ht89 => ?_)
     ·(try simp only [cmpI, errD_nil, qa, qb, qc, qd] at ht89)
      exfalso; omega
     ·(try simp only [cmpI, errD_nil, qa, qb, qc, qd] at ht89)
      refine awp_seq (awp_region rfl ?_)
      refine sP (opp_cmp rfl rfl rfl rfl) rfl rfl ?_
      refine sP (opp_as (v := .bool _) rfl rfl) rfl rfl ?_
      refine awp_cond _ rfl (fun ht113 => ?_) (fun ht113 => ?_)
      ·(try simp only [cmpI, errD_nil, qa, qb, qc, qd] at ht113)
       exfalso; omega
      ·(try simp only [cmpI, errD_nil, qa, qb, qc, qd] at ht113)
       refine awp_seq (awp_region rfl ?_)
       refine sP (opp_cmp rfl rfl rfl rfl) rfl rfl ?_
       refine sP (opp_as (v := .bool _) rfl rfl) rfl rfl ?_
       refine awp_cond _ rfl (fun ht121 => ?_) (fun ht121 => ?_)
       ·(try simp only [cmpI, errD_nil, qa, qb, qc, qd] at ht121)
        exfalso; omega
       ·(try simp only [cmpI, errD_nil, qa, qb, qc, qd] at ht121)
        refine awp_seq (awp_region rfl ?_)
        refine sP (opp_cmp rfl rfl rfl rfl) rfl rfl ?_
        refine sP (opp_as (v := .bool _) rfl rfl) rfl rfl ?_
        refine awp_cond _ rfl (fun ht139 => ?_) (fun ht139 => ?_)
        ·(try simp only [cmpI, errD_nil, qa, qb, qc, qd] at ht139)
         exfalso; omega
        ·(try simp only [cmpI, errD_nil, qa, qb, qc, qd] at ht139)
         refine awp_skip ?_
         repeat (first | refine athen_ret ?_ | refine ain_ret ?_)
         refine gpost_ret (gends (l := []) true .nil (fun h => by cases h) .nil rfl .refl rfl (And.intro (Exists.intro _ (Exists.intro _ (And.intro rfl (And.intro shut (And.intro (fun h => by cases h) (And.intro ?_ rfl)))))) True.intro))
         ·exact .refl
end
end Go.Proofs.YtpmgdmbcdohgcaaGreatDoor
/- Layer 16: the state that records say (walks over this dump). -/
namespace Go.Proofs.YtpmgdmbcdohgcaaGreatDoor
attribute [local irreducible] Tryz.prog
open Go.Fy
set_option linter.unusedSimpArgs false
set_option linter.unusedVariables false
def rc0 : Rc := ⟨0, true, []⟩
theorem drop_rc (l : List Rc) (i : Nat) (h : i < l.length) : l.drop i = l.getD i rc0 :: l.drop (i + 1) := by
  rw [List.drop_eq_getElem_cons h, List.getD_eq_getElem?_getD, List.getElem?_eq_getElem h]; rfl
theorem rc_mem (l : List Rc) (i : Nat) (h : i < l.length) : l.getD i rc0 ∈ l := by
  rw [List.getD_eq_getElem?_getD, List.getElem?_eq_getElem h]; exact List.getElem_mem _
theorem wrong_all : ∀ (l : List Rc) (k : Nat), (Sp.wrong l k).code = 0 → ∀ r ∈ l, Sp.long r = true ∧ Sp.flags r = true
  | [], _, _, r, hr => by simp at hr
  | x :: l, k, h, r, hr => by
    unfold Sp.wrong at h
    by_cases h1 : Sp.long x = false
    · rw [if_pos h1] at h; simp [Sp.ea] at h
    · rw [if_neg h1] at h
      by_cases h2 : Sp.flags x = false
      · rw [if_pos h2] at h; simp [Sp.ea] at h
      · rw [if_neg h2] at h
        rcases List.mem_cons.1 hr with e | e
        · subst e; exact ⟨by simpa using h1, by simpa using h2⟩
        · exact wrong_all l (k + 1) h r e
theorem fold_rc (l : List Rc) (i : Nat) (h : i < l.length) : (l.take (i + 1)).foldl Sp.putR sta0 = Sp.putR ((l.take i).foldl Sp.putR sta0) (l.getD i rc0) := by
  have e : l.take (i + 1) = l.take i ++ [l.getD i rc0] := by
    rw [List.take_add_one, List.getElem?_eq_getElem h, List.getD_eq_getElem?_getD, List.getElem?_eq_getElem h]; rfl
  rw [e, List.foldl_append]; rfl
theorem put_cases (t : Int) (x y z : Bool) : t = 1 ∨ (t = 3 ∧ x = false) ∨ (t = 3 ∧ x = true) ∨ t = 4 ∨ t = 7 ∨ t = 5 ∨ t = 6 ∨ (t = 8 ∧ y = false) ∨ (t = 8 ∧ y = true) ∨ (t = 9 ∧ z = false) ∨ (t = 9 ∧ z = true) ∨
    (t ≠ 1 ∧ t ≠ 3 ∧ t ≠ 4 ∧ t ≠ 5 ∧ t ≠ 6 ∧ t ≠ 7 ∧ t ≠ 8 ∧ t ≠ 9) := by
  by_cases h : t = 1 ∨ t = 3 ∨ t = 4 ∨ t = 5 ∨ t = 6 ∨ t = 7 ∨ t = 8 ∨ t = 9
  · cases x <;> cases y <;> cases z <;> simp <;> omega
  · have : t ≠ 1 ∧ t ≠ 3 ∧ t ≠ 4 ∧ t ≠ 5 ∧ t ≠ 6 ∧ t ≠ 7 ∧ t ≠ 8 ∧ t ≠ 9 := by omega
    exact .inr (.inr (.inr (.inr (.inr (.inr (.inr (.inr (.inr (.inr (.inr this))))))))))
theorem wkrow {e : Bool} {z n : Nat} {f : Nat → AV} (h : e = true ↔ n = 0) : Wk (bif e then .sl z true 0 (fun _ => .top) else .sl z false n f) (rowV z n f) := by
  cases e with
  | true => have h0 := h.1 rfl; subst h0; exact .sl0
  | false => rw [rowV, show decide (n = 0) = false by rw [decide_eq_false_iff_not]; intro h0; simpa using h.2 h0]; exact .refl
theorem long_9 {b : List UInt8} {n : Bool} (h : Sp.long ⟨9, n, b⟩ = true) : b.length = 65 := by simpa [Sp.long] using h
theorem long_3 {b : List UInt8} {n : Bool} (h : Sp.long ⟨3, n, b⟩ = true) : b.length = 68 := by simpa [Sp.long] using h
theorem long_1 {b : List UInt8} {n : Bool} (h : Sp.long ⟨1, n, b⟩ = true) : b.length = 8 := by simpa [Sp.long] using h
theorem long_5 {b : List UInt8} {n : Bool} (h : Sp.long ⟨5, n, b⟩ = true) : b.length % 5 = 0 := by simpa [Sp.long] using h
theorem long_t9 {r : Rc} (ht : r.tag = 9) (h : Sp.long r = true) : r.body.length = 65 := by obtain ⟨t, n, b⟩ := r; dsimp only at ht; subst ht; exact long_9 h
theorem putR_1 (S : Sta) (n : Bool) (b : List UInt8) : Sp.putR S ⟨1, n, b⟩ = { S with frame := Sp.fld b 0 4, epoch := Sp.fld b 4 4 } := by simp [Sp.putR]
theorem putR_3 (S : Sta) (n : Bool) (b : List UInt8) : Sp.putR S ⟨3, n, b⟩ = { S with procs := S.procs ++ [Sp.proc b] } := by simp [Sp.putR]
theorem putR_4 (S : Sta) (n : Bool) (b : List UInt8) : Sp.putR S ⟨4, n, b⟩ = { S with ready := Sp.nums b } := by simp [Sp.putR]
theorem putR_5 (S : Sta) (n : Bool) (b : List UInt8) : Sp.putR S ⟨5, n, b⟩ = { S with timers := Sp.timersOf b } := by simp [Sp.putR]
theorem putR_6 (S : Sta) (n : Bool) (b : List UInt8) : Sp.putR S ⟨6, n, b⟩ = { S with up := ups b } := by simp [Sp.putR, ups]
theorem putR_7 (S : Sta) (n : Bool) (b : List UInt8) : Sp.putR S ⟨7, n, b⟩ = { S with sems := Sp.nums b } := by simp [Sp.putR]
theorem putR_8 (S : Sta) (n : Bool) (b : List UInt8) : Sp.putR S ⟨8, n, b⟩ = { S with ports := S.ports ++ [(Sp.portQ b).1] } := by simp [Sp.putR]
theorem putR_9 (S : Sta) (n : Bool) (b : List UInt8) : Sp.putR S ⟨9, n, b⟩ = { S with pages := S.pages ++ [Sp.page b] } := by simp [Sp.putR]
theorem putR_0 (S : Sta) (t : Int) (n : Bool) (b : List UInt8) (h : t ≠ 1 ∧ t ≠ 3 ∧ t ≠ 4 ∧ t ≠ 5 ∧ t ≠ 6 ∧ t ≠ 7 ∧ t ≠ 8 ∧ t ≠ 9) : Sp.putR S ⟨t, n, b⟩ = S := by simp [Sp.putR, h]
theorem wrong_cons (r : Rc) (l : List Rc) (i : Nat) : Sp.wrong (r :: l) i = if Sp.long r = false then Sp.ea 5 i else if Sp.flags r = false then Sp.ea 4 i else Sp.wrong l (i + 1) := rfl
theorem snoc_len {α : Type} (l : List α) (x : α) : (l ++ [x]).length = l.length + 1 := by simp
/-- What holds of a state that is filled. -/
structure StaOK (e3 e8 e9 : Bool) (i : Nat) (S : Sta) : Prop where
  p : e3 = true ↔ S.procs.length = 0
  q : e8 = true ↔ S.ports.length = 0
  g : e9 = true ↔ S.pages.length = 0
  pl : S.procs.length ≤ i
  ql : S.ports.length ≤ i
  gl : S.pages.length ≤ i
theorem StaOK.up {a b c : Bool} {i : Nat} {S S' : Sta} (h : StaOK a b c i S) (h1 : S'.procs.length = S.procs.length) (h2 : S'.ports.length = S.ports.length) (h3 : S'.pages.length = S.pages.length) : StaOK a b c (i + 1) S' :=
  ⟨by rw [h1]; exact h.p, by rw [h2]; exact h.q, by rw [h3]; exact h.g, by have := h.pl; omega, by have := h.ql; omega, by have := h.gl; omega⟩
theorem StaOK.addP {a b c : Bool} {i : Nat} {S : Sta} (h : StaOK a b c i S) (x : Pr) : StaOK false b c (i + 1) { S with procs := S.procs ++ [x] } :=
  ⟨by simp, h.q, h.g, by have := h.pl; simp; omega, by have := h.ql; show S.ports.length ≤ _; omega, by have := h.gl; show S.pages.length ≤ _; omega⟩
theorem StaOK.addQ {a b c : Bool} {i : Nat} {S : Sta} (h : StaOK a b c i S) (x : Pt) : StaOK a false c (i + 1) { S with ports := S.ports ++ [x] } :=
  ⟨h.p, by simp, h.g, by have := h.pl; show S.procs.length ≤ _; omega, by have := h.ql; simp; omega, by have := h.gl; show S.pages.length ≤ _; omega⟩
theorem StaOK.addG {a b c : Bool} {i : Nat} {S : Sta} (h : StaOK a b c i S) (x : Pg) : StaOK a b false (i + 1) { S with pages := S.pages ++ [x] } :=
  ⟨h.p, h.q, by simp, by have := h.pl; show S.procs.length ≤ _; omega, by have := h.ql; show S.ports.length ≤ _; omega, by have := h.gl; simp; omega⟩
def staB (e3 e8 e9 : Bool) (S : Sta) : AV := .agg [.int .i64 0, .int .i64 (S.frame : Int), .int .i64 (S.epoch : Int), rowA e3 1003 21 S.procs.length, rowV 1 S.ready.length (natAt S.ready), rowV 2 S.timers.length (tmAt S.timers),
  rowV 1 S.up.length (boolAt S.up), rowV 1 S.sems.length (natAt S.sems), rowA e8 1008 2 S.ports.length, rowA e9 1009 66 S.pages.length]
section
variable {ea : Nat → Addr} {cds : List Nat} {gl : Nat → Option AV}
set_option maxRecDepth 100000 in
set_option maxHeartbeats 4000000 in
theorem c43 (l : List Rc) (nn : Bool) (hn : ∀ r ∈ l, r.nn = false) (hb : ∀ r ∈ l, r.body.length ≤ 4294967296) (hl : l.length ≤ 4294967296) (hG1 : gl 1 = some (.err (.code 1))) (hG7 : gl 7 = some (.err (.code 2)))
  (hG8 : gl 8 = some (.err (.code 4))) (hG5 : gl 5 = some (.err (.code 5))) : APure (V ea cds gl) 43 [.sl 2 nn l.length (rcAt l)] false (.tup [staAV (Sp.fill l).1, .err (Sp.fill l).2.d]) := by
 refine acalls_of_body (N := 41) Tryz.func43 rfl rfl (Nat.le_of_ble_eq_true rfl) fun C hV hN hM hO => ?_
 obtain ⟨_, _, w0, G0, σ0, _, own0⟩ := C; dsimp only at hV hN hM hO; subst hV; subst hN; subst hM
 refine awp_seq (awp_region rfl ?_)
 refine sR (opr_alloc (n := 2) rfl z61) rfl rfl rfl ?_
 refine sP (opp_as (v := .err _) rfl rfl) rfl rfl ?_
 refine awp_seq (awp_seq (awp_region rfl ?_))
 refine sP (opp_mv (v := .sl _ _ _ _) rfl rfl) rfl rfl ?_
 refine sP (opp_lenSl rfl rfl un39) rfl rfl ?_
 refine sP (opp_mv (v := .int _ _) rfl rfl) rfl rfl ?_
 refine awp_block ?_
 refine awp_loopK (ι := Nat) (fun i => i ≤ l.length ∧ Sp.wrong (l.drop i) i = Sp.wrong l 0) (fun i => [(3, .top), (4, .top), (5, .top), (11, .int .i64 (i : Int)), (12, .top), (13, .top), (14, .top), (15, .top), (16, .top), (17, .top), (18, .top), (19, .top), (20, .top), (21, .top), (22, .top), (23, .top), (24, .top), (25, .top), (26, .top), (27, .top), (28, .top), (29, .top), (30, .top)]) (fun i => []) [] (fun i => l.length - i) (0) (⟨Nat.zero_le _, rfl⟩) (by
  refine imp_over [] rfl rfl (by kernel_rfl) ?_ ?_
  ·iterate 23 refine And.intro wkv ?_
   exact True.intro
  ·exact True.intro
  ) ?_
 intro i hi1
 refine awp_seq (awp_region rfl ?_)
 refine sP (opp_cmp rfl rfl rfl rfl) rfl rfl ?_
 refine awp_seq ?_
 refine awp_cond _ rfl (fun ht12 => ?_) (fun ht12 => ?_)
 ·(try simp only [cmpI, errD_nil, qa, qb, qc, qd] at ht12)
  refine awp_skip (awp_seq (awp_block (awp_seq ?_)))
  have hlt : i < l.length := by omega
  have hrm := rc_mem l i hlt
  have hrn := hn _ hrm
  have hrb := hb _ hrm
  have hw := hi1.2
  rw [drop_rc l i hlt, wrong_cons] at hw
  refine awp_region rfl ?_
  refine sP (opp_mv (v := .int _ _) rfl rfl) rfl rfl ?_
  refine sP (opp_indexSl rfl rfl rfl el39 (by omega) (by omega)) rfl rfl ?_
  refine sP (opp_loadF rfl rfl ty105) rfl rfl ?_
  refine sR (opr_alloc (n := 5) rfl z105) rfl rfl rfl ?_
  refine sP (opp_as (v := .int _ _) rfl rfl) rfl rfl ?_
  refine sR0 (opr_store (v := .agg _) (trn := (.agg _)) rfl rfl rfl rfl bi rfl rfl rfl rfl fr2 ty105 (fun _ _ h => h)) rfl rfl rfl ?_
  refine awp_seq (awp_seq (awp_region rfl ?_))
  refine sP (opp_loadP rfl rfl rfl rfl bi rfl ty105) rfl rfl ?_
  refine sR (opr_call rfl rfl ent120 rfl (c120 (l.getD (Int.toNat (i : Int)) rc0) hrn (by show (l.getD i rc0).body.length ≤ _; omega) hG1 hG7) (AViews.refl _ rfl)) rfl rfl rfl ?_ -- d=17 t=4 a=16
  refine sP (opp_not rfl rfl) rfl rfl ?_
  refine awp_cond _ rfl (fun ht18 => ?_) (fun ht18 => ?_)
  ·(try simp only [cmpI, errD_nil, qa, qb, qc, qd] at ht18)
   refine awp_seq (awp_region rfl ?_)
   refine sP (opp_build rfl z61 bld61 rfl [.int .i64 0, .int .i64 0, .int .i64 0, .sl 21 true 0 (fun _ => .top), .sl 1 true 0 (fun _ => .top), .sl 2 true 0 (fun _ => .top), .sl 1 true 0 (fun _ => .top), .sl 1 true 0 (fun _ => .top), .sl 2 true 0 (fun _ => .top), .sl 66 true 0 (fun _ => .top)] rfl) rfl rfl ?_
   refine sP (opp_mv (v := .int _ _) rfl rfl) rfl rfl ?_
   refine sP (opp_loadF rfl (ev_glob hG5) ty36) rfl rfl ?_
   refine sR (opr_call rfl rfl ent51 rfl (c51 _ _) (AViews.refl _ rfl)) rfl rfl rfl ?_ -- d=22 t=36 a=20,21
   refine sR0 (opr_store (v := .agg _) (trn := (.agg _)) rfl rfl rfl rfl bi rfl rfl rfl rfl fr2 ty61 (fun _ _ h => h)) rfl rfl rfl ?_
   refine sP (opp_as (v := .err _) rfl rfl) rfl rfl ?_
   refine awp_ret ?_
   repeat (first | refine athen_ret ?_ | refine ain_ret ?_)
   refine apost_ret (aend (l := [.agg _, .err _]) (.cell rfl rfl rfl (by exact True.intro) rfl ty61 (.tmp .nil)) (fun h => by cases h) (.cons (.noN rfl rfl) (.cons (.noN rfl rfl) .nil)) ⟨Wk.v ?_, rfl, rfl⟩)
   rw [if_pos (show Sp.long (l.getD i rc0) = false from ht18)] at hw
   rw [show Sp.fill l = (sta0, Sp.ea 5 i) from by unfold Sp.fill; rw [← hw]; rfl]
   exact .tup (.cons (.agg (.cons .refl (.cons .refl (.cons .refl (.cons .sl0 (.cons .sl0 (.cons .sl0 (.cons .sl0 (.cons .sl0 (.cons .sl0 (.cons .sl0 .nil))))))))))) (.cons .refl .nil))
  ·(try simp only [cmpI, errD_nil, qa, qb, qc, qd] at ht18)
   refine awp_skip (awp_seq (awp_region rfl ?_))
   refine sP (opp_loadP rfl rfl rfl rfl bi rfl ty105) rfl rfl ?_
   refine sR (opr_call rfl rfl ent121 rfl (c121 (l.getD (Int.toNat (i : Int)) rc0) (by show (l.getD i rc0).body.length ≤ _; omega) (fun h9 => by have := long_t9 h9 ht18; omega)) (AViews.refl _ rfl)) rfl rfl rfl ?_ -- d=24 t=4 a=23
   refine sP (opp_not rfl rfl) rfl rfl ?_
   refine awp_cond _ rfl (fun ht25 => ?_) (fun ht25 => ?_)
   ·(try simp only [cmpI, errD_nil, qa, qb, qc, qd] at ht25)
    refine awp_seq (awp_region rfl ?_)
    refine sP (opp_build rfl z61 bld61 rfl [.int .i64 0, .int .i64 0, .int .i64 0, .sl 21 true 0 (fun _ => .top), .sl 1 true 0 (fun _ => .top), .sl 2 true 0 (fun _ => .top), .sl 1 true 0 (fun _ => .top), .sl 1 true 0 (fun _ => .top), .sl 2 true 0 (fun _ => .top), .sl 66 true 0 (fun _ => .top)] rfl) rfl rfl ?_
    refine sP (opp_mv (v := .int _ _) rfl rfl) rfl rfl ?_
    refine sP (opp_loadF rfl (ev_glob hG8) ty36) rfl rfl ?_
    refine sR (opr_call rfl rfl ent51 rfl (c51 _ _) (AViews.refl _ rfl)) rfl rfl rfl ?_ -- d=29 t=36 a=27,28
    refine sR0 (opr_store (v := .agg _) (trn := (.agg _)) rfl rfl rfl rfl bi rfl rfl rfl rfl fr2 ty61 (fun _ _ h => h)) rfl rfl rfl ?_
    refine sP (opp_as (v := .err _) rfl rfl) rfl rfl ?_
    refine awp_ret ?_
    repeat (first | refine athen_ret ?_ | refine ain_ret ?_)
    refine apost_ret (aend (l := [.agg _, .err _]) (.cell rfl rfl rfl (by exact True.intro) rfl ty61 (.tmp .nil)) (fun h => by cases h) (.cons (.noN rfl rfl) (.cons (.noN rfl rfl) .nil)) ⟨Wk.v ?_, rfl, rfl⟩)
    rw [if_neg (by rw [show Sp.long (l.getD i rc0) = true from ht18]; simp), if_pos (show Sp.flags (l.getD i rc0) = false from ht25)] at hw
    rw [show Sp.fill l = (sta0, Sp.ea 4 i) from by unfold Sp.fill; rw [← hw]; rfl]
    exact .tup (.cons (.agg (.cons .refl (.cons .refl (.cons .refl (.cons .sl0 (.cons .sl0 (.cons .sl0 (.cons .sl0 (.cons .sl0 (.cons .sl0 (.cons .sl0 .nil))))))))))) (.cons .refl .nil))
   ·(try simp only [cmpI, errD_nil, qa, qb, qc, qd] at ht25)
    refine awp_skip (awp_region rfl ?_)
    refine sP (opp_arith rfl rfl rfl (.inl ⟨rfl, w64 (by omega)⟩)) rfl rfl ?_
    refine sP (opp_mv (v := .int _ _) rfl rfl) rfl rfl ?_
    rw [if_neg (by rw [show Sp.long (l.getD i rc0) = true from ht18]; simp), if_neg (by rw [show Sp.flags (l.getD i rc0) = true from ht25]; simp)] at hw
    refine Exists.intro (i + 1) (And.intro (And.intro (And.intro (by show i + 1 ≤ _; omega) hw) (by first | omega | (dsimp only; omega))) (by
     refine imp_over [] rfl rfl (by kernel_rfl) ?_ ?_
     ·iterate 23 refine And.intro wkv ?_
      exact True.intro
     ·exact True.intro
     ))
 ·(try simp only [cmpI, errD_nil, qa, qb, qc, qd] at ht12)
  refine awp_exit (awp_seq ?_)
  have hie : i = l.length := by omega
  have hwr : Sp.wrong l 0 = Sp.e0 := by rw [← hi1.2, hie, List.drop_length]; rfl
  have hall := wrong_all l 0 (by rw [hwr]; rfl)
  refine awp_region rfl ?_
  refine sR (opr_alloc (n := 6) rfl z61) rfl rfl rfl ?_
  refine awp_seq (awp_seq (awp_region rfl ?_))
  refine sP (opp_mv (v := .sl _ _ _ _) rfl rfl) rfl rfl ?_
  refine sP (opp_lenSl rfl rfl un39) rfl rfl ?_
  refine sP (opp_mv (v := .int _ _) rfl rfl) rfl rfl ?_
  refine awp_block ?_
  refine awp_loopK (ι := Nat × Bool × Bool × Bool × Sta) (fun p => p.1 ≤ l.length ∧ (l.take p.1).foldl Sp.putR sta0 = p.2.2.2.2 ∧ StaOK p.2.1 p.2.2.1 p.2.2.2.1 p.1 p.2.2.2.2) (fun p => [(8, .top), (33, .int .i64 (p.1 : Int)), (34, .top), (35, .top), (36, .top), (37, .top), (38, .top), (39, .top)]) (fun p => [(6, some (staB p.2.1 p.2.2.1 p.2.2.2.1 p.2.2.2.2)), (1003, rowB p.2.1 21 p.2.2.2.2.procs.length (prAt p.2.2.2.2.procs)), (1008, rowB p.2.2.1 2 p.2.2.2.2.ports.length (ptAt p.2.2.2.2.ports)), (1009, rowB p.2.2.2.1 66 p.2.2.2.2.pages.length (pgAt p.2.2.2.2.pages))]) [6, 1003, 1008, 1009] (fun p => l.length - p.1) ((0, true, true, true, sta0)) (⟨Nat.zero_le _, rfl, by simp [sta0], by simp [sta0], by simp [sta0], Nat.zero_le _, Nat.zero_le _, Nat.zero_le _⟩) (by
   refine imp_over [] rfl rfl (by kernel_rfl) ?_ ?_
   ·iterate 8 refine And.intro wkv ?_
    exact True.intro
   ·refine And.intro (And.intro rfl (And.intro rfl (Exists.intro _ (And.intro rfl (by exact Wk.c (.agg (.cons .refl (.cons .refl (.cons .refl (.cons .sl0 (.cons .sl0 (.cons .sl0 (.cons .sl0 (.cons .sl0 (.cons .sl0 (.cons .sl0 .nil)))))))))))))))) ?_
    exact True.intro
   ) ?_
  intro p hi2; obtain ⟨i, e3, e8, e9, S⟩ := p; obtain ⟨hi, hS, hk⟩ := hi2; dsimp only at hi hS hk ⊢; by_cases hlt : i < l.length; (have hrm := rc_mem l i hlt); (have hrn := hn _ hrm); (have hrb := hb _ hrm); (have hra := hall _ hrm); (have hnx := fold_rc l i hlt); (rw [hS] at hnx); (obtain ⟨r, hr⟩ : ∃ r, l.getD i rc0 = r := ⟨_, rfl⟩); (rw [hr] at hrm hrn hrb hra hnx); (obtain ⟨tag, nr, b⟩ := r); (obtain rfl : nr = false := hrn); (have hcell : rcAt l (Int.toNat (i : Int)) = rcAV ⟨tag, false, b⟩ := congrArg rcAV hr); (rcases put_cases tag e3 e8 e9 with rfl | ⟨rfl, rfl⟩ | ⟨rfl, rfl⟩ | rfl | rfl | rfl | rfl | ⟨rfl, rfl⟩ | ⟨rfl, rfl⟩ | ⟨rfl, rfl⟩ | ⟨rfl, rfl⟩ | hx)
  ·skip
   refine awp_seq (awp_region rfl ?_)
   refine sP (opp_cmp rfl rfl rfl rfl) rfl rfl ?_
   refine awp_seq ?_
   refine awp_cond _ rfl (fun ht34 => ?_) (fun ht34 => ?_)
   ·(try simp only [cmpI, errD_nil, qa, qb, qc, qd] at ht34)
    refine awp_skip (awp_seq (awp_block (awp_seq (awp_region rfl ?_))))
    refine sP (opp_indexSl rfl rfl rfl el39 (by omega) (by omega)) rfl rfl ?_
    rw [hcell]
    refine sP (opp_loadF rfl rfl ty105) rfl rfl ?_
    refine sR (opr_alloc (n := 8) rfl z105) rfl rfl rfl ?_
    refine sR0 (opr_store (v := .agg _) (trn := (.agg _)) rfl rfl rfl rfl bi rfl rfl rfl rfl fr2 ty105 (fun _ _ h => h)) rfl rfl rfl ?_
    refine awp_region rfl ?_
    refine sP (opp_loadP rfl rfl rfl rfl bi rfl ty105) rfl rfl ?_
    refine sR (opr_callGF (i0 := 1) (j0 := 6) (rl := [(1, 6)]) (A := [.top, .int _ _, .int _ _, .top, .top, .top, .top, .top, .top, .top]) (B := [.top, .int _ _, .int _ _, .top, .top, .top, .top, .top, .top, .top]) (B' := [.top, .int _ _, .int _ _, .top, .top, .top, .top, .top, .top, .top]) (r1 := .tup []) (H1 := []) (n1 := []) [true, false, false, true, true, true, true, true, true, true] rfl rfl ent122 (fun vs => cg122a b (long_1 hra.1) vs _ _) rfl rfl rfl rfl (by first | rfl | (simp only [oneB, rowA_one, rowV_one]; rfl)) (And.intro (And.intro rfl wka) (And.intro (And.intro rfl wka) True.intro)) (fun vs => (And.intro (And.intro rfl (Exists.intro _ (And.intro rfl wkc))) True.intro)) rfl rfl (fun _ => rfl) (by simp only [mixB, List.getD_cons_zero, List.getD_cons_succ, cond_true, cond_false]; exact rfl) rfl rfl) rfl rfl rfl ?_
    refine awp_region rfl ?_
    refine sP (opp_arith rfl rfl rfl (.inl ⟨rfl, w64 (by omega)⟩)) rfl rfl ?_
    refine sP (opp_mv (v := .int _ _) rfl rfl) rfl rfl ?_
    refine Exists.intro ((i + 1, e3, e8, e9, { S with frame := Sp.fld b 0 4, epoch := Sp.fld b 4 4 })) (And.intro (And.intro (And.intro (by show i + 1 ≤ _; omega) (And.intro (hnx.trans (putR_1 ..)) (hk.up rfl rfl rfl))) (by first | omega | (dsimp only; omega))) (by
     rcases e3 with _ | _ <;> rcases e8 with _ | _ <;> rcases e9 with _ | _
     all_goals
      refine imp_over [] rfl rfl (by kernel_rfl) ?_ ?_
      ·iterate 8 refine And.intro wkv ?_
       exact True.intro
      ·refine And.intro (And.intro rfl (And.intro rfl (Exists.intro _ (And.intro rfl (by first | exact WkC.refl _ | (simp only [staB, snoc_len]; exact WkC.refl _)))))) ?_
       repeat (refine And.intro (And.intro rfl (And.intro rfl (Exists.intro _ (And.intro rfl (by first | exact WkC.refl _ | (simp only [snoc_len]; exact WkC.refl _)))))) ?_)
       exact True.intro
     ))
   ·(try simp only [cmpI, errD_nil, qa, qb, qc, qd] at ht34)
    exfalso; omega
  ·skip
   refine awp_seq (awp_region rfl ?_)
   refine sP (opp_cmp rfl rfl rfl rfl) rfl rfl ?_
   refine awp_seq ?_
   refine awp_cond _ rfl (fun ht34 => ?_) (fun ht34 => ?_)
   ·(try simp only [cmpI, errD_nil, qa, qb, qc, qd] at ht34)
    refine awp_skip (awp_seq (awp_block (awp_seq (awp_region rfl ?_))))
    refine sP (opp_indexSl rfl rfl rfl el39 (by omega) (by omega)) rfl rfl ?_
    rw [hcell]
    refine sP (opp_loadF rfl rfl ty105) rfl rfl ?_
    refine sR (opr_alloc (n := 8) rfl z105) rfl rfl rfl ?_
    refine sR0 (opr_store (v := .agg _) (trn := (.agg _)) rfl rfl rfl rfl bi rfl rfl rfl rfl fr2 ty105 (fun _ _ h => h)) rfl rfl rfl ?_
    refine awp_region rfl ?_
    refine sP (opp_loadP rfl rfl rfl rfl bi rfl ty105) rfl rfl ?_
    refine sR (opr_callGF (i0 := 1) (j0 := 6) (rl := [(1, 6), (2, 1003), (48, 2003)]) (A := [.top, .top, .top, .osl 2 _ _ _ _, .top, .top, .top, .top, .top, .top]) (B := [.top, .top, .top, .osl 48 _ _ _ _, .top, .top, .top, .top, .top, .top]) (B' := [.top, .top, .top, .osl 2003 _ _ _ _, .top, .top, .top, .top, .top, .top]) (r1 := .tup []) (H1 := [(1003, none), (2003, some (.arr _ _ _))]) (n1 := [2003]) [true, true, true, false, true, true, true, true, true, true] rfl rfl ent122 (fun vs => cg122b b (long_3 hra.1) vs S.procs (by have := hk.pl; omega)) rfl rfl rfl rfl (by first | rfl | (simp only [oneB, rowA_one, rowV_one]; rfl)) (And.intro (And.intro rfl wka) (And.intro (And.intro rfl wka) True.intro)) (fun vs => (And.intro (And.intro rfl (Exists.intro _ (And.intro rfl wkc))) (And.intro (And.intro rfl (Exists.intro _ (And.intro rfl wkc))) True.intro))) rfl rfl (fun _ => rfl) (by simp only [mixB, List.getD_cons_zero, List.getD_cons_succ, cond_true, cond_false]; exact rfl) rfl rfl) rfl rfl rfl ?_
    refine awp_region rfl ?_
    refine sP (opp_arith rfl rfl rfl (.inl ⟨rfl, w64 (by omega)⟩)) rfl rfl ?_
    refine sP (opp_mv (v := .int _ _) rfl rfl) rfl rfl ?_
    refine Exists.intro ((i + 1, false, e8, e9, { S with procs := S.procs ++ [Sp.proc b] })) (And.intro (And.intro (And.intro (by show i + 1 ≤ _; omega) (And.intro (hnx.trans (putR_3 ..)) (hk.addP _))) (by first | omega | (dsimp only; omega))) (by
     rcases e8 with _ | _ <;> rcases e9 with _ | _
     all_goals
      refine imp_over [(1003, 2003)] rfl rfl (by kernel_rfl) ?_ ?_
      ·iterate 8 refine And.intro wkv ?_
       exact True.intro
      ·refine And.intro (And.intro rfl (And.intro rfl (Exists.intro _ (And.intro rfl (by first | exact WkC.refl _ | (simp only [staB, snoc_len]; exact WkC.refl _)))))) ?_
       repeat (refine And.intro (And.intro rfl (And.intro rfl (Exists.intro _ (And.intro rfl (by first | exact WkC.refl _ | (simp only [snoc_len]; exact WkC.refl _)))))) ?_)
       exact True.intro
     ))
   ·(try simp only [cmpI, errD_nil, qa, qb, qc, qd] at ht34)
    exfalso; omega
  ·skip
   refine awp_seq (awp_region rfl ?_)
   refine sP (opp_cmp rfl rfl rfl rfl) rfl rfl ?_
   refine awp_seq ?_
   refine awp_cond _ rfl (fun ht34 => ?_) (fun ht34 => ?_)
   ·(try simp only [cmpI, errD_nil, qa, qb, qc, qd] at ht34)
    refine awp_skip (awp_seq (awp_block (awp_seq (awp_region rfl ?_))))
    refine sP (opp_indexSl rfl rfl rfl el39 (by omega) (by omega)) rfl rfl ?_
    rw [hcell]
    refine sP (opp_loadF rfl rfl ty105) rfl rfl ?_
    refine sR (opr_alloc (n := 8) rfl z105) rfl rfl rfl ?_
    refine sR0 (opr_store (v := .agg _) (trn := (.agg _)) rfl rfl rfl rfl bi rfl rfl rfl rfl fr2 ty105 (fun _ _ h => h)) rfl rfl rfl ?_
    refine awp_region rfl ?_
    refine sP (opp_loadP rfl rfl rfl rfl bi rfl ty105) rfl rfl ?_
    refine sR (opr_callGF (i0 := 1) (j0 := 6) (rl := [(1, 6), (48, 2003)]) (A := [.top, .top, .top, .sl _ _ _ _, .top, .top, .top, .top, .top, .top]) (B := [.top, .top, .top, .osl 48 _ _ _ _, .top, .top, .top, .top, .top, .top]) (B' := [.top, .top, .top, .osl 2003 _ _ _ _, .top, .top, .top, .top, .top, .top]) (r1 := .tup []) (H1 := [(2003, some (.arr _ _ _))]) (n1 := [2003]) [true, true, true, false, true, true, true, true, true, true] rfl rfl ent122 (fun vs => cg122c b (long_3 hra.1) vs _) rfl rfl rfl rfl (by first | rfl | (simp only [oneB, rowA_one, rowV_one]; rfl)) (And.intro (And.intro rfl wka) (And.intro (And.intro rfl wka) True.intro)) (fun vs => (And.intro (And.intro rfl (Exists.intro _ (And.intro rfl wkc))) True.intro)) rfl rfl (fun _ => rfl) (by simp only [mixB, List.getD_cons_zero, List.getD_cons_succ, cond_true, cond_false]; exact rfl) rfl rfl) rfl rfl rfl ?_
    refine awp_region rfl ?_
    refine sP (opp_arith rfl rfl rfl (.inl ⟨rfl, w64 (by omega)⟩)) rfl rfl ?_
    refine sP (opp_mv (v := .int _ _) rfl rfl) rfl rfl ?_
    have hp0 : S.procs = [] := List.length_eq_zero_iff.1 (hk.p.1 rfl)
    refine Exists.intro ((i + 1, false, e8, e9, { S with procs := S.procs ++ [Sp.proc b] })) (And.intro (And.intro (And.intro (by show i + 1 ≤ _; omega) (And.intro (hnx.trans (putR_3 ..)) (hk.addP _))) (by first | omega | (dsimp only; omega))) (by
     rcases e8 with _ | _ <;> rcases e9 with _ | _
     all_goals
      refine imp_over [(1003, 2003)] rfl rfl (by kernel_rfl) ?_ ?_
      ·iterate 8 refine And.intro wkv ?_
       exact True.intro
      ·refine And.intro (And.intro rfl (And.intro rfl (Exists.intro _ (And.intro rfl (by (simp only [staB, hp0]; exact WkC.refl _)))))) ?_
       repeat (refine And.intro (And.intro rfl (And.intro rfl (Exists.intro _ (And.intro rfl (by first | exact WkC.refl _ | (simp only [hp0]; exact WkC.refl _)))))) ?_)
       exact True.intro
     ))
   ·(try simp only [cmpI, errD_nil, qa, qb, qc, qd] at ht34)
    exfalso; omega
  ·skip
   refine awp_seq (awp_region rfl ?_)
   refine sP (opp_cmp rfl rfl rfl rfl) rfl rfl ?_
   refine awp_seq ?_
   refine awp_cond _ rfl (fun ht34 => ?_) (fun ht34 => ?_)
   ·(try simp only [cmpI, errD_nil, qa, qb, qc, qd] at ht34)
    refine awp_skip (awp_seq (awp_block (awp_seq (awp_region rfl ?_))))
    refine sP (opp_indexSl rfl rfl rfl el39 (by omega) (by omega)) rfl rfl ?_
    rw [hcell]
    refine sP (opp_loadF rfl rfl ty105) rfl rfl ?_
    refine sR (opr_alloc (n := 8) rfl z105) rfl rfl rfl ?_
    refine sR0 (opr_store (v := .agg _) (trn := (.agg _)) rfl rfl rfl rfl bi rfl rfl rfl rfl fr2 ty105 (fun _ _ h => h)) rfl rfl rfl ?_
    refine awp_region rfl ?_
    refine sP (opp_loadP rfl rfl rfl rfl bi rfl ty105) rfl rfl ?_
    refine sR (opr_callGF (i0 := 1) (j0 := 6) (rl := [(1, 6)]) (A := [.top, .top, .top, .top, .sl _ _ _ _, .top, .top, .top, .top, .top]) (B := [.top, .top, .top, .top, _, .top, .top, .top, .top, .top]) (B' := [.top, .top, .top, .top, _, .top, .top, .top, .top, .top]) (r1 := .tup []) (H1 := []) (n1 := []) [true, true, true, true, false, true, true, true, true, true] rfl rfl ent122 (fun vs => cg122d b hrb vs _ _ _) rfl rfl rfl rfl (by first | rfl | (simp only [oneB, rowA_one, rowV_one]; rfl)) (And.intro (And.intro rfl wka) (And.intro (And.intro rfl wka) True.intro)) (fun vs => (And.intro (And.intro rfl (Exists.intro _ (And.intro rfl wkc))) True.intro)) rfl rfl (fun _ => rfl) (by simp only [mixB, List.getD_cons_zero, List.getD_cons_succ, cond_true, cond_false]; exact rfl) rfl rfl) rfl rfl rfl ?_
    refine awp_region rfl ?_
    refine sP (opp_arith rfl rfl rfl (.inl ⟨rfl, w64 (by omega)⟩)) rfl rfl ?_
    refine sP (opp_mv (v := .int _ _) rfl rfl) rfl rfl ?_
    refine Exists.intro ((i + 1, e3, e8, e9, { S with ready := Sp.nums b })) (And.intro (And.intro (And.intro (by show i + 1 ≤ _; omega) (And.intro (hnx.trans (putR_4 ..)) (hk.up rfl rfl rfl))) (by first | omega | (dsimp only; omega))) (by
     rcases e3 with _ | _ <;> rcases e8 with _ | _ <;> rcases e9 with _ | _
     all_goals
      refine imp_over [] rfl rfl (by kernel_rfl) ?_ ?_
      ·iterate 8 refine And.intro wkv ?_
       exact True.intro
      ·refine And.intro (And.intro rfl (And.intro rfl (Exists.intro _ (And.intro rfl (by first | exact WkC.refl _ | (simp only [staB, snoc_len]; exact WkC.refl _)))))) ?_
       repeat (refine And.intro (And.intro rfl (And.intro rfl (Exists.intro _ (And.intro rfl (by first | exact WkC.refl _ | (simp only [snoc_len]; exact WkC.refl _)))))) ?_)
       exact True.intro
     ))
   ·(try simp only [cmpI, errD_nil, qa, qb, qc, qd] at ht34)
    exfalso; omega
  ·skip
   refine awp_seq (awp_region rfl ?_)
   refine sP (opp_cmp rfl rfl rfl rfl) rfl rfl ?_
   refine awp_seq ?_
   refine awp_cond _ rfl (fun ht34 => ?_) (fun ht34 => ?_)
   ·(try simp only [cmpI, errD_nil, qa, qb, qc, qd] at ht34)
    refine awp_skip (awp_seq (awp_block (awp_seq (awp_region rfl ?_))))
    refine sP (opp_indexSl rfl rfl rfl el39 (by omega) (by omega)) rfl rfl ?_
    rw [hcell]
    refine sP (opp_loadF rfl rfl ty105) rfl rfl ?_
    refine sR (opr_alloc (n := 8) rfl z105) rfl rfl rfl ?_
    refine sR0 (opr_store (v := .agg _) (trn := (.agg _)) rfl rfl rfl rfl bi rfl rfl rfl rfl fr2 ty105 (fun _ _ h => h)) rfl rfl rfl ?_
    refine awp_region rfl ?_
    refine sP (opp_loadP rfl rfl rfl rfl bi rfl ty105) rfl rfl ?_
    refine sR (opr_callGF (i0 := 1) (j0 := 6) (rl := [(1, 6)]) (A := [.top, .top, .top, .top, .top, .top, .top, .sl _ _ _ _, .top, .top]) (B := [.top, .top, .top, .top, .top, .top, .top, _, .top, .top]) (B' := [.top, .top, .top, .top, .top, .top, .top, _, .top, .top]) (r1 := .tup []) (H1 := []) (n1 := []) [true, true, true, true, true, true, true, false, true, true] rfl rfl ent122 (fun vs => cg122e b hrb vs _ _ _) rfl rfl rfl rfl (by first | rfl | (simp only [oneB, rowA_one, rowV_one]; rfl)) (And.intro (And.intro rfl wka) (And.intro (And.intro rfl wka) True.intro)) (fun vs => (And.intro (And.intro rfl (Exists.intro _ (And.intro rfl wkc))) True.intro)) rfl rfl (fun _ => rfl) (by simp only [mixB, List.getD_cons_zero, List.getD_cons_succ, cond_true, cond_false]; exact rfl) rfl rfl) rfl rfl rfl ?_
    refine awp_region rfl ?_
    refine sP (opp_arith rfl rfl rfl (.inl ⟨rfl, w64 (by omega)⟩)) rfl rfl ?_
    refine sP (opp_mv (v := .int _ _) rfl rfl) rfl rfl ?_
    refine Exists.intro ((i + 1, e3, e8, e9, { S with sems := Sp.nums b })) (And.intro (And.intro (And.intro (by show i + 1 ≤ _; omega) (And.intro (hnx.trans (putR_7 ..)) (hk.up rfl rfl rfl))) (by first | omega | (dsimp only; omega))) (by
     rcases e3 with _ | _ <;> rcases e8 with _ | _ <;> rcases e9 with _ | _
     all_goals
      refine imp_over [] rfl rfl (by kernel_rfl) ?_ ?_
      ·iterate 8 refine And.intro wkv ?_
       exact True.intro
      ·refine And.intro (And.intro rfl (And.intro rfl (Exists.intro _ (And.intro rfl (by first | exact WkC.refl _ | (simp only [staB, snoc_len]; exact WkC.refl _)))))) ?_
       repeat (refine And.intro (And.intro rfl (And.intro rfl (Exists.intro _ (And.intro rfl (by first | exact WkC.refl _ | (simp only [snoc_len]; exact WkC.refl _)))))) ?_)
       exact True.intro
     ))
   ·(try simp only [cmpI, errD_nil, qa, qb, qc, qd] at ht34)
    exfalso; omega
  ·skip
   refine awp_seq (awp_region rfl ?_)
   refine sP (opp_cmp rfl rfl rfl rfl) rfl rfl ?_
   refine awp_seq ?_
   refine awp_cond _ rfl (fun ht34 => ?_) (fun ht34 => ?_)
   ·(try simp only [cmpI, errD_nil, qa, qb, qc, qd] at ht34)
    refine awp_skip (awp_seq (awp_block (awp_seq (awp_region rfl ?_))))
    refine sP (opp_indexSl rfl rfl rfl el39 (by omega) (by omega)) rfl rfl ?_
    rw [hcell]
    refine sP (opp_loadF rfl rfl ty105) rfl rfl ?_
    refine sR (opr_alloc (n := 8) rfl z105) rfl rfl rfl ?_
    refine sR0 (opr_store (v := .agg _) (trn := (.agg _)) rfl rfl rfl rfl bi rfl rfl rfl rfl fr2 ty105 (fun _ _ h => h)) rfl rfl rfl ?_
    refine awp_region rfl ?_
    refine sP (opp_loadP rfl rfl rfl rfl bi rfl ty105) rfl rfl ?_
    refine sR (opr_callGF (i0 := 1) (j0 := 6) (rl := [(1, 6)]) (A := [.top, .top, .top, .top, .top, .sl _ _ _ _, .top, .top, .top, .top]) (B := [.top, .top, .top, .top, .top, _, .top, .top, .top, .top]) (B' := [.top, .top, .top, .top, .top, _, .top, .top, .top, .top]) (r1 := .tup []) (H1 := []) (n1 := []) [true, true, true, true, true, false, true, true, true, true] rfl rfl ent122 (fun vs => cg122f b hrb (long_5 hra.1) vs _ _ _) rfl rfl rfl rfl (by first | rfl | (simp only [oneB, rowA_one, rowV_one]; rfl)) (And.intro (And.intro rfl wka) (And.intro (And.intro rfl wka) True.intro)) (fun vs => (And.intro (And.intro rfl (Exists.intro _ (And.intro rfl wkc))) True.intro)) rfl rfl (fun _ => rfl) (by simp only [mixB, List.getD_cons_zero, List.getD_cons_succ, cond_true, cond_false]; exact rfl) rfl rfl) rfl rfl rfl ?_
    refine awp_region rfl ?_
    refine sP (opp_arith rfl rfl rfl (.inl ⟨rfl, w64 (by omega)⟩)) rfl rfl ?_
    refine sP (opp_mv (v := .int _ _) rfl rfl) rfl rfl ?_
    refine Exists.intro ((i + 1, e3, e8, e9, { S with timers := Sp.timersOf b })) (And.intro (And.intro (And.intro (by show i + 1 ≤ _; omega) (And.intro (hnx.trans (putR_5 ..)) (hk.up rfl rfl rfl))) (by first | omega | (dsimp only; omega))) (by
     rcases e3 with _ | _ <;> rcases e8 with _ | _ <;> rcases e9 with _ | _
     all_goals
      refine imp_over [] rfl rfl (by kernel_rfl) ?_ ?_
      ·iterate 8 refine And.intro wkv ?_
       exact True.intro
      ·refine And.intro (And.intro rfl (And.intro rfl (Exists.intro _ (And.intro rfl (by first | exact WkC.refl _ | (simp only [staB, snoc_len]; exact WkC.refl _)))))) ?_
       repeat (refine And.intro (And.intro rfl (And.intro rfl (Exists.intro _ (And.intro rfl (by first | exact WkC.refl _ | (simp only [snoc_len]; exact WkC.refl _)))))) ?_)
       exact True.intro
     ))
   ·(try simp only [cmpI, errD_nil, qa, qb, qc, qd] at ht34)
    exfalso; omega
  ·skip
   refine awp_seq (awp_region rfl ?_)
   refine sP (opp_cmp rfl rfl rfl rfl) rfl rfl ?_
   refine awp_seq ?_
   refine awp_cond _ rfl (fun ht34 => ?_) (fun ht34 => ?_)
   ·(try simp only [cmpI, errD_nil, qa, qb, qc, qd] at ht34)
    refine awp_skip (awp_seq (awp_block (awp_seq (awp_region rfl ?_))))
    refine sP (opp_indexSl rfl rfl rfl el39 (by omega) (by omega)) rfl rfl ?_
    rw [hcell]
    refine sP (opp_loadF rfl rfl ty105) rfl rfl ?_
    refine sR (opr_alloc (n := 8) rfl z105) rfl rfl rfl ?_
    refine sR0 (opr_store (v := .agg _) (trn := (.agg _)) rfl rfl rfl rfl bi rfl rfl rfl rfl fr2 ty105 (fun _ _ h => h)) rfl rfl rfl ?_
    refine awp_region rfl ?_
    refine sP (opp_loadP rfl rfl rfl rfl bi rfl ty105) rfl rfl ?_
    refine sR (opr_callGF (i0 := 1) (j0 := 6) (rl := [(1, 6)]) (A := [.top, .top, .top, .top, .top, .top, .sl _ _ _ _, .top, .top, .top]) (B := [.top, .top, .top, .top, .top, .top, _, .top, .top, .top]) (B' := [.top, .top, .top, .top, .top, .top, _, .top, .top, .top]) (r1 := .tup []) (H1 := []) (n1 := []) [true, true, true, true, true, true, false, true, true, true] rfl rfl ent122 (fun vs => cg122g b hrb vs _ _ _) rfl rfl rfl rfl (by first | rfl | (simp only [oneB, rowA_one, rowV_one]; rfl)) (And.intro (And.intro rfl wka) (And.intro (And.intro rfl wka) True.intro)) (fun vs => (And.intro (And.intro rfl (Exists.intro _ (And.intro rfl wkc))) True.intro)) rfl rfl (fun _ => rfl) (by simp only [mixB, List.getD_cons_zero, List.getD_cons_succ, cond_true, cond_false]; exact rfl) rfl rfl) rfl rfl rfl ?_
    refine awp_region rfl ?_
    refine sP (opp_arith rfl rfl rfl (.inl ⟨rfl, w64 (by omega)⟩)) rfl rfl ?_
    refine sP (opp_mv (v := .int _ _) rfl rfl) rfl rfl ?_
    refine Exists.intro ((i + 1, e3, e8, e9, { S with up := ups b })) (And.intro (And.intro (And.intro (by show i + 1 ≤ _; omega) (And.intro (hnx.trans (putR_6 ..)) (hk.up rfl rfl rfl))) (by first | omega | (dsimp only; omega))) (by
     rcases e3 with _ | _ <;> rcases e8 with _ | _ <;> rcases e9 with _ | _
     all_goals
      refine imp_over [] rfl rfl (by kernel_rfl) ?_ ?_
      ·iterate 8 refine And.intro wkv ?_
       exact True.intro
      ·refine And.intro (And.intro rfl (And.intro rfl (Exists.intro _ (And.intro rfl (by first | exact WkC.refl _ | (simp only [staB, snoc_len]; exact WkC.refl _)))))) ?_
       repeat (refine And.intro (And.intro rfl (And.intro rfl (Exists.intro _ (And.intro rfl (by first | exact WkC.refl _ | (simp only [snoc_len]; exact WkC.refl _)))))) ?_)
       exact True.intro
     ))
   ·(try simp only [cmpI, errD_nil, qa, qb, qc, qd] at ht34)
    exfalso; omega
  ·skip
   refine awp_seq (awp_region rfl ?_)
   refine sP (opp_cmp rfl rfl rfl rfl) rfl rfl ?_
   refine awp_seq ?_
   refine awp_cond _ rfl (fun ht34 => ?_) (fun ht34 => ?_)
   ·(try simp only [cmpI, errD_nil, qa, qb, qc, qd] at ht34)
    refine awp_skip (awp_seq (awp_block (awp_seq (awp_region rfl ?_))))
    refine sP (opp_indexSl rfl rfl rfl el39 (by omega) (by omega)) rfl rfl ?_
    rw [hcell]
    refine sP (opp_loadF rfl rfl ty105) rfl rfl ?_
    refine sR (opr_alloc (n := 8) rfl z105) rfl rfl rfl ?_
    refine sR0 (opr_store (v := .agg _) (trn := (.agg _)) rfl rfl rfl rfl bi rfl rfl rfl rfl fr2 ty105 (fun _ _ h => h)) rfl rfl rfl ?_
    refine awp_region rfl ?_
    refine sP (opp_loadP rfl rfl rfl rfl bi rfl ty105) rfl rfl ?_
    refine sR (opr_callGF (i0 := 1) (j0 := 6) (rl := [(1, 6), (2, 1008), (136, 2008)]) (A := [.top, .top, .top, .top, .top, .top, .top, .top, .osl 2 _ _ _ _, .top]) (B := [.top, .top, .top, .top, .top, .top, .top, .top, .osl 136 _ _ _ _, .top]) (B' := [.top, .top, .top, .top, .top, .top, .top, .top, .osl 2008 _ _ _ _, .top]) (r1 := .tup []) (H1 := [(1008, none), (2008, some (.arr _ _ _))]) (n1 := [2008]) [true, true, true, true, true, true, true, true, false, true] rfl rfl ent122 (fun vs => cg122h b hrb vs S.ports (by have := hk.ql; omega) hG1 hG7) rfl rfl rfl rfl (by first | rfl | (simp only [oneB, rowA_one, rowV_one]; rfl)) (And.intro (And.intro rfl wka) (And.intro (And.intro rfl wka) True.intro)) (fun vs => (And.intro (And.intro rfl (Exists.intro _ (And.intro rfl wkc))) (And.intro (And.intro rfl (Exists.intro _ (And.intro rfl wkc))) True.intro))) rfl rfl (fun _ => rfl) (by simp only [mixB, List.getD_cons_zero, List.getD_cons_succ, cond_true, cond_false]; exact rfl) rfl rfl) rfl rfl rfl ?_
    refine awp_region rfl ?_
    refine sP (opp_arith rfl rfl rfl (.inl ⟨rfl, w64 (by omega)⟩)) rfl rfl ?_
    refine sP (opp_mv (v := .int _ _) rfl rfl) rfl rfl ?_
    refine Exists.intro ((i + 1, e3, false, e9, { S with ports := S.ports ++ [(Sp.portQ b).1] })) (And.intro (And.intro (And.intro (by show i + 1 ≤ _; omega) (And.intro (hnx.trans (putR_8 ..)) (hk.addQ _))) (by first | omega | (dsimp only; omega))) (by
     rcases e3 with _ | _ <;> rcases e9 with _ | _
     all_goals
      refine imp_over [(1008, 2008)] rfl rfl (by kernel_rfl) ?_ ?_
      ·iterate 8 refine And.intro wkv ?_
       exact True.intro
      ·refine And.intro (And.intro rfl (And.intro rfl (Exists.intro _ (And.intro rfl (by first | exact WkC.refl _ | (simp only [staB, snoc_len]; exact WkC.refl _)))))) ?_
       repeat (refine And.intro (And.intro rfl (And.intro rfl (Exists.intro _ (And.intro rfl (by first | exact WkC.refl _ | (simp only [snoc_len]; exact WkC.refl _)))))) ?_)
       exact True.intro
     ))
   ·(try simp only [cmpI, errD_nil, qa, qb, qc, qd] at ht34)
    exfalso; omega
  ·skip
   refine awp_seq (awp_region rfl ?_)
   refine sP (opp_cmp rfl rfl rfl rfl) rfl rfl ?_
   refine awp_seq ?_
   refine awp_cond _ rfl (fun ht34 => ?_) (fun ht34 => ?_)
   ·(try simp only [cmpI, errD_nil, qa, qb, qc, qd] at ht34)
    refine awp_skip (awp_seq (awp_block (awp_seq (awp_region rfl ?_))))
    refine sP (opp_indexSl rfl rfl rfl el39 (by omega) (by omega)) rfl rfl ?_
    rw [hcell]
    refine sP (opp_loadF rfl rfl ty105) rfl rfl ?_
    refine sR (opr_alloc (n := 8) rfl z105) rfl rfl rfl ?_
    refine sR0 (opr_store (v := .agg _) (trn := (.agg _)) rfl rfl rfl rfl bi rfl rfl rfl rfl fr2 ty105 (fun _ _ h => h)) rfl rfl rfl ?_
    refine awp_region rfl ?_
    refine sP (opp_loadP rfl rfl rfl rfl bi rfl ty105) rfl rfl ?_
    refine sR (opr_callGF (i0 := 1) (j0 := 6) (rl := [(1, 6), (136, 2008)]) (A := [.top, .top, .top, .top, .top, .top, .top, .top, .sl _ _ _ _, .top]) (B := [.top, .top, .top, .top, .top, .top, .top, .top, .osl 136 _ _ _ _, .top]) (B' := [.top, .top, .top, .top, .top, .top, .top, .top, .osl 2008 _ _ _ _, .top]) (r1 := .tup []) (H1 := [(2008, some (.arr _ _ _))]) (n1 := [2008]) [true, true, true, true, true, true, true, true, false, true] rfl rfl ent122 (fun vs => cg122i b hrb vs _ hG1 hG7) rfl rfl rfl rfl (by first | rfl | (simp only [oneB, rowA_one, rowV_one]; rfl)) (And.intro (And.intro rfl wka) (And.intro (And.intro rfl wka) True.intro)) (fun vs => (And.intro (And.intro rfl (Exists.intro _ (And.intro rfl wkc))) True.intro)) rfl rfl (fun _ => rfl) (by simp only [mixB, List.getD_cons_zero, List.getD_cons_succ, cond_true, cond_false]; exact rfl) rfl rfl) rfl rfl rfl ?_
    refine awp_region rfl ?_
    refine sP (opp_arith rfl rfl rfl (.inl ⟨rfl, w64 (by omega)⟩)) rfl rfl ?_
    refine sP (opp_mv (v := .int _ _) rfl rfl) rfl rfl ?_
    have hp0 : S.ports = [] := List.length_eq_zero_iff.1 (hk.q.1 rfl)
    refine Exists.intro ((i + 1, e3, false, e9, { S with ports := S.ports ++ [(Sp.portQ b).1] })) (And.intro (And.intro (And.intro (by show i + 1 ≤ _; omega) (And.intro (hnx.trans (putR_8 ..)) (hk.addQ _))) (by first | omega | (dsimp only; omega))) (by
     rcases e3 with _ | _ <;> rcases e9 with _ | _
     all_goals
      refine imp_over [(1008, 2008)] rfl rfl (by kernel_rfl) ?_ ?_
      ·iterate 8 refine And.intro wkv ?_
       exact True.intro
      ·refine And.intro (And.intro rfl (And.intro rfl (Exists.intro _ (And.intro rfl (by (simp only [staB, hp0]; exact WkC.refl _)))))) ?_
       repeat (refine And.intro (And.intro rfl (And.intro rfl (Exists.intro _ (And.intro rfl (by first | exact WkC.refl _ | (simp only [hp0]; exact WkC.refl _)))))) ?_)
       exact True.intro
     ))
   ·(try simp only [cmpI, errD_nil, qa, qb, qc, qd] at ht34)
    exfalso; omega
  ·skip
   refine awp_seq (awp_region rfl ?_)
   refine sP (opp_cmp rfl rfl rfl rfl) rfl rfl ?_
   refine awp_seq ?_
   refine awp_cond _ rfl (fun ht34 => ?_) (fun ht34 => ?_)
   ·(try simp only [cmpI, errD_nil, qa, qb, qc, qd] at ht34)
    refine awp_skip (awp_seq (awp_block (awp_seq (awp_region rfl ?_))))
    refine sP (opp_indexSl rfl rfl rfl el39 (by omega) (by omega)) rfl rfl ?_
    rw [hcell]
    refine sP (opp_loadF rfl rfl ty105) rfl rfl ?_
    refine sR (opr_alloc (n := 8) rfl z105) rfl rfl rfl ?_
    refine sR0 (opr_store (v := .agg _) (trn := (.agg _)) rfl rfl rfl rfl bi rfl rfl rfl rfl fr2 ty105 (fun _ _ h => h)) rfl rfl rfl ?_
    refine awp_region rfl ?_
    refine sP (opp_loadP rfl rfl rfl rfl bi rfl ty105) rfl rfl ?_
    refine sR (opr_callGF (i0 := 1) (j0 := 6) (rl := [(1, 6), (2, 1009), (160, 2009)]) (A := [.top, .top, .top, .top, .top, .top, .top, .top, .top, .osl 2 _ _ _ _]) (B := [.top, .top, .top, .top, .top, .top, .top, .top, .top, .osl 160 _ _ _ _]) (B' := [.top, .top, .top, .top, .top, .top, .top, .top, .top, .osl 2009 _ _ _ _]) (r1 := .tup []) (H1 := [(1009, none), (2009, some (.arr _ _ _))]) (n1 := [2009]) [true, true, true, true, true, true, true, true, true, false] rfl rfl ent122 (fun vs => cg122j b (long_9 hra.1) vs S.pages (by have := hk.gl; omega)) rfl rfl rfl rfl (by first | rfl | (simp only [oneB, rowA_one, rowV_one]; rfl)) (And.intro (And.intro rfl wka) (And.intro (And.intro rfl wka) True.intro)) (fun vs => (And.intro (And.intro rfl (Exists.intro _ (And.intro rfl wkc))) (And.intro (And.intro rfl (Exists.intro _ (And.intro rfl wkc))) True.intro))) rfl rfl (fun _ => rfl) (by simp only [mixB, List.getD_cons_zero, List.getD_cons_succ, cond_true, cond_false]; exact rfl) rfl rfl) rfl rfl rfl ?_
    refine awp_region rfl ?_
    refine sP (opp_arith rfl rfl rfl (.inl ⟨rfl, w64 (by omega)⟩)) rfl rfl ?_
    refine sP (opp_mv (v := .int _ _) rfl rfl) rfl rfl ?_
    refine Exists.intro ((i + 1, e3, e8, false, { S with pages := S.pages ++ [Sp.page b] })) (And.intro (And.intro (And.intro (by show i + 1 ≤ _; omega) (And.intro (hnx.trans (putR_9 ..)) (hk.addG _))) (by first | omega | (dsimp only; omega))) (by
     rcases e3 with _ | _ <;> rcases e8 with _ | _
     all_goals
      refine imp_over [(1009, 2009)] rfl rfl (by kernel_rfl) ?_ ?_
      ·iterate 8 refine And.intro wkv ?_
       exact True.intro
      ·refine And.intro (And.intro rfl (And.intro rfl (Exists.intro _ (And.intro rfl (by first | exact WkC.refl _ | (simp only [staB, snoc_len]; exact WkC.refl _)))))) ?_
       repeat (refine And.intro (And.intro rfl (And.intro rfl (Exists.intro _ (And.intro rfl (by first | exact WkC.refl _ | (simp only [snoc_len]; exact WkC.refl _)))))) ?_)
       exact True.intro
     ))
   ·(try simp only [cmpI, errD_nil, qa, qb, qc, qd] at ht34)
    exfalso; omega
  ·skip
   refine awp_seq (awp_region rfl ?_)
   refine sP (opp_cmp rfl rfl rfl rfl) rfl rfl ?_
   refine awp_seq ?_
   refine awp_cond _ rfl (fun ht34 => ?_) (fun ht34 => ?_)
   ·(try simp only [cmpI, errD_nil, qa, qb, qc, qd] at ht34)
    refine awp_skip (awp_seq (awp_block (awp_seq (awp_region rfl ?_))))
    refine sP (opp_indexSl rfl rfl rfl el39 (by omega) (by omega)) rfl rfl ?_
    rw [hcell]
    refine sP (opp_loadF rfl rfl ty105) rfl rfl ?_
    refine sR (opr_alloc (n := 8) rfl z105) rfl rfl rfl ?_
    refine sR0 (opr_store (v := .agg _) (trn := (.agg _)) rfl rfl rfl rfl bi rfl rfl rfl rfl fr2 ty105 (fun _ _ h => h)) rfl rfl rfl ?_
    refine awp_region rfl ?_
    refine sP (opp_loadP rfl rfl rfl rfl bi rfl ty105) rfl rfl ?_
    refine sR (opr_callGF (i0 := 1) (j0 := 6) (rl := [(1, 6), (160, 2009)]) (A := [.top, .top, .top, .top, .top, .top, .top, .top, .top, .sl _ _ _ _]) (B := [.top, .top, .top, .top, .top, .top, .top, .top, .top, .osl 160 _ _ _ _]) (B' := [.top, .top, .top, .top, .top, .top, .top, .top, .top, .osl 2009 _ _ _ _]) (r1 := .tup []) (H1 := [(2009, some (.arr _ _ _))]) (n1 := [2009]) [true, true, true, true, true, true, true, true, true, false] rfl rfl ent122 (fun vs => cg122k b (long_9 hra.1) vs _) rfl rfl rfl rfl (by first | rfl | (simp only [oneB, rowA_one, rowV_one]; rfl)) (And.intro (And.intro rfl wka) (And.intro (And.intro rfl wka) True.intro)) (fun vs => (And.intro (And.intro rfl (Exists.intro _ (And.intro rfl wkc))) True.intro)) rfl rfl (fun _ => rfl) (by simp only [mixB, List.getD_cons_zero, List.getD_cons_succ, cond_true, cond_false]; exact rfl) rfl rfl) rfl rfl rfl ?_
    refine awp_region rfl ?_
    refine sP (opp_arith rfl rfl rfl (.inl ⟨rfl, w64 (by omega)⟩)) rfl rfl ?_
    refine sP (opp_mv (v := .int _ _) rfl rfl) rfl rfl ?_
    have hp0 : S.pages = [] := List.length_eq_zero_iff.1 (hk.g.1 rfl)
    refine Exists.intro ((i + 1, e3, e8, false, { S with pages := S.pages ++ [Sp.page b] })) (And.intro (And.intro (And.intro (by show i + 1 ≤ _; omega) (And.intro (hnx.trans (putR_9 ..)) (hk.addG _))) (by first | omega | (dsimp only; omega))) (by
     rcases e3 with _ | _ <;> rcases e8 with _ | _
     all_goals
      refine imp_over [(1009, 2009)] rfl rfl (by kernel_rfl) ?_ ?_
      ·iterate 8 refine And.intro wkv ?_
       exact True.intro
      ·refine And.intro (And.intro rfl (And.intro rfl (Exists.intro _ (And.intro rfl (by (simp only [staB, hp0]; exact WkC.refl _)))))) ?_
       repeat (refine And.intro (And.intro rfl (And.intro rfl (Exists.intro _ (And.intro rfl (by first | exact WkC.refl _ | (simp only [hp0]; exact WkC.refl _)))))) ?_)
       exact True.intro
     ))
   ·(try simp only [cmpI, errD_nil, qa, qb, qc, qd] at ht34)
    exfalso; omega
  ·skip
   refine awp_seq (awp_region rfl ?_)
   refine sP (opp_cmp rfl rfl rfl rfl) rfl rfl ?_
   refine awp_seq ?_
   refine awp_cond _ rfl (fun ht34 => ?_) (fun ht34 => ?_)
   ·(try simp only [cmpI, errD_nil, qa, qb, qc, qd] at ht34)
    refine awp_skip (awp_seq (awp_block (awp_seq (awp_region rfl ?_))))
    refine sP (opp_indexSl rfl rfl rfl el39 (by omega) (by omega)) rfl rfl ?_
    rw [hcell]
    refine sP (opp_loadF rfl rfl ty105) rfl rfl ?_
    refine sR (opr_alloc (n := 8) rfl z105) rfl rfl rfl ?_
    refine sR0 (opr_store (v := .agg _) (trn := (.agg _)) rfl rfl rfl rfl bi rfl rfl rfl rfl fr2 ty105 (fun _ _ h => h)) rfl rfl rfl ?_
    refine awp_region rfl ?_
    refine sP (opp_loadP rfl rfl rfl rfl bi rfl ty105) rfl rfl ?_
    refine sR (opr_callGF (i0 := 1) (j0 := 6) (rl := [(1, 6)]) (A := [.top, .top, .top, .top, .top, .top, .top, .top, .top, .top]) (B := [.top, .top, .top, .top, .top, .top, .top, .top, .top, .top]) (B' := [.top, .top, .top, .top, .top, .top, .top, .top, .top, .top]) (r1 := .tup []) (H1 := []) (n1 := []) [true, true, true, true, true, true, true, true, true, true] rfl rfl ent122 (fun vs => cg122l tag b hrb hx.1 hx.2.1 hx.2.2.1 hx.2.2.2.1 hx.2.2.2.2.1 hx.2.2.2.2.2.1 hx.2.2.2.2.2.2.1 hx.2.2.2.2.2.2.2 vs) rfl rfl rfl rfl (by first | rfl | (simp only [oneB, rowA_one, rowV_one]; rfl)) (And.intro (And.intro rfl wka) (And.intro (And.intro rfl wka) True.intro)) (fun vs => (And.intro (And.intro rfl (Exists.intro _ (And.intro rfl wkc))) True.intro)) rfl rfl (fun _ => rfl) (by simp only [mixB, List.getD_cons_zero, List.getD_cons_succ, cond_true, cond_false]; exact rfl) rfl rfl) rfl rfl rfl ?_
    refine awp_region rfl ?_
    refine sP (opp_arith rfl rfl rfl (.inl ⟨rfl, w64 (by omega)⟩)) rfl rfl ?_
    refine sP (opp_mv (v := .int _ _) rfl rfl) rfl rfl ?_
    refine Exists.intro ((i + 1, e3, e8, e9, S)) (And.intro (And.intro (And.intro (by show i + 1 ≤ _; omega) (And.intro (hnx.trans (putR_0 _ _ _ _ hx)) (hk.up rfl rfl rfl))) (by first | omega | (dsimp only; omega))) (by
     rcases e3 with _ | _ <;> rcases e8 with _ | _ <;> rcases e9 with _ | _
     all_goals
      refine imp_over [] rfl rfl (by kernel_rfl) ?_ ?_
      ·iterate 8 refine And.intro wkv ?_
       exact True.intro
      ·refine And.intro (And.intro rfl (And.intro rfl (Exists.intro _ (And.intro rfl (by first | exact WkC.refl _ | (simp only [staB, snoc_len]; exact WkC.refl _)))))) ?_
       repeat (refine And.intro (And.intro rfl (And.intro rfl (Exists.intro _ (And.intro rfl (by first | exact WkC.refl _ | (simp only [snoc_len]; exact WkC.refl _)))))) ?_)
       exact True.intro
     ))
   ·(try simp only [cmpI, errD_nil, qa, qb, qc, qd] at ht34)
    exfalso; omega
  ·skip
   refine awp_seq (awp_region rfl ?_)
   refine sP (opp_cmp rfl rfl rfl rfl) rfl rfl ?_
   refine awp_seq ?_
   refine awp_cond _ rfl (fun ht34 => ?_) (fun ht34 => ?_)
   ·(try simp only [cmpI, errD_nil, qa, qb, qc, qd] at ht34)
    exfalso; omega
   ·(try simp only [cmpI, errD_nil, qa, qb, qc, qd] at ht34)
    refine awp_exit (awp_seq ?_)
    rcases e3 with _ | _ <;> rcases e8 with _ | _ <;> rcases e9 with _ | _
    all_goals skip
    all_goals refine awp_region rfl ?_
    all_goals refine sP (opp_loadP rfl rfl rfl rfl bi rfl ty61) rfl rfl ?_
    all_goals refine sR0 (opr_store (v := .agg _) (trn := (.agg _)) rfl rfl rfl rfl bi rfl rfl rfl rfl fr2 ty61 (fun _ _ h => h)) rfl rfl rfl ?_
    all_goals refine sP (opp_as (v := .err _) rfl rfl) rfl rfl ?_
    all_goals refine awp_ret ?_
    all_goals repeat (first | refine athen_ret ?_ | refine ain_ret ?_)
    all_goals first
     | refine apost_ret (aend (l := [.agg _, .err _]) (.cell rfl rfl rfl (by exact True.intro) rfl ty61 (.tmp .nil)) (fun h => by cases h) (.cons (.noN rfl rfl) (.cons (.noN rfl rfl) .nil)) ⟨Wk.v ?_, rfl, rfl⟩)
     | refine apost_ret (aends (l := [.agg _, .err _]) (.cell rfl rfl rfl (by exact True.intro) rfl ty61 (.tmp .nil)) (fun h => by cases h) (.cons shut (fun h => by cases h) (.cons shut (fun h => by cases h) .nil)) rfl ⟨Wk.v ?_, rfl, rfl⟩)
    all_goals have hie : i = l.length := by omega
    all_goals rw [show Sp.fill l = (S, Sp.e0) from by unfold Sp.fill; rw [hwr, ← hS, hie, List.take_length]; rfl]
    all_goals exact .tup (.cons (.agg (.cons .refl (.cons .refl (.cons .refl (.cons (wkrow hk.p) (.cons .refl (.cons .refl (.cons .refl (.cons .refl (.cons (wkrow hk.q) (.cons (wkrow hk.g) .nil))))))))))) (.cons .refl .nil))
end
end Go.Proofs.YtpmgdmbcdohgcaaGreatDoor
/- The document's answers for layer 16: numbers in bytes, are bodies long enough, are flags flags (walks over this dump). -/
namespace Go.Proofs.YtpmgdmbcdohgcaaGreatDoor
attribute [local irreducible] Tryz.prog
open Go.Fy
set_option linter.unusedSimpArgs false
set_option linter.unusedVariables false
/-- Do messages end just at the end? -/
def Sp.msgs (b : List UInt8) : Nat → Nat → Bool
  | 0, a => decide (a = b.length)
  | n + 1, a => if b.length ≤ a then false else Sp.msgs b n (a + 1 + Sp.fld b a 1)
section
variable {ea : Nat → Addr} {cds : List Nat} {gl : Nat → Option AV}
theorem c47 : APure (V ea cds gl) 47 [] true (erAV Sp.e0) := by
 refine acalls_of_body (N := 2) Tryz.func47 rfl rfl (Nat.le_of_ble_eq_true rfl) fun C hV hN hM hO => ?_
 obtain ⟨_, _, w0, G0, σ0, _, own0⟩ := C; dsimp only at hV hN hM hO; subst hV; subst hN; subst hM
 refine awp_seq (awp_region rfl ?_)
 refine sR (opr_alloc (n := 0) rfl z28) rfl rfl rfl ?_
 refine awp_seq (awp_region rfl ?_)
 refine sP (opp_build rfl z28 bld28 rfl [.int _ _, .int _ _] rfl) rfl rfl ?_
 refine sR0 (opr_store (v := .agg _) (trn := (.agg _)) rfl rfl rfl rfl bi rfl rfl rfl rfl fr2 ty28 (fun _ _ h => h)) rfl rfl rfl ?_
 refine awp_ret ?_
 repeat (first | refine athen_ret ?_ | refine ain_ret ?_)
 refine apost_ret (aend1s (r0 := .agg _) (.cell rfl rfl rfl (by exact True.intro) rfl ty28 .nil) shut rfl ⟨Wk.v ?_, rfl, rfl⟩)
 exact .refl
theorem c45 (s : List UInt8) (nn : Bool) (k w : Nat) (hw : w ≤ 4) (hk : k + w ≤ s.length) (h0 : s.length ≤ 140737488355328) : APure (V ea cds gl) 45 [.sl 1 nn s.length (bAt s), .int .i64 (k : Int), .int .i64 (w : Int)] true (.int .i64 (Sp.fld s k w : Nat)) := by
 refine acalls_of_body (N := 25) Tryz.func45 rfl rfl (Nat.le_of_ble_eq_true rfl) fun C hV hN hM hO => ?_
 obtain ⟨_, _, w0, G0, σ0, _, own0⟩ := C; dsimp only at hV hN hM hO; subst hV; subst hN; subst hM
 refine awp_seq (awp_region rfl ?_)
 refine sP (opp_as (v := .int _ _) rfl rfl) rfl rfl ?_
 refine awp_seq (awp_region rfl ?_)
 refine sP (opp_as (v := .int _ _) rfl rfl) rfl rfl ?_
 refine awp_seq (awp_seq (awp_region rfl ?_))
 refine sP (opp_as (v := .int _ _) rfl rfl) rfl rfl ?_
 refine awp_block ?_
 refine awp_loopK (ι := Nat) (fun i => i ≤ w) (fun i => [(7, .int .i64 (Sp.fld s k i : Nat)), (8, .int .i64 (i : Int)), (9, .top), (10, .top), (11, .top), (12, .top), (13, .top), (14, .top), (15, .top), (16, .top), (17, .top), (18, .top), (19, .top), (20, .top), (21, .top), (22, .top), (23, .top)]) (fun i => []) [] (fun i => w - i) (0) (Nat.zero_le _) (by
  refine imp_over [] rfl rfl (by kernel_rfl) ?_ ?_
  ·iterate 17 refine And.intro wkv ?_
   exact True.intro
  ·exact True.intro
  ) ?_
 intro i hi1
 refine awp_seq (awp_seq (awp_region rfl ?_))
 refine sP (opp_mv (v := .int _ _) rfl rfl) rfl rfl ?_
 refine sP (opp_mv (v := .int _ _) rfl rfl) rfl rfl ?_
 refine sP (opp_cmp rfl rfl rfl rfl) rfl rfl ?_
 refine awp_cond _ rfl (fun ht11 => ?_) (fun ht11 => ?_)
 ·(try simp only [cmpI, errD_nil, qa, qb, qc, qd] at ht11)
  refine awp_skip (awp_seq (awp_block ?_))
  have hf := fld_lt s k i
  have h4 : 256 ^ i ≤ 256 ^ 3 := Nat.pow_le_pow_right (by decide) (by omega)
  have hs := fld_succ s k i (by omega)
  have hby := (s.getD (k + i) 0).toNat_lt
  have hby3 : (s.getD (Int.toNat ((k : Int) + (i : Int))) 0).toNat < 256 := UInt8.toNat_lt _
  refine awp_region rfl ?_
  refine sP (opp_mv (v := .int _ _) rfl rfl) rfl rfl ?_
  refine sP (opp_arith rfl rfl rfl (.inr <| .inr <| .inl ⟨rfl, w64 (by omega)⟩)) rfl rfl ?_
  refine sP (opp_mv (v := .sl _ _ _ _) rfl rfl) rfl rfl ?_
  refine sP (opp_mv (v := .int _ _) rfl rfl) rfl rfl ?_
  refine sP (opp_mv (v := .int _ _) rfl rfl) rfl rfl ?_
  refine sP (opp_arith rfl rfl rfl (.inl ⟨rfl, w64 (by omega)⟩)) rfl rfl ?_
  refine sP (opp_indexSl rfl rfl rfl el22 (by omega) (by omega)) rfl rfl ?_
  refine sP (opp_loadF rfl rfl ty5) rfl rfl ?_
  refine sP (opp_convInt rfl rfl un5s un3 (w64 (by omega))) rfl rfl ?_
  rw [show Int.toNat ((k : Int) + (i : Int)) = k + i by omega]
  refine sP (opp_arith rfl rfl rfl (.inl ⟨rfl, w64 (by omega)⟩)) rfl rfl ?_
  refine sP (opp_as (v := .int _ _) rfl rfl) rfl rfl ?_
  refine awp_region rfl ?_
  refine sP (opp_mv (v := .int _ _) rfl rfl) rfl rfl ?_
  refine sP (opp_arith rfl rfl rfl (.inl ⟨rfl, w64 (by omega)⟩)) rfl rfl ?_
  refine sP (opp_as (v := .int _ _) rfl rfl) rfl rfl ?_
  refine Exists.intro (i + 1) (And.intro (And.intro (by (show i + 1 ≤ w; omega)) (by first | omega | (dsimp only; omega))) (by
   refine imp_over [] rfl rfl (by kernel_rfl) ?_ ?_
   ·refine And.intro (by exact Or.inr (And.intro rfl (WkV.of (by show AV.int .i64 _ = AV.int .i64 _; rw [hs]; congr 1; omega)))) ?_
    iterate 16 refine And.intro wkv ?_
    exact True.intro
   ·exact True.intro
   ))
 ·(try simp only [cmpI, errD_nil, qa, qb, qc, qd] at ht11)
  refine awp_exit (awp_seq (awp_region rfl ?_))
  refine sP (opp_mv (v := .int _ _) rfl rfl) rfl rfl ?_
  refine sP (opp_as (v := .int _ _) rfl rfl) rfl rfl ?_
  refine awp_ret ?_
  repeat (first | refine athen_ret ?_ | refine ain_ret ?_)
  refine apost_ret (aend1s (r0 := .int _ _) (.tmp .nil) shut rfl ⟨Wk.v ?_, rfl, rfl⟩)
  have hie : i = w := by omega
  subst hie; exact .refl
end
end Go.Proofs.YtpmgdmbcdohgcaaGreatDoor
/- The document's answers for layer 16: a record put to a state (walks over this dump). -/
namespace Go.Proofs.YtpmgdmbcdohgcaaGreatDoor
attribute [local irreducible] Tryz.prog
open Go.Fy
set_option linter.unusedSimpArgs false
set_option linter.unusedVariables false
section
variable {ea : Nat → Addr} {cds : List Nat} {gl : Nat → Option AV}
end
end Go.Proofs.YtpmgdmbcdohgcaaGreatDoor
/- The document's answers for layer 16: ports and pages put to a state (walks over this dump). -/
namespace Go.Proofs.YtpmgdmbcdohgcaaGreatDoor
attribute [local irreducible] Tryz.prog
open Go.Fy
set_option linter.unusedSimpArgs false
set_option linter.unusedVariables false
section
variable {ea : Nat → Addr} {cds : List Nat} {gl : Nat → Option AV}
end
end Go.Proofs.YtpmgdmbcdohgcaaGreatDoor
/- The document's answers for layer 16: the state that records say (walks over this dump). -/
namespace Go.Proofs.YtpmgdmbcdohgcaaGreatDoor
attribute [local irreducible] Tryz.prog
open Go.Fy
set_option linter.unusedSimpArgs false
set_option linter.unusedVariables false
section
variable {ea : Nat → Addr} {cds : List Nat} {gl : Nat → Option AV}
end
end Go.Proofs.YtpmgdmbcdohgcaaGreatDoor
/- Plain Lean: states with any numbers in them (my own text; no program in sight). -/
set_option linter.unusedSimpArgs false
namespace Go.Fy
structure PrG where
  regs : Nat → Int
  pc : Int
  state : Int
  prio : Int
  wait : Int
  obj : Int
structure PtG where
  nn : Bool
  n : Nat
  msgs : Nat → List UInt8
  age : Int
structure PgG where
  rights : Int
  dirty : Bool
  data : Nat → Int
structure StG where
  id : Int
  fr : Int
  ep : Int
  pb : Bool
  pn : Nat
  procs : Nat → PrG
  rb : Bool
  rn : Nat
  ready : Nat → Int
  tb : Bool
  tn : Nat
  timers : Nat → Int × Int
  ub : Bool
  un : Nat
  up : Nat → Bool
  sb : Bool
  sn : Nat
  sems : Nat → Int
  qb : Bool
  qn : Nat
  ports : Nat → PtG
  gb : Bool
  gn : Nat
  pages : Nat → PgG
/-- No row longer than any that a machine holds. -/
structure StG.ok (x : StG) : Prop where
  p : x.pn ≤ 140737488355328
  r : x.rn ≤ 140737488355328
  t : x.tn ≤ 140737488355328
  u : x.un ≤ 140737488355328
  s : x.sn ≤ 140737488355328
  q : x.qn ≤ 140737488355328
  m : ∀ j, j < x.qn → (x.ports j).n ≤ 140737488355328
  g : x.gn ≤ 140737488355328
/-- The same, field by field. -/
structure SameG (a b : StG) : Prop where
  id : a.id = b.id
  fr : a.fr = b.fr
  ep : a.ep = b.ep
  pn : a.pn = b.pn
  procs : ∀ j, j < a.pn → a.procs j = b.procs j
  rn : a.rn = b.rn
  ready : ∀ j, j < a.rn → a.ready j = b.ready j
  tn : a.tn = b.tn
  timers : ∀ j, j < a.tn → a.timers j = b.timers j
  un : a.un = b.un
  up : ∀ j, j < a.un → a.up j = b.up j
  sn : a.sn = b.sn
  sems : ∀ j, j < a.sn → a.sems j = b.sems j
  qn : a.qn = b.qn
  ports : ∀ j, j < a.qn → (a.ports j).age = (b.ports j).age ∧ (a.ports j).n = (b.ports j).n ∧ ∀ i, i < (a.ports j).n → (a.ports j).msgs i = (b.ports j).msgs i
  gn : a.gn = b.gn
  pages : ∀ j, j < a.gn → a.pages j = b.pages j
theorem SameG.refl (a : StG) : SameG a a := ⟨rfl, rfl, rfl, rfl, fun _ _ => rfl, rfl, fun _ _ => rfl, rfl, fun _ _ => rfl, rfl, fun _ _ => rfl, rfl, fun _ _ => rfl, rfl, fun _ _ => ⟨rfl, rfl, fun _ _ => rfl⟩, rfl, fun _ _ => rfl⟩
end Go.Fy
/- The document's answers for layer 11: states compared (walks over this dump). -/
namespace Go.Proofs.YtpmgdmbcdohgcaaGreatDoor
attribute [local irreducible] Tryz.prog
open Go.Fy
set_option linter.unusedSimpArgs false
set_option linter.unusedVariables false
section
variable {ea : Nat → Addr} {cds : List Nat} {gl : Nat → Option AV}
end
end Go.Proofs.YtpmgdmbcdohgcaaGreatDoor
/- The engine, 31: bytes of a string that nobody writes (my own text; any program). -/
set_option linter.unusedSimpArgs false
namespace Go.Fy
open Go.RowKit
section
variable {C : Ctx} {o : Oper} {ρ : Operand → AV} {η : Nat → Option AV}
end
end Go.Fy
/- The laws of layer 16: what they begin with; records made (walks over this dump). -/
namespace Go.Proofs.YtpmgdmbcdohgcaaGreatDoor
attribute [local irreducible] Tryz.prog
open Go.Fy
set_option linter.unusedSimpArgs false
set_option linter.unusedVariables false
theorem bAt_rep8 (n j : Nat) : bAt (List.replicate n 0) j = .int .u8 0 := by
  simp only [bAt, List.getD_eq_getElem?_getD, List.getElem?_replicate]; split <;> rfl
def knownR : Rc := ⟨8, false, [5, 2, 1, 65, 0]⟩
theorem known_fill : (Sp.fill [knownR]).2.d = .nil ∧ (Sp.fill [knownR]).1.ports = [⟨[[65], []], 5⟩] := ⟨by decide +kernel, by kernel_rfl⟩
theorem kb_eq : (fun j : Nat => if j = 4 then AV.int .u8 0 else if j = 3 then AV.int .u8 65 else if j = 2 then AV.int .u8 1 else if j = 1 then AV.int .u8 2 else if j = 0 then AV.int .u8 5 else AV.int .u8 0) = bAt [5, 2, 1, 65, 0] := by
  funext j
  match j with
  | 0 => rfl
  | 1 => rfl
  | 2 => rfl
  | 3 => rfl
  | 4 => rfl
  | k + 5 => simp [bAt, List.getD_eq_getElem?_getD]
theorem er_zero {e : Er} (h : e.ok) (h0 : e.code = 0) : e = Sp.e0 := by
  obtain ⟨c, p⟩ := e
  have := h.2 h0
  dsimp only at h0 this
  subst h0; subst this; rfl
section
variable {ea : Nat → Addr} {cds : List Nat} {gl : Nat → Option AV}
theorem c16 (e : Er) (he : e.ok) (hS : Sents cds gl) : APure (V ea cds gl) 16 [.err e.d, erAV e] false (.bool true) := by
 unfold erAV
 refine acalls_of_body (N := 17) Tryz.func16 rfl rfl (Nat.le_of_ble_eq_true rfl) fun C hV hN hM hO => ?_
 obtain ⟨_, _, w0, G0, σ0, _, own0⟩ := C; dsimp only at hV hN hM hO; subst hV; subst hN; subst hM
 refine awp_seq (awp_region rfl ?_)
 refine sR (opr_box (y := .agg _) (n := 3) rfl rfl rfl) rfl rfl rfl ?_
 refine sP (opp_as (v := .bool _) rfl rfl) rfl rfl ?_
 refine awp_seq ?_
 refine awp_draw hmix rfl (by kernel_rfl) ?_
 refine dP (fun _ => false) (opp_mv (v := .err _) rfl rfl) rfl rfl ?_
 refine dR (fun n => !([] : List Nat).contains n) (opr_call rfl rfl ent32 rfl (ce32 e he hS) (AViews.refl _ rfl)) rfl rfl rfl ?_ -- d=6 t=3 a=5
 refine dP (fun _ => false) (opp_fieldP rfl rfl fld28_0 rfl) rfl rfl ?_
 refine dP (fun n => Nat.beq n 3) (opp_loadP rfl rfl rfl rfl bi rfl ty3) rfl rfl ?_
 refine dP (fun _ => false) (opp_cmp rfl rfl rfl rfl) rfl rfl ?_
 refine dP (fun _ => false) (opp_mv (v := .bool _) rfl rfl) rfl rfl ?_
 refine dG _ (fun _ => false) rfl rfl rfl rfl (fun hg => (And.intro gi (True.intro))) (fun hg => opp_mv (v := .err _) rfl rfl) ?_
 refine dGR _ (fun n => !([] : List Nat).contains n) rfl rfl rfl rfl (fun hg => (And.intro gi (And.intro gi (True.intro)))) (fun hg => (opr_call rfl rfl ent39 rfl (ce39 e he hS) (AViews.refl _ rfl))) ?_
 refine dG _ (fun _ => false) rfl rfl rfl rfl (fun hg => (And.intro gi (True.intro))) (fun hg => opp_fieldP rfl rfl fld28_1 rfl) ?_
 refine dG _ (fun n => Nat.beq n 3) rfl rfl rfl rfl (fun hg => (And.intro gi (True.intro))) (fun hg => opp_loadP rfl rfl rfl rfl bi rfl ty3) ?_
 refine dG _ (fun _ => false) rfl rfl rfl rfl (fun hg => (And.intro gi (And.intro gi (True.intro)))) (fun hg => opp_cmp rfl rfl rfl rfl) ?_
 refine dPick (fun _ => false) rfl rfl rfl rfl (by exact True.intro) rfl rfl (fun hg => gi) (fun hg => gi) ?_
 refine dP (fun _ => false) (opp_as (v := .bool _) rfl rfl) rfl rfl ?_
 refine And.intro (by kernel_rfl) ?_
 refine awp_ret ?_
 repeat (first | refine athen_ret ?_ | refine ain_ret ?_)
 refine apost_ret (aend1 (r0 := .bool _) (.tmp .nil) (.noN rfl rfl) ⟨Wk.v ?_, rfl, rfl⟩)
 exact .of (congrArg AV.bool (by simp [cmpI]))
theorem c41 : APure (V ea cds gl) 41 [] false (.sl 2 false Sp.least.length (rcAt Sp.least)) := by
 refine acalls_of_body (N := 8) Tryz.func41 rfl rfl (Nat.le_of_ble_eq_true rfl) fun C hV hN hM hO => ?_
 obtain ⟨_, _, w0, G0, σ0, _, own0⟩ := C; dsimp only at hV hN hM hO; subst hV; subst hN; subst hM
 refine awp_seq (awp_region rfl ?_)
 refine sP (opp_as (v := .sl _ _ _ _) rfl rfl) rfl rfl ?_
 refine awp_seq (awp_region rfl ?_)
 refine sR (opr_make (n := 1) rfl rfl rfl eb22 z5 (by omega) (by omega) (by omega) (by omega)) rfl rfl rfl ?_
 refine sP (opp_build rfl z105 bld105 rfl [.int _ _, .osl _ _ _ _ _] rfl) rfl rfl ?_
 refine sP (opp_build rfl z105 bld105 rfl [.int _ _, .sl 1 true 0 (fun _ => .top)] rfl) rfl rfl ?_
 refine sP (opp_build rfl z105 bld105 rfl [.int _ _, .sl 1 true 0 (fun _ => .top)] rfl) rfl rfl ?_
 refine sP (opp_build rfl z105 bld105 rfl [.int _ _, .sl 1 true 0 (fun _ => .top)] rfl) rfl rfl ?_
 refine sP (opp_build rfl z105 bld105 rfl [.int _ _, .sl 1 true 0 (fun _ => .top)] rfl) rfl rfl ?_
 refine al_sh [(1, .sl 1 false 8 (fun _ => .int .u8 0)), (2, .agg [.int .i64 1, .sl 1 false 8 (fun _ => .int .u8 0)])] [(1, none)] hO rfl (And.intro shut (And.intro shut True.intro)) True.intro ?_
 refine sR (opr_buildSlice (n := 7) (g := fun j => if j = 4 then .agg _ else if j = 3 then .agg _ else if j = 2 then .agg _ else if j = 1 then .agg _ else if j = 0 then .agg _ else .agg [.int .i64 0, .sl 1 true 0 (fun _ => .top)]) rfl eb39 z105 (by decide) rfl rfl) rfl rfl rfl ?_
 refine sP (opp_as (v := .osl _ _ _ _ _) rfl rfl) rfl rfl ?_
 refine awp_ret ?_
 repeat (first | refine athen_ret ?_ | refine ain_ret ?_)
 refine apost_ret (aend1s (r0 := .osl _ _ _ _ _) (.tmp .nil) shut rfl ⟨Wk.v ?_, rfl, rfl⟩)
 exact .slw (fun j hj => by have h5 : j = 0 ∨ j = 1 ∨ j = 2 ∨ j = 3 ∨ j = 4 := (by omega); (rcases h5 with rfl | rfl | rfl | rfl | rfl); exact .agg (.cons .refl (.cons (.sl (fun j hj => (bAt_rep8 8 j).symm)) .nil)); all_goals exact .agg (.cons .refl (.cons .sl0 .nil)))
set_option maxRecDepth 100000 in
theorem c11 (hS : Sents cds gl) : APure (V ea cds gl) 11 [] false (.bool true) := by
 have hS0 := hS
 obtain ⟨hG1, hG7, hG3, hG8, hG5, -⟩ := hS
 have hp := Sp.look_pack Sp.least_ok
 obtain ⟨T, hT⟩ : ∃ T, Sp.crcSeal (Sp.imgBytes 1 7 9 Sp.least) = T := ⟨_, rfl⟩
 rw [hT] at hp
 have hpk : Sp.pack 1 7 9 Sp.least = (T, Sp.e0) := Prod.ext hp.1 (er_zero (Sp.pack_ok _ _ _ _) Sp.least_ok)
 have hlen : T.length = 47 := hp.2.1.trans Sp.least_size
 refine acalls_of_body (N := 68) Tryz.func11 rfl rfl (Nat.le_of_ble_eq_true rfl) fun C hV hN hM hO => ?_
 obtain ⟨_, _, w0, G0, σ0, _, own0⟩ := C; dsimp only at hV hN hM hO; subst hV; subst hN; subst hM
 refine awp_seq (awp_region rfl ?_)
 refine sP (opp_as (v := .bool _) rfl rfl) rfl rfl ?_
 refine awp_seq (awp_region rfl ?_)
 refine sR (opr_call rfl rfl ent41 rfl (c41) (AViews.refl _ rfl)) rfl rfl rfl ?_ -- d=8 t=39 a=
 refine sR (opr_call rfl rfl ent40 rfl (c40 1 7 9 Sp.least false (by decide) hS0) (AViews.refl _ rfl)) rfl rfl rfl ?_ -- d=9 t=68 a=x,x,x,8
 refine sP (opp_mv (v := .tup _) rfl rfl) rfl rfl ?_
 refine sP (opp_extract rfl rfl rfl) rfl rfl ?_
 refine sP (opp_extract rfl rfl rfl) rfl rfl ?_
 refine sP (opp_as (v := .sl _ _ _ _) rfl rfl) rfl rfl ?_
 refine sP (opp_as (v := .err _) rfl rfl) rfl rfl ?_
 refine awp_seq ?_
 rw [hpk]
 refine awp_region rfl ?_
 refine sP (opp_mv (v := .sl _ _ _ _) rfl rfl) rfl rfl ?_
 refine sR (opr_call rfl rfl ent15 rfl (c15 T (by omega) hS0) (AViews.refl _ rfl)) rfl rfl rfl ?_ -- d=14 t=40 a=13
 refine sP (opp_mv (v := .tup _) rfl rfl) rfl rfl ?_
 refine sP (opp_extract rfl rfl rfl) rfl rfl ?_
 refine sP (opp_extract rfl rfl rfl) rfl rfl ?_
 refine sP (opp_as (v := .sl _ _ _ _) rfl rfl) rfl rfl ?_
 refine sP (opp_as (v := .err _) rfl rfl) rfl rfl ?_
 refine awp_seq ?_
 rw [hp.2.2.2.2.2]
 refine awp_regionW ?_
 refine alw_pair (g := fun j => if j = 4 then .int _ _ else if j = 3 then .int _ _ else if j = 2 then .int _ _ else if j = 1 then .int _ _ else if j = 0 then .int _ _ else .int .u8 0) 18 rfl rfl rfl rfl rfl rfl rfl eb22 z5 unu8 (by decide) (by decide) rfl rfl (Nat.le_of_ble_eq_true rfl) (Nat.le_of_ble_eq_true rfl) rfl ?_
 refine alw_rest rfl rfl ?_
 refine sP (opp_build rfl z105 bld105 rfl [.int _ _, .osl _ _ _ _ _] rfl) rfl rfl ?_
 rw [kb_eq]
 refine al_sh [(18, .sl 1 false 5 (bAt [5, 2, 1, 65, 0])), (19, .sl 1 false 5 (bAt [5, 2, 1, 65, 0])), (20, .agg [.int .i64 8, .sl 1 false 5 (bAt [5, 2, 1, 65, 0])])] [(18, none)] hO rfl (And.intro shut (And.intro shut (And.intro shut True.intro))) True.intro ?_
 refine sR (opr_buildSlice (n := 21) (g := fun j => if j = 0 then .agg _ else .agg [.int .i64 0, .sl 1 true 0 (fun _ => .top)]) rfl eb39 z105 (by decide) rfl rfl) rfl rfl rfl ?_
 refine al_sh [(21, .sl 2 false 1 (rcAt [knownR]))] [(21, none)] hO rfl (And.intro (Shut.row rfl rfl (by decide) (fun j hj => by rw [show j = 0 from (by omega)]; rfl) (fun h => by cases h)) True.intro) True.intro ?_
 refine sR (opr_call rfl rfl ent43 rfl (c43 [knownR] false (by decide) (by decide) (by decide) hG1 hG7 hG8 hG5) (AViews.refl _ rfl)) rfl rfl rfl ?_ -- d=22 t=63 a=21
 refine sP (opp_mv (v := .tup _) rfl rfl) rfl rfl ?_
 refine sP (opp_extract rfl rfl rfl) rfl rfl ?_
 refine sP (opp_extract rfl rfl rfl) rfl rfl ?_
 refine sR (opr_alloc (n := 5) rfl z61) rfl rfl rfl ?_
 refine sR0 (opr_store (v := .agg _) (trn := (.agg _)) rfl rfl rfl rfl bi rfl rfl rfl rfl fr2 ty61 (fun _ _ h => h)) rfl rfl rfl ?_
 refine sP (opp_as (v := .err _) rfl rfl) rfl rfl ?_
 refine awp_seq (awp_region rfl ?_)
 refine sP (opp_mv (v := .err _) rfl rfl) rfl rfl ?_
 refine sP (opp_errNil rfl rfl rfl un36 (.inl ⟨rfl, rfl⟩)) rfl rfl ?_
 refine sP (opp_mv (v := .bool _) rfl rfl) rfl rfl ?_
 refine sG _ rfl rfl rfl rfl (fun hg => (And.intro gi (True.intro))) (fun hg => opp_mv (v := .err _) rfl rfl) ?_
 refine sG _ rfl rfl rfl rfl (fun hg => (And.intro gi (And.intro gi (True.intro)))) (fun hg => opp_errNil rfl rfl rfl un36 (.inl ⟨rfl, rfl⟩)) ?_
 refine sPick rfl rfl rfl rfl (by exact True.intro) rfl rfl (fun hg => gi) (fun hg => gi) ?_
 refine sP (opp_mv (v := .bool _) rfl rfl) rfl rfl ?_
 refine sG _ rfl rfl rfl rfl (fun hg => (And.intro gi (True.intro))) (fun hg => opp_mv (v := .err _) rfl rfl) ?_
 refine sG _ rfl rfl rfl rfl (fun hg => (And.intro gi (And.intro gi (True.intro)))) (fun hg => opp_errNil rfl rfl rfl un36 (.inl ⟨rfl, rfl⟩)) ?_
 refine sPick rfl rfl rfl rfl (by exact True.intro) rfl rfl (fun hg => gi) (fun hg => gi) ?_
 refine sP (opp_mv (v := .bool _) rfl rfl) rfl rfl ?_
 refine sG _ rfl rfl rfl rfl (fun hg => (And.intro gi (True.intro))) (fun hg => opp_mv (v := .sl _ _ _ _) rfl rfl) ?_
 refine sG _ rfl rfl rfl rfl (fun hg => (And.intro gi (True.intro))) (fun hg => opp_lenSl rfl rfl un22) ?_
 refine sG _ rfl rfl rfl rfl (fun hg => (And.intro gi (And.intro gi (True.intro)))) (fun hg => opp_cmp rfl rfl rfl rfl) ?_
 refine sPick rfl rfl rfl rfl (by exact True.intro) rfl rfl (fun hg => gi) (fun hg => gi) ?_
 refine sP (opp_mv (v := .bool _) rfl rfl) rfl rfl ?_
 refine sG _ rfl rfl rfl rfl (fun hg => (And.intro gi (True.intro))) (fun hg => opp_mv (v := .sl _ _ _ _) rfl rfl) ?_
 refine sG _ rfl rfl rfl rfl (fun hg => (And.intro gi (True.intro))) (fun hg => opp_lenSl rfl rfl un39) ?_
 refine sG _ rfl rfl rfl rfl (fun hg => (And.intro gi (And.intro gi (True.intro)))) (fun hg => opp_cmp rfl rfl rfl rfl) ?_
 refine sPick rfl rfl rfl rfl (by exact True.intro) rfl rfl (fun hg => gi) (fun hg => gi) ?_
 refine sP (opp_mv (v := .bool _) rfl rfl) rfl rfl ?_
 refine sG _ rfl rfl rfl rfl (fun hg => (And.intro gi (True.intro))) (fun hg => opp_fieldP rfl rfl fld61_8 rfl) ?_
 refine sG _ rfl rfl rfl rfl (fun hg => (And.intro gi (True.intro))) (fun hg => opp_loadP rfl rfl rfl rfl bi rfl ty58) ?_
 refine sG _ rfl rfl rfl rfl (fun hg => (And.intro gi (True.intro))) (fun hg => opp_lenSl rfl rfl un58) ?_
 refine sG _ rfl rfl rfl rfl (fun hg => (And.intro gi (And.intro gi (True.intro)))) (fun hg => opp_cmp rfl rfl rfl rfl) ?_
 refine sPick rfl rfl rfl rfl (by exact True.intro) rfl rfl (fun hg => gi) (fun hg => gi) ?_
 refine sP (opp_mv (v := .bool _) rfl rfl) rfl rfl ?_
 refine sG _ rfl rfl rfl rfl (fun hg => (And.intro gi (True.intro))) (fun hg => opp_fieldP rfl rfl fld61_8 rfl) ?_
 refine sG _ rfl rfl rfl rfl (fun hg => (And.intro gi (True.intro))) (fun hg => opp_loadP rfl rfl rfl rfl bi rfl ty58) ?_
 refine sG _ rfl rfl rfl rfl (fun hg => (And.intro gi (And.intro gi (True.intro)))) (fun hg => opp_indexSl rfl rfl rfl el58 (by first | omega | (simp [cmpI] at hg; omega)) (by first | omega | (simp [cmpI] at hg; omega))) ?_
 refine sG _ rfl rfl rfl rfl (fun hg => (And.intro gi (True.intro))) (fun hg => opp_fieldF rfl rfl rfl fld107_1 rfl rfl) ?_
 refine sG _ rfl rfl rfl rfl (fun hg => (And.intro gi (True.intro))) (fun hg => opp_loadF rfl rfl ty3) ?_
 refine sG _ rfl rfl rfl rfl (fun hg => (And.intro gi (And.intro gi (True.intro)))) (fun hg => opp_cmp rfl rfl rfl rfl) ?_
 refine sPick rfl rfl rfl rfl (by exact True.intro) rfl rfl (fun hg => gi) (fun hg => gi) ?_
 refine sP (opp_mv (v := .bool _) rfl rfl) rfl rfl ?_
 refine sG _ rfl rfl rfl rfl (fun hg => (And.intro gi (True.intro))) (fun hg => opp_fieldP rfl rfl fld61_8 rfl) ?_
 refine sG _ rfl rfl rfl rfl (fun hg => (And.intro gi (True.intro))) (fun hg => opp_loadP rfl rfl rfl rfl bi rfl ty58) ?_
 refine sG _ rfl rfl rfl rfl (fun hg => (And.intro gi (And.intro gi (True.intro)))) (fun hg => opp_indexSl rfl rfl rfl el58 (by first | omega | (simp [cmpI] at hg; omega)) (by first | omega | (simp [cmpI] at hg; omega))) ?_
 refine sG _ rfl rfl rfl rfl (fun hg => (And.intro gi (True.intro))) (fun hg => opp_fieldF rfl rfl rfl fld107_0 rfl rfl) ?_
 refine sG _ rfl rfl rfl rfl (fun hg => (And.intro gi (True.intro))) (fun hg => opp_loadF rfl rfl ty91) ?_
 refine sG _ rfl rfl rfl rfl (fun hg => (And.intro gi (True.intro))) (fun hg => opp_lenSl rfl rfl un91) ?_
 refine sG _ rfl rfl rfl rfl (fun hg => (And.intro gi (And.intro gi (True.intro)))) (fun hg => opp_cmp rfl rfl rfl rfl) ?_
 refine sPick rfl rfl rfl rfl (by exact True.intro) rfl rfl (fun hg => gi) (fun hg => gi) ?_
 refine sP (opp_as (v := .bool _) rfl rfl) rfl rfl ?_
 refine awp_ret ?_
 repeat (first | refine athen_ret ?_ | refine ain_ret ?_)
 refine apost_ret (aend1 (r0 := .bool _) (.tmp .nil) (.noN rfl rfl) ⟨Wk.v ?_, rfl, rfl⟩)
 refine .of (congrArg AV.bool ?_)
 rw [known_fill.1, known_fill.2]
 simp [hlen, cmpI, Sp.least, Er.d, Sp.e0, ErrD.isNil]
end
end Go.Proofs.YtpmgdmbcdohgcaaGreatDoor
/- Layer 20: a note's bytes (walks over this dump). -/
namespace Go.Proofs.YtpmgdmbcdohgcaaGreatDoor
attribute [local irreducible] Tryz.prog
open Go.Fy
set_option linter.unusedSimpArgs false
set_option linter.unusedVariables false
section
variable {ea : Nat → Addr} {cds : List Nat} {gl : Nat → Option AV}
end
end Go.Proofs.YtpmgdmbcdohgcaaGreatDoor
/- Layer 20: the note of bytes (walks over this dump). -/
namespace Go.Proofs.YtpmgdmbcdohgcaaGreatDoor
attribute [local irreducible] Tryz.prog
open Go.Fy
set_option linter.unusedSimpArgs false
set_option linter.unusedVariables false
section
variable {ea : Nat → Addr} {cds : List Nat} {gl : Nat → Option AV}
end
end Go.Proofs.YtpmgdmbcdohgcaaGreatDoor
/- The document's answers: check sums, numbers in bytes (walks over this dump). -/
namespace Go.Proofs.YtpmgdmbcdohgcaaGreatDoor
attribute [local irreducible] Tryz.prog
open Go.Fy
set_option linter.unusedSimpArgs false
set_option linter.unusedVariables false
section
variable {ea : Nat → Addr} {cds : List Nat} {gl : Nat → Option AV}
theorem c181 (x : BitVec 32) (c : UInt8) : APure (V ea cds gl) 181 [u32V x, .int .u8 (c.toNat : Int)] false (u32V (Sp.refByte x c)) := by
 have hx0 : IntKind.u32.wrap ((BitVec.ofInt IntKind.u32.bits (x.toNat : Int) ^^^ BitVec.ofInt IntKind.u32.bits (c.toNat : Int)).toNat : Int) = ((x ^^^ BitVec.ofNat 32 c.toNat).toNat : Int) := byte_xor x c
 have hsh : ∀ z : BitVec 32, (z.toNat : Int).fdiv (2 ^ min (Int.toNat 1) IntKind.u32.bits) = ((z >>> 1).toNat : Int) := fun z => bv_shr z 1 (by decide)
 have han : ∀ z : BitVec 32, IntKind.u32.wrap ((BitVec.ofInt IntKind.u32.bits (z.toNat : Int) &&& BitVec.ofInt IntKind.u32.bits 1).toNat : Int) = ((z &&& 1#32).toNat : Int) := fun z => bv_and z 1#32
 have hxo : ∀ z : BitVec 32, IntKind.u32.wrap ((BitVec.ofInt IntKind.u32.bits ((z >>> 1).toNat : Int) ^^^ BitVec.ofInt IntKind.u32.bits 3988292384).toNat : Int) = (((z >>> 1) ^^^ 3988292384#32).toNat : Int) := fun z => bv_xor (z >>> 1) 3988292384#32
 have hon : ∀ z : BitVec 32, ((z &&& 1#32).toNat : Int) = 1 ↔ z &&& 1#32 = 1#32 := fun z => by
  rw [BitVec.toNat_eq]; simp only [BitVec.toNat_ofNat]; omega
 refine acalls_of_body (N := 24) Tryz.func181 rfl rfl (Nat.le_of_ble_eq_true rfl) fun C hV hN hM hO => ?_
 obtain ⟨_, _, w0, G0, σ0, _, own0⟩ := C; dsimp only at hV hN hM hO; subst hV; subst hN; subst hM
 refine awp_seq (awp_region rfl ?_)
 refine sP (opp_as (v := .int _ _) rfl rfl) rfl rfl ?_
 refine awp_seq (awp_region rfl ?_)
 refine sP (opp_mv (v := .int _ _) rfl rfl) rfl rfl ?_
 refine sP (opp_mv (v := .int _ _) rfl rfl) rfl rfl ?_
 refine sP (opp_convInt rfl rfl un5s un24 rfl) rfl rfl ?_
 rw [show IntKind.u32.wrap (c.toNat : Int) = (c.toNat : Int) from wu32 (by have := c.toNat_lt; omega)]
 refine sP (opp_arith rfl rfl rfl (.inr <| .inr <| .inr <| .inr <| .inr <| .inr <| .inr <| .inl ⟨rfl, rfl⟩)) rfl rfl ?_
 refine sP (opp_as (v := .int _ _) rfl rfl) rfl rfl ?_
 refine awp_seq (awp_seq ?_)
 rw [hx0]
 refine awp_region rfl ?_
 refine sP (opp_as (v := .int _ _) rfl rfl) rfl rfl ?_
 refine awp_block ?_
 refine awp_loopK (ι := Nat) (fun k => k ≤ 8) (fun k => [(0, u32V (Sp.crcIter k (x ^^^ BitVec.ofNat 32 c.toNat))), (5, .int .i64 (k : Int)), (6, .top), (11, .top), (12, .top), (13, .top), (14, .top), (15, .top), (16, .top), (17, .top), (18, .top), (19, .top), (20, .top), (21, .top), (22, .top)]) (fun k => []) [] (fun k => 8 - k) (0) (Nat.zero_le _) (by
  refine imp_over [] rfl rfl (by kernel_rfl) ?_ ?_
  ·iterate 15 refine And.intro wkv ?_
   exact True.intro
  ·exact True.intro
  ) ?_
 intro k hi1
 refine awp_seq (awp_seq (awp_region rfl ?_))
 refine sP (opp_mv (v := .int _ _) rfl rfl) rfl rfl ?_
 refine sP (opp_cmp rfl rfl rfl rfl) rfl rfl ?_
 refine awp_cond _ rfl (fun ht12 => ?_) (fun ht12 => ?_)
 ·(try simp only [cmpI, errD_nil, qa, qb, qc, qd] at ht12)
  refine awp_skip (awp_seq (awp_block (awp_seq (awp_region rfl ?_))))
  refine sP (opp_mv (v := .int _ _) rfl rfl) rfl rfl ?_
  refine sP (opp_arith rfl rfl rfl (.inr <| .inr <| .inr <| .inr <| .inr <| .inl ⟨rfl, rfl⟩)) rfl rfl ?_
  refine sP (opp_as (v := .int _ _) rfl rfl) rfl rfl ?_
  refine awp_seq (awp_region rfl ?_)
  refine sP (opp_mv (v := .int _ _) rfl rfl) rfl rfl ?_
  refine sP (opp_shift rfl rfl rfl (by omega) (.inr ⟨rfl, rfl⟩)) rfl rfl ?_
  refine sP (opp_as (v := .int _ _) rfl rfl) rfl rfl ?_
  refine awp_seq ?_
  rw [han, hsh]
  refine awp_region rfl ?_
  refine sP (opp_mv (v := .int _ _) rfl rfl) rfl rfl ?_
  refine sP (opp_cmp rfl rfl rfl rfl) rfl rfl ?_
  refine awp_cond _ rfl (fun ht20 => ?_) (fun ht20 => ?_)
  ·(try simp only [cmpI, errD_nil, qa, qb, qc, qd] at ht20)
   refine awp_region rfl ?_
   refine sP (opp_mv (v := .int _ _) rfl rfl) rfl rfl ?_
   refine sP (opp_arith rfl rfl rfl (.inr <| .inr <| .inr <| .inr <| .inr <| .inr <| .inr <| .inl ⟨rfl, rfl⟩)) rfl rfl ?_
   refine sP (opp_as (v := .int _ _) rfl rfl) rfl rfl ?_
   refine awp_region rfl ?_
   refine sP (opp_mv (v := .int _ _) rfl rfl) rfl rfl ?_
   refine sP (opp_arith rfl rfl rfl (.inl ⟨rfl, w64 (by omega)⟩)) rfl rfl ?_
   refine sP (opp_as (v := .int _ _) rfl rfl) rfl rfl ?_
   refine Exists.intro (k + 1) (And.intro (And.intro ((by show k + 1 ≤ 8; omega)) (by first | omega | (dsimp only; omega))) (by
    refine imp_over [] rfl rfl (by kernel_rfl) ?_ ?_
    ·refine And.intro (by rw [hon] at ht20; rw [hxo]; exact Or.inr (And.intro rfl (WkV.of (by show AV.int .u32 _ = u32V (Sp.crcStep (Sp.crcIter k _)); rw [Sp.crcStep, if_pos ht20]; rfl)))) ?_
     iterate 14 refine And.intro wkv ?_
     exact True.intro
    ·exact True.intro
    ))
  ·(try simp only [cmpI, errD_nil, qa, qb, qc, qd] at ht20)
   refine awp_skip (awp_region rfl ?_)
   refine sP (opp_mv (v := .int _ _) rfl rfl) rfl rfl ?_
   refine sP (opp_arith rfl rfl rfl (.inl ⟨rfl, w64 (by omega)⟩)) rfl rfl ?_
   refine sP (opp_as (v := .int _ _) rfl rfl) rfl rfl ?_
   refine Exists.intro (k + 1) (And.intro (And.intro ((by show k + 1 ≤ 8; omega)) (by first | omega | (dsimp only; omega))) (by
    refine imp_over [] rfl rfl (by kernel_rfl) ?_ ?_
    ·refine And.intro (by rw [hon] at ht20; exact Or.inr (And.intro rfl (WkV.of (by show AV.int .u32 _ = u32V (Sp.crcStep (Sp.crcIter k _)); rw [Sp.crcStep, if_neg ht20]; rfl)))) ?_
     iterate 14 refine And.intro wkv ?_
     exact True.intro
    ·exact True.intro
    ))
 ·(try simp only [cmpI, errD_nil, qa, qb, qc, qd] at ht12)
  refine awp_exit (awp_seq (awp_region rfl ?_))
  refine sP (opp_mv (v := .int _ _) rfl rfl) rfl rfl ?_
  refine sP (opp_as (v := .int _ _) rfl rfl) rfl rfl ?_
  refine awp_ret ?_
  repeat (first | refine athen_ret ?_ | refine ain_ret ?_)
  refine apost_ret (aend1 (r0 := .int _ _) (.tmp .nil) (.noN rfl rfl) ⟨Wk.v ?_, rfl, rfl⟩)
  have hk8 : k = 8 := by omega
  subst hk8; exact .refl
theorem c123 (b : Bool) (im : List UInt8) (h0 : im.length ≤ 281474976710656) : APure (V ea cds gl) 123 [.sl 1 b im.length (bAt im)] false (u32V (Sp.crcSum im)) := by
 have hnot : ∀ z : BitVec 32, IntKind.u32.wrap ((BitVec.ofInt IntKind.u32.bits (z.toNat : Int) ^^^ BitVec.ofInt IntKind.u32.bits 4294967295).toNat : Int) = ((~~~ z).toNat : Int) := fun z => by
  rw [show (4294967295 : Int) = ((BitVec.allOnes 32).toNat : Int) by decide, bv_xor, BitVec.xor_allOnes]
 refine acalls_of_body (N := 19) Tryz.func123 rfl rfl (Nat.le_of_ble_eq_true rfl) fun C hV hN hM hO => ?_
 obtain ⟨_, _, w0, G0, σ0, _, own0⟩ := C; dsimp only at hV hN hM hO; subst hV; subst hN; subst hM
 refine awp_seq (awp_region rfl ?_)
 refine sP (opp_as (v := .int _ _) rfl rfl) rfl rfl ?_
 refine awp_seq (awp_region rfl ?_)
 refine sP (opp_as (v := .int _ _) rfl rfl) rfl rfl ?_
 refine awp_seq (awp_seq (awp_region rfl ?_))
 refine sP (opp_as (v := .int _ _) rfl rfl) rfl rfl ?_
 refine awp_block ?_
 refine awp_loopK (ι := Nat) (fun i => i ≤ im.length) (fun i => [(3, u32V (Sp.crcMove (~~~ 0#32) (im.take i))), (4, .int .i64 (i : Int)), (5, .top), (6, .top), (7, .top), (8, .top), (9, .top), (10, .top), (11, .top), (12, .top), (13, .top), (14, .top), (15, .top), (16, .top)]) (fun i => []) [] (fun i => im.length - i) (0) (Nat.zero_le _) (by
  refine imp_over [] rfl rfl (by kernel_rfl) ?_ ?_
  ·refine And.intro (by exact Or.inr (And.intro rfl (WkV.of (by show AV.int .u32 _ = AV.int .u32 _; simp [Sp.crcMove])))) ?_
   iterate 13 refine And.intro wkv ?_
   exact True.intro
  ·exact True.intro
  ) ?_
 intro i hi1
 refine awp_seq (awp_seq (awp_region rfl ?_))
 refine sP (opp_mv (v := .int _ _) rfl rfl) rfl rfl ?_
 refine sP (opp_mv (v := .sl _ _ _ _) rfl rfl) rfl rfl ?_
 refine sP (opp_lenSl rfl rfl un22) rfl rfl ?_
 refine sP (opp_cmp rfl rfl rfl rfl) rfl rfl ?_
 refine awp_cond _ rfl (fun ht8 => ?_) (fun ht8 => ?_)
 ·(try simp only [cmpI, errD_nil, qa, qb, qc, qd] at ht8)
  refine awp_skip (awp_seq (awp_block (awp_region rfl ?_)))
  refine sP (opp_mv (v := .int _ _) rfl rfl) rfl rfl ?_
  refine sP (opp_mv (v := .sl _ _ _ _) rfl rfl) rfl rfl ?_
  refine sP (opp_mv (v := .int _ _) rfl rfl) rfl rfl ?_
  refine sP (opp_indexSl rfl rfl rfl el22 (by omega) (by omega)) rfl rfl ?_
  refine sP (opp_loadF rfl rfl ty5) rfl rfl ?_
  refine sR (opr_call rfl rfl ent181 rfl (c181 (Sp.crcMove (~~~ 0#32) (im.take i)) (im.getD (Int.toNat (i : Int)) 0)) (AViews.refl _ rfl)) rfl rfl rfl ?_ -- d=16 t=24 a=11,15
  refine sP (opp_as (v := .int _ _) rfl rfl) rfl rfl ?_
  refine awp_region rfl ?_
  refine sP (opp_mv (v := .int _ _) rfl rfl) rfl rfl ?_
  refine sP (opp_arith rfl rfl rfl (.inl ⟨rfl, w64 (by omega)⟩)) rfl rfl ?_
  refine sP (opp_as (v := .int _ _) rfl rfl) rfl rfl ?_
  refine Exists.intro (i + 1) (And.intro (And.intro ((by show i + 1 ≤ im.length; omega)) (by first | omega | (dsimp only; omega))) (by
   refine imp_over [] rfl rfl (by kernel_rfl) ?_ ?_
   ·refine And.intro (by exact Or.inr (And.intro rfl (WkV.of (by show u32V _ = u32V (Sp.crcMove (~~~ 0#32) (im.take (i + 1))); rw [Int.toNat_natCast, Sp.refByte_eq, Sp.crcMove_take _ _ _ (by omega)])))) ?_
    iterate 13 refine And.intro wkv ?_
    exact True.intro
   ·exact True.intro
   ))
 ·(try simp only [cmpI, errD_nil, qa, qb, qc, qd] at ht8)
  refine awp_exit (awp_seq (awp_region rfl ?_))
  refine sP (opp_mv (v := .int _ _) rfl rfl) rfl rfl ?_
  refine sP (opp_arith rfl rfl rfl (.inr <| .inr <| .inr <| .inr <| .inr <| .inr <| .inr <| .inl ⟨rfl, rfl⟩)) rfl rfl ?_
  refine sP (opp_as (v := .int _ _) rfl rfl) rfl rfl ?_
  refine awp_ret ?_
  repeat (first | refine athen_ret ?_ | refine ain_ret ?_)
  refine apost_ret (aend1 (r0 := .int _ _) (.tmp .nil) (.noN rfl rfl) ⟨Wk.v ?_, rfl, rfl⟩)
  have hi2 : i = im.length := by omega
  subst hi2; rw [List.take_length, hnot]; exact .refl
theorem laid_byte (S : BitVec 32) (k : Nat) (hk : k ≤ 3) : IntKind.u8.wrap ((S.toNat : Int).fdiv (2 ^ min (Int.toNat (8 * (k : Int))) IntKind.u32.bits)) = (((Sp.crcLaid S).getD k 0).toNat : Int) := by
  have e : min (Int.toNat (8 * (k : Int))) IntKind.u32.bits = min (Int.toNat ((8 * k : Nat) : Int)) IntKind.u32.bits := by rw [show ((8 * k : Nat) : Int) = 8 * (k : Int) by omega]
  rw [e, bv_shr S (8 * k) (by omega), bv_byte]
  have hk : k = 0 ∨ k = 1 ∨ k = 2 ∨ k = 3 := by omega
  rcases hk with rfl | rfl | rfl | rfl <;> simp [Sp.crcLaid]
theorem c44 (s : List UInt8) (h0 : s.length ≤ 140737488355328) : APure (V ea cds gl) 44 [.sl 1 false s.length (bAt s)] false (.tup [.sl 1 (decide ((Sp.opened s).2 ≠ 0)) (Sp.opened s).1.length (bAt (Sp.opened s).1), .int .i64 ((Sp.opened s).2 : Nat)]) := by
 refine acalls_of_body (N := 38) Tryz.func44 rfl rfl (Nat.le_of_ble_eq_true rfl) fun C hV hN hM hO => ?_
 obtain ⟨_, _, w0, G0, σ0, _, own0⟩ := C; dsimp only at hV hN hM hO; subst hV; subst hN; subst hM
 refine awp_seq (awp_region rfl ?_)
 refine sP (opp_as (v := .sl _ _ _ _) rfl rfl) rfl rfl ?_
 refine sP (opp_as (v := .int _ _) rfl rfl) rfl rfl ?_
 refine awp_seq (awp_seq (awp_region rfl ?_))
 refine sP (opp_mv (v := .sl _ _ _ _) rfl rfl) rfl rfl ?_
 refine sP (opp_lenSl rfl rfl un22) rfl rfl ?_
 refine sP (opp_cmp rfl rfl rfl rfl) rfl rfl ?_
 refine awp_cond _ rfl (fun ht9 => ?_) (fun ht9 => ?_)
 ·(try simp only [cmpI, errD_nil, qa, qb, qc, qd] at ht9)
  refine awp_seq (awp_region rfl ?_)
  refine sP (opp_as (v := .sl _ _ _ _) rfl rfl) rfl rfl ?_
  refine sP (opp_as (v := .int _ _) rfl rfl) rfl rfl ?_
  refine awp_ret ?_
  repeat (first | refine athen_ret ?_ | refine ain_ret ?_)
  refine apost_ret (aend (l := [.sl _ _ _ _, .int _ _]) (.tmp (.tmp .nil)) (fun h => by cases h) (.cons (.noN rfl rfl) (.cons (.noN rfl rfl) .nil)) ⟨Wk.v ?_, rfl, rfl⟩)
  have h4 : s.length < 4 := by omega
  rw [show Sp.opened s = ([], 1) from if_pos h4]; show Wk _ (.tup [.sl 1 true 0 _, .int .i64 1]); (repeat' (first | exact Wk.refl | exact Wk.sl0 | apply Wk.tup | apply Wk.agg | apply WkL.cons | exact WkL.nil | refine Wk.sl (fun _ _ => ?_)))
 ·(try simp only [cmpI, errD_nil, qa, qb, qc, qd] at ht9)
  refine awp_skip (awp_seq ?_)
  have h4 : ¬ s.length < 4 := by omega
  have hlc : (Sp.crcLaid (Sp.crcSum (s.take (s.length - 4)))).length = 4 := by simp [Sp.crcLaid]
  refine awp_region rfl ?_
  refine sP (opp_mv (v := .sl _ _ _ _) rfl rfl) rfl rfl ?_
  refine sP (opp_lenSl rfl rfl un22) rfl rfl ?_
  refine sP (opp_arith rfl rfl rfl (.inr <| .inl ⟨rfl, w64 (by omega)⟩)) rfl rfl ?_
  refine sP (opp_as (v := .int _ _) rfl rfl) rfl rfl ?_
  refine awp_seq (awp_region rfl ?_)
  refine sP (opp_mv (v := .sl _ _ _ _) rfl rfl) rfl rfl ?_
  refine sP (opp_mv (v := .int _ _) rfl rfl) rfl rfl ?_
  refine sP (opp_sliceSl rfl rfl rfl rfl el22 (by omega) (by omega) (by omega)) rfl rfl ?_
  refine sR (opr_call rfl rfl ent123 rfl (c123 false (s.take (s.length - 4)) (by rw [List.length_take]; omega)) (.cons (aview_wk rfl (wk_slx (by rw [List.length_take]; omega) (fun j hj => by rw [bAt_take _ _ _ (by omega), show Int.toNat 0 + j = j by simp]))) .nil)) rfl rfl rfl ?_ -- d=16 t=24 a=15
  refine sP (opp_as (v := .int _ _) rfl rfl) rfl rfl ?_
  refine awp_seq (awp_seq (awp_region rfl ?_))
  refine sP (opp_as (v := .int _ _) rfl rfl) rfl rfl ?_
  refine awp_block ?_
  refine awp_loopK (ι := Nat) (fun k => k ≤ 4 ∧ ∀ j, j < k → s.getD (s.length - 4 + j) 0 = (Sp.crcLaid (Sp.crcSum (s.take (s.length - 4)))).getD j 0) (fun k => [(2, .top), (3, .top), (6, .int .i64 (k : Int)), (17, .top), (18, .top), (19, .top), (20, .top), (21, .top), (22, .top), (23, .top), (24, .top), (25, .top), (26, .top), (27, .top), (28, .top), (29, .top), (30, .top), (31, .top), (32, .top)]) (fun k => []) [] (fun k => 4 - k) (0) (⟨Nat.zero_le _, fun j hj => absurd hj (Nat.not_lt_zero j)⟩) (by
   refine imp_over [] rfl rfl (by kernel_rfl) ?_ ?_
   ·iterate 19 refine And.intro wkv ?_
    exact True.intro
   ·exact True.intro
   ) ?_
  intro k hi1
  refine awp_seq (awp_seq (awp_region rfl ?_))
  refine sP (opp_mv (v := .int _ _) rfl rfl) rfl rfl ?_
  refine sP (opp_cmp rfl rfl rfl rfl) rfl rfl ?_
  refine awp_cond _ rfl (fun ht18 => ?_) (fun ht18 => ?_)
  ·(try simp only [cmpI, errD_nil, qa, qb, qc, qd] at ht18)
   refine awp_skip (awp_seq (awp_block (awp_seq ?_)))
   have hlb := laid_byte (Sp.crcSum (s.take (s.length - 4))) k (by omega)
   refine awp_draw hmix rfl (by kernel_rfl) ?_
   refine dP (fun _ => false) (opp_mv (v := .sl _ _ _ _) rfl rfl) rfl rfl ?_
   refine dP (fun _ => false) (opp_mv (v := .int _ _) rfl rfl) rfl rfl ?_
   refine dP (fun _ => false) (opp_mv (v := .int _ _) rfl rfl) rfl rfl ?_
   refine dP (fun _ => false) (opp_arith rfl rfl rfl (.inl ⟨rfl, w64 (by omega)⟩)) rfl rfl ?_
   refine dP (fun _ => false) (opp_indexSl rfl rfl rfl el22 (by omega) (by omega)) rfl rfl ?_
   refine dP (fun _ => false) (opp_loadF rfl rfl ty5) rfl rfl ?_
   refine dP (fun _ => false) (opp_mv (v := .int _ _) rfl rfl) rfl rfl ?_
   refine dP (fun _ => false) (opp_mv (v := .int _ _) rfl rfl) rfl rfl ?_
   refine dP (fun _ => false) (opp_arith rfl rfl rfl (.inr <| .inr <| .inl ⟨rfl, w64 (by omega)⟩)) rfl rfl ?_
   refine dP (fun _ => false) (opp_shift rfl rfl rfl (by omega) (.inr ⟨rfl, rfl⟩)) rfl rfl ?_
   refine dP (fun _ => false) (opp_convInt rfl rfl un24s un5 rfl) rfl rfl ?_
   rw [show ((s.length : Int) - 4 + (k : Int)).toNat = s.length - 4 + k by omega]
   refine dP (fun _ => false) (opp_cmp rfl rfl rfl rfl) rfl rfl ?_
   refine And.intro (by kernel_rfl) ?_
   refine awp_cond _ rfl (fun ht32 => ?_) (fun ht32 => ?_)
   ·(try simp only [cmpI, errD_nil, qa, qb, qc, qd] at ht32)
    refine awp_seq (awp_region rfl ?_)
    refine sP (opp_as (v := .sl _ _ _ _) rfl rfl) rfl rfl ?_
    refine sP (opp_as (v := .int _ _) rfl rfl) rfl rfl ?_
    refine awp_ret ?_
    repeat (first | refine athen_ret ?_ | refine ain_ret ?_)
    refine apost_ret (aend (l := [.sl _ _ _ _, .int _ _]) (.tmp (.tmp .nil)) (fun h => by cases h) (.cons (.noN rfl rfl) (.cons (.noN rfl rfl) .nil)) ⟨Wk.v ?_, rfl, rfl⟩)
    have hq : Sp.crcLaid (Sp.crcSum (s.take (s.length - 4))) ≠ s.drop (s.length - 4) := fun e => by
     refine ht32 ?_
     rw [hlb, e, List.getD_eq_getElem?_getD, List.getD_eq_getElem?_getD, List.getElem?_drop]
    rw [show Sp.opened s = ([], 6) by rw [Sp.opened, if_neg h4, if_pos hq]]; show Wk _ (.tup [.sl 1 true 0 _, .int .i64 6]); (repeat' (first | exact Wk.refl | exact Wk.sl0 | apply Wk.tup | apply Wk.agg | apply WkL.cons | exact WkL.nil | refine Wk.sl (fun _ _ => ?_)))
   ·(try simp only [cmpI, errD_nil, qa, qb, qc, qd] at ht32)
    refine awp_skip (awp_region rfl ?_)
    refine sP (opp_mv (v := .int _ _) rfl rfl) rfl rfl ?_
    refine sP (opp_arith rfl rfl rfl (.inl ⟨rfl, w64 (by omega)⟩)) rfl rfl ?_
    refine sP (opp_as (v := .int _ _) rfl rfl) rfl rfl ?_
    have he : s.getD (s.length - 4 + k) 0 = (Sp.crcLaid (Sp.crcSum (s.take (s.length - 4)))).getD k 0 := by
     have := ht32
     rw [hlb] at this
     apply UInt8.toNat_inj.1
     omega
    refine Exists.intro (k + 1) (And.intro (And.intro (⟨by omega, fun j hj => by by_cases e : j = k; (subst e; exact he); exact hi1.2 j (by omega)⟩) (by first | omega | (dsimp only; omega))) (by
     refine imp_over [] rfl rfl (by kernel_rfl) ?_ ?_
     ·iterate 19 refine And.intro wkv ?_
      exact True.intro
     ·exact True.intro
     ))
  ·(try simp only [cmpI, errD_nil, qa, qb, qc, qd] at ht18)
   refine awp_exit (awp_seq (awp_region rfl ?_))
   refine sR (opr_buildSlice (n := 33) (g := fun _ => .int .u8 0) rfl eb22 z5 (by decide) rfl rfl) rfl rfl rfl ?_
   refine sP (opp_mv (v := .sl _ _ _ _) rfl rfl) rfl rfl ?_
   refine sP (opp_mv (v := .int _ _) rfl rfl) rfl rfl ?_
   refine sP (opp_sliceSl rfl rfl rfl rfl el22 (by omega) (by omega) (by omega)) rfl rfl ?_
   refine sR (opr_append (d := 37) rfl rfl rfl (by omega) .sl eb22 z5 (by omega) (by omega)) rfl rfl rfl ?_
   refine sP (opp_as (v := .osl _ _ _ _ _) rfl rfl) rfl rfl ?_
   refine sP (opp_as (v := .int _ _) rfl rfl) rfl rfl ?_
   refine awp_ret ?_
   repeat (first | refine athen_ret ?_ | refine ain_ret ?_)
   refine apost_ret (aends (l := [.osl _ _ _ _ _, .int _ _]) (.tmp (.tmp .nil)) (fun h => by cases h) (.cons shut (fun h => by cases h) (.cons shut (fun h => by cases h) .nil)) rfl ⟨Wk.v ?_, rfl, rfl⟩)
   have hq : ¬ Sp.crcLaid (Sp.crcSum (s.take (s.length - 4))) ≠ s.drop (s.length - 4) := not_not_intro (by
    apply List.ext_getElem?
    intro j
    by_cases hj : j < 4
    ·have := hi1.2 j (by omega)
     rw [List.getElem?_drop, List.getElem?_eq_getElem (by omega), List.getElem?_eq_getElem (by omega)]
     simp only [List.getD_eq_getElem?_getD, List.getElem?_eq_getElem (show j < (Sp.crcLaid (Sp.crcSum (s.take (s.length - 4)))).length by omega), List.getElem?_eq_getElem (show s.length - 4 + j < s.length by omega), Option.getD_some] at this
     rw [this]
    ·rw [List.getElem?_eq_none (by omega), List.getElem?_eq_none (by rw [List.length_drop]; omega)])
   rw [show Sp.opened s = (s.take (s.length - 4), 0) by rw [Sp.opened, if_neg h4, if_neg hq]]
   exact .tup (.cons (wk_slx (by rw [List.length_take]; omega) (fun j hj => by rw [if_neg (by omega), bAt_take _ _ _ (by omega)]; simp)) (.cons .refl .nil))
end
end Go.Proofs.YtpmgdmbcdohgcaaGreatDoor
/- The document's answers for layer 16: the table's rows, the grammar (walks over this dump). -/
namespace Go.Proofs.YtpmgdmbcdohgcaaGreatDoor
attribute [local irreducible] Tryz.prog
open Go.Fy
set_option linter.unusedSimpArgs false
set_option linter.unusedVariables false
def rowAt (l : List (Int × Bool)) (j : Nat) : AV := .agg [.int .i64 (l.getD j (0, true)).1, .bool (l.getD j (0, true)).2]
theorem both_true {p : Prop} [Decidable p] {b : Bool} (h : (bif decide p then b else false) = true) : p ∧ b = true := by
  by_cases hp : p
  · rw [decide_eq_true hp] at h; exact ⟨hp, h⟩
  · rw [decide_eq_false hp] at h; cases h
theorem both_false {p : Prop} [Decidable p] {b : Bool} (h : (bif decide p then b else false) = false) : p → b = false := fun hp => by
  rw [decide_eq_true hp] at h; exact h
section
variable {ea : Nat → Addr} {cds : List Nat} {gl : Nat → Option AV}
theorem c1128 : APure (V ea cds gl) 128 [.int .i64 1] false (.sl 2 false 8 (rowAt (Sp.rows 1))) := by
 refine acalls_of_body (N := 31) Tryz.func128 rfl rfl (Nat.le_of_ble_eq_true rfl) fun C hV hN hM hO => ?_
 obtain ⟨_, _, w0, G0, σ0, _, own0⟩ := C; dsimp only at hV hN hM hO; subst hV; subst hN; subst hM
 refine awp_seq (awp_region rfl ?_)
 refine sP (opp_as (v := .sl _ _ _ _) rfl rfl) rfl rfl ?_
 refine awp_seq (awp_region rfl ?_)
 refine sP (opp_build rfl z220 bld220 rfl [.int _ _, .bool _] rfl) rfl rfl ?_
 refine sR (opr_buildSlice (n := 5) (g := fun j => if j = 0 then .agg _ else .agg [.int .i64 0, .bool false]) rfl eb217 z220 (by decide) rfl rfl) rfl rfl rfl ?_
 refine sP (opp_as (v := .osl _ _ _ _ _) rfl rfl) rfl rfl ?_
 refine awp_seq (awp_seq (awp_region rfl ?_))
 refine sP (opp_mv (v := .int _ _) rfl rfl) rfl rfl ?_
 refine sP (opp_cmp rfl rfl rfl rfl) rfl rfl ?_
 refine awp_cond _ rfl (fun ht7 => ?_) (fun ht7 => ?_)
 ·(try simp only [cmpI, errD_nil, qa, qb, qc, qd] at ht7)
  exfalso; simp [cmpI] at ht7
 ·(try simp only [cmpI, errD_nil, qa, qb, qc, qd] at ht7)
  refine awp_skip (awp_seq (awp_region rfl ?_))
  refine sP (opp_mv (v := .osl _ _ _ _ _) rfl rfl) rfl rfl ?_
  refine sP (opp_build rfl z220 bld220 rfl [.int _ _, .bool false] rfl) rfl rfl ?_
  refine sP (opp_build rfl z220 bld220 rfl [.int _ _, .bool _] rfl) rfl rfl ?_
  refine sP (opp_build rfl z220 bld220 rfl [.int _ _, .bool _] rfl) rfl rfl ?_
  refine sP (opp_build rfl z220 bld220 rfl [.int _ _, .bool _] rfl) rfl rfl ?_
  refine sP (opp_build rfl z220 bld220 rfl [.int _ _, .bool _] rfl) rfl rfl ?_
  refine sP (opp_build rfl z220 bld220 rfl [.int _ _, .bool false] rfl) rfl rfl ?_
  refine sR (opr_buildSlice (n := 19) (g := fun j => if j = 5 then .agg _ else if j = 4 then .agg _ else if j = 3 then .agg _ else if j = 2 then .agg _ else if j = 1 then .agg _ else if j = 0 then .agg _ else .agg [.int .i64 0, .bool false]) rfl eb217 z220 (by decide) rfl rfl) rfl rfl rfl ?_
  refine sR (opr_append (d := 20) rfl rfl rfl (by omega) (.osl0 rfl (by omega)) eb217 z220 (by omega) (by omega)) rfl rfl rfl ?_
  refine sP (opp_as (v := .osl _ _ _ _ _) rfl rfl) rfl rfl ?_
  refine awp_seq (awp_seq (awp_region rfl ?_))
  refine sP (opp_mv (v := .int _ _) rfl rfl) rfl rfl ?_
  refine sP (opp_cmp rfl rfl rfl rfl) rfl rfl ?_
  refine awp_cond _ rfl (fun ht22 => ?_) (fun ht22 => ?_)
  ·(try simp only [cmpI, errD_nil, qa, qb, qc, qd] at ht22)
   exfalso; simp [cmpI] at ht22
  ·(try simp only [cmpI, errD_nil, qa, qb, qc, qd] at ht22)
   refine awp_skip (awp_seq (awp_region rfl ?_))
   refine sP (opp_mv (v := .osl _ _ _ _ _) rfl rfl) rfl rfl ?_
   refine sP (opp_build rfl z220 bld220 rfl [.int _ _, .bool false] rfl) rfl rfl ?_
   refine sR (opr_buildSlice (n := 29) (g := fun j => if j = 0 then .agg _ else .agg [.int .i64 0, .bool false]) rfl eb217 z220 (by decide) rfl rfl) rfl rfl rfl ?_
   refine sR (opr_append (d := 30) rfl rfl rfl (by omega) (.osl0 rfl (by omega)) eb217 z220 (by omega) (by omega)) rfl rfl rfl ?_
   refine sP (opp_as (v := .osl _ _ _ _ _) rfl rfl) rfl rfl ?_
   refine awp_ret ?_
   repeat (first | refine athen_ret ?_ | refine ain_ret ?_)
   refine apost_ret (aend1s (r0 := .osl _ _ _ _ _) (.tmp .nil) shut rfl ⟨Wk.v ?_, rfl, rfl⟩)
   exact .sl (fun j hj => by match j, hj with | 0, _ => rfl | 1, _ => rfl | 2, _ => rfl | 3, _ => rfl | 4, _ => rfl | 5, _ => rfl | 6, _ => rfl | 7, _ => rfl | j + 8, hj => omega)
theorem c2128 : APure (V ea cds gl) 128 [.int .i64 2] false (.sl 2 false 9 (rowAt (Sp.rows 2))) := by
 refine acalls_of_body (N := 31) Tryz.func128 rfl rfl (Nat.le_of_ble_eq_true rfl) fun C hV hN hM hO => ?_
 obtain ⟨_, _, w0, G0, σ0, _, own0⟩ := C; dsimp only at hV hN hM hO; subst hV; subst hN; subst hM
 refine awp_seq (awp_region rfl ?_)
 refine sP (opp_as (v := .sl _ _ _ _) rfl rfl) rfl rfl ?_
 refine awp_seq (awp_region rfl ?_)
 refine sP (opp_build rfl z220 bld220 rfl [.int _ _, .bool _] rfl) rfl rfl ?_
 refine sR (opr_buildSlice (n := 5) (g := fun j => if j = 0 then .agg _ else .agg [.int .i64 0, .bool false]) rfl eb217 z220 (by decide) rfl rfl) rfl rfl rfl ?_
 refine sP (opp_as (v := .osl _ _ _ _ _) rfl rfl) rfl rfl ?_
 refine awp_seq (awp_seq (awp_region rfl ?_))
 refine sP (opp_mv (v := .int _ _) rfl rfl) rfl rfl ?_
 refine sP (opp_cmp rfl rfl rfl rfl) rfl rfl ?_
 refine awp_cond _ rfl (fun ht7 => ?_) (fun ht7 => ?_)
 ·(try simp only [cmpI, errD_nil, qa, qb, qc, qd] at ht7)
  refine awp_region rfl ?_
  refine sP (opp_mv (v := .osl _ _ _ _ _) rfl rfl) rfl rfl ?_
  refine sP (opp_build rfl z220 bld220 rfl [.int _ _, .bool _] rfl) rfl rfl ?_
  refine sR (opr_buildSlice (n := 10) (g := fun j => if j = 0 then .agg _ else .agg [.int .i64 0, .bool false]) rfl eb217 z220 (by decide) rfl rfl) rfl rfl rfl ?_
  refine sR (opr_append (d := 11) rfl rfl rfl (by omega) (.osl0 rfl (by omega)) eb217 z220 (by omega) (by omega)) rfl rfl rfl ?_
  refine sP (opp_as (v := .osl _ _ _ _ _) rfl rfl) rfl rfl ?_
  refine awp_seq (awp_region rfl ?_)
  refine sP (opp_mv (v := .osl _ _ _ _ _) rfl rfl) rfl rfl ?_
  refine sP (opp_build rfl z220 bld220 rfl [.int _ _, .bool false] rfl) rfl rfl ?_
  refine sP (opp_build rfl z220 bld220 rfl [.int _ _, .bool _] rfl) rfl rfl ?_
  refine sP (opp_build rfl z220 bld220 rfl [.int _ _, .bool _] rfl) rfl rfl ?_
  refine sP (opp_build rfl z220 bld220 rfl [.int _ _, .bool _] rfl) rfl rfl ?_
  refine sP (opp_build rfl z220 bld220 rfl [.int _ _, .bool _] rfl) rfl rfl ?_
  refine sP (opp_build rfl z220 bld220 rfl [.int _ _, .bool false] rfl) rfl rfl ?_
  refine sR (opr_buildSlice (n := 19) (g := fun j => if j = 5 then .agg _ else if j = 4 then .agg _ else if j = 3 then .agg _ else if j = 2 then .agg _ else if j = 1 then .agg _ else if j = 0 then .agg _ else .agg [.int .i64 0, .bool false]) rfl eb217 z220 (by decide) rfl rfl) rfl rfl rfl ?_
  refine sR (opr_append (d := 20) rfl rfl rfl (by omega) (.osl0 rfl (by omega)) eb217 z220 (by omega) (by omega)) rfl rfl rfl ?_
  refine sP (opp_as (v := .osl _ _ _ _ _) rfl rfl) rfl rfl ?_
  refine awp_seq (awp_seq (awp_region rfl ?_))
  refine sP (opp_mv (v := .int _ _) rfl rfl) rfl rfl ?_
  refine sP (opp_cmp rfl rfl rfl rfl) rfl rfl ?_
  refine awp_cond _ rfl (fun ht22 => ?_) (fun ht22 => ?_)
  ·(try simp only [cmpI, errD_nil, qa, qb, qc, qd] at ht22)
   refine awp_seq (awp_region rfl ?_)
   refine sP (opp_mv (v := .osl _ _ _ _ _) rfl rfl) rfl rfl ?_
   refine sP (opp_build rfl z220 bld220 rfl [.int _ _, .bool false] rfl) rfl rfl ?_
   refine sR (opr_buildSlice (n := 25) (g := fun j => if j = 0 then .agg _ else .agg [.int .i64 0, .bool false]) rfl eb217 z220 (by decide) rfl rfl) rfl rfl rfl ?_
   refine sR (opr_append (d := 26) rfl rfl rfl (by omega) (.osl0 rfl (by omega)) eb217 z220 (by omega) (by omega)) rfl rfl rfl ?_
   refine sP (opp_as (v := .osl _ _ _ _ _) rfl rfl) rfl rfl ?_
   refine awp_ret ?_
   repeat (first | refine athen_ret ?_ | refine ain_ret ?_)
   refine apost_ret (aend1s (r0 := .osl _ _ _ _ _) (.tmp .nil) shut rfl ⟨Wk.v ?_, rfl, rfl⟩)
   exact .sl (fun j hj => by match j, hj with | 0, _ => rfl | 1, _ => rfl | 2, _ => rfl | 3, _ => rfl | 4, _ => rfl | 5, _ => rfl | 6, _ => rfl | 7, _ => rfl | 8, _ => rfl | j + 9, hj => omega)
  ·(try simp only [cmpI, errD_nil, qa, qb, qc, qd] at ht22)
   exfalso; simp [cmpI] at ht22
 ·(try simp only [cmpI, errD_nil, qa, qb, qc, qd] at ht7)
  exfalso; simp [cmpI] at ht7
theorem c128 (k : Int) (hk : k = 1 ∨ k = 2) : APure (V ea cds gl) 128 [.int .i64 k] false (.sl 2 false (Sp.rows k).length (rowAt (Sp.rows k))) := by
  rcases hk with rfl | rfl
  · exact c1128
  · exact c2128
theorem c49 (kd : Int) (l : List Rc) (b : Bool) (h0 : l.length ≤ 4398046511104) : APure (V ea cds gl) 49 [.int .i64 kd, .sl 2 b l.length (rcAt l)] false (erAV (Sp.grammar kd l)) := by
 have hrl := rows_len kd
 refine acalls_of_body (N := 75) Tryz.func49 rfl rfl (Nat.le_of_ble_eq_true rfl) fun C hV hN hM hO => ?_
 obtain ⟨_, _, w0, G0, σ0, _, own0⟩ := C; dsimp only at hV hN hM hO; subst hV; subst hN; subst hM
 refine awp_seq (awp_region rfl ?_)
 refine sR (opr_alloc (n := 4) rfl z28) rfl rfl rfl ?_
 refine awp_seq (awp_seq (awp_region rfl ?_))
 refine sP (opp_mv (v := .int _ _) rfl rfl) rfl rfl ?_
 refine sP (opp_cmp rfl rfl rfl rfl) rfl rfl ?_
 refine sP (opp_mv (v := .bool _) rfl rfl) rfl rfl ?_
 refine sG _ rfl rfl rfl rfl (fun hg => (And.intro gi (True.intro))) (fun hg => opp_mv (v := .int _ _) rfl rfl) ?_
 refine sG _ rfl rfl rfl rfl (fun hg => (And.intro gi (And.intro gi (True.intro)))) (fun hg => opp_cmp rfl rfl rfl rfl) ?_
 refine sPick rfl rfl rfl rfl (by exact True.intro) rfl rfl (fun hg => gi) (fun hg => gi) ?_
 refine awp_cond _ rfl (fun ht13 => ?_) (fun ht13 => ?_)
 ·(try simp only [cmpI, errD_nil, qa, qb, qc, qd] at ht13)
  refine awp_seq (awp_region rfl ?_)
  refine sP (opp_build rfl z28 bld28 rfl [.int _ _, .int _ _] rfl) rfl rfl ?_
  refine sR0 (opr_store (v := .agg _) (trn := (.agg _)) rfl rfl rfl rfl bi rfl rfl rfl rfl fr2 ty28 (fun _ _ h => h)) rfl rfl rfl ?_
  refine awp_ret ?_
  repeat (first | refine athen_ret ?_ | refine ain_ret ?_)
  refine apost_ret (aend1 (r0 := .agg _) (.cell rfl rfl rfl (by exact True.intro) rfl ty28 .nil) (.noN rfl rfl) ⟨Wk.v ?_, rfl, rfl⟩)
  have hkd : kd ≠ 1 ∧ kd ≠ 2 := by simpa using ht13
  rw [show Sp.grammar kd l = Sp.ec 7 from if_pos hkd]; exact .refl
 ·(try simp only [cmpI, errD_nil, qa, qb, qc, qd] at ht13)
  refine awp_skip (awp_seq ?_)
  have hkd : kd = 1 ∨ kd = 2 := by simp [cmpI] at ht13; omega
  refine awp_region rfl ?_
  refine sP (opp_mv (v := .int _ _) rfl rfl) rfl rfl ?_
  refine sR (opr_call rfl rfl ent128 rfl (c128 kd hkd) (AViews.refl _ rfl)) rfl rfl rfl ?_ -- d=16 t=217 a=15
  refine sP (opp_as (v := .sl _ _ _ _) rfl rfl) rfl rfl ?_
  refine awp_seq (awp_region rfl ?_)
  refine sP (opp_as (v := .int _ _) rfl rfl) rfl rfl ?_
  refine awp_seq (awp_seq (awp_region rfl ?_))
  refine sP (opp_as (v := .int _ _) rfl rfl) rfl rfl ?_
  refine awp_block ?_
  refine awp_loopK (ι := Nat × Nat) (fun p => p.1 ≤ (Sp.rows kd).length ∧ p.2 ≤ l.length ∧ Sp.gram ((Sp.rows kd).drop p.1) ((tagsOf l).drop p.2) p.2 = Sp.gram (Sp.rows kd) (tagsOf l) 0) (fun p => [(6, .int .i64 (p.2 : Int)), (7, .int .i64 (p.1 : Int)), (17, .top), (18, .top), (19, .top), (20, .top), (21, .top), (22, .top), (23, .top), (24, .top), (25, .top), (26, .top), (27, .top), (28, .top), (29, .top), (30, .top), (31, .top), (32, .top), (33, .top), (34, .top), (35, .top), (36, .top), (37, .top), (38, .top), (39, .top), (40, .top), (41, .top), (42, .top), (43, .top), (44, .top), (45, .top), (46, .top), (47, .top), (48, .top), (49, .top), (50, .top), (51, .top), (52, .top), (53, .top), (54, .top), (55, .top), (56, .top), (57, .top), (58, .top), (59, .top), (60, .top), (61, .top), (62, .top), (63, .top), (64, .top), (65, .top), (66, .top), (67, .top)]) (fun p => []) [] (fun p => (Sp.rows kd).length - p.1) ((0, 0)) (⟨Nat.zero_le _, Nat.zero_le _, rfl⟩) (by
   refine imp_over [] rfl rfl (by kernel_rfl) ?_ ?_
   ·iterate 53 refine And.intro wkv ?_
    exact True.intro
   ·exact True.intro
   ) ?_
  intro p hi1; obtain ⟨k, i⟩ := p; dsimp only at hi1 ⊢; obtain ⟨hk, hi, hg⟩ := hi1
  refine awp_seq (awp_seq (awp_region rfl ?_))
  refine sP (opp_mv (v := .int _ _) rfl rfl) rfl rfl ?_
  refine sP (opp_mv (v := .sl _ _ _ _) rfl rfl) rfl rfl ?_
  refine sP (opp_lenSl rfl rfl un217) rfl rfl ?_
  refine sP (opp_cmp rfl rfl rfl rfl) rfl rfl ?_
  refine awp_cond _ rfl (fun ht20 => ?_) (fun ht20 => ?_)
  ·(try simp only [cmpI, errD_nil, qa, qb, qc, qd] at ht20)
   refine awp_skip (awp_seq (awp_block (awp_seq (awp_seq (awp_region rfl ?_)))))
   refine sP (opp_mv (v := .sl _ _ _ _) rfl rfl) rfl rfl ?_
   refine sP (opp_mv (v := .int _ _) rfl rfl) rfl rfl ?_
   refine sP (opp_indexSl rfl rfl rfl el217 (by omega) (by omega)) rfl rfl ?_
   refine sP (opp_fieldF rfl rfl rfl fld220_1 rfl rfl) rfl rfl ?_
   refine sP (opp_loadF rfl rfl ty4) rfl rfl ?_
   refine awp_cond _ rfl (fun ht27 => ?_) (fun ht27 => ?_)
   ·(try simp only [cmpI, errD_nil, qa, qb, qc, qd] at ht27)
    refine awp_seq (awp_seq ?_)
    have hone : ((Sp.rows kd).getD k (0, true)).2 = true := ht27
    refine awp_region rfl ?_
    refine sP (opp_mv (v := .int _ _) rfl rfl) rfl rfl ?_
    refine sP (opp_mv (v := .sl _ _ _ _) rfl rfl) rfl rfl ?_
    refine sP (opp_lenSl rfl rfl un31) rfl rfl ?_
    refine sP (opp_cmp rfl rfl rfl rfl) rfl rfl ?_
    refine awp_cond _ rfl (fun ht31 => ?_) (fun ht31 => ?_)
    ·(try simp only [cmpI, errD_nil, qa, qb, qc, qd] at ht31)
     refine awp_seq (awp_region rfl ?_)
     refine sP (opp_mv (v := .int _ _) rfl rfl) rfl rfl ?_
     refine sP (opp_build rfl z28 bld28 rfl [.int _ _, .int _ _] rfl) rfl rfl ?_
     refine sR0 (opr_store (v := .agg _) (trn := (.agg _)) rfl rfl rfl rfl bi rfl rfl rfl rfl fr2 ty28 (fun _ _ h => h)) rfl rfl rfl ?_
     refine awp_ret ?_
     repeat (first | refine athen_ret ?_ | refine ain_ret ?_)
     refine apost_ret (aend1 (r0 := .agg _) (.cell rfl rfl rfl (by exact True.intro) rfl ty28 .nil) (.noN rfl rfl) ⟨Wk.v ?_, rfl, rfl⟩)
     have hie : i = l.length := by omega
     rw [tags_end (by omega)] at hg
     rw [show Sp.grammar kd l = Sp.ea 1 i by rw [grammar_eq hkd, ← hg]; exact gram_short (by omega) hone]; exact .refl
    ·(try simp only [cmpI, errD_nil, qa, qb, qc, qd] at ht31)
     refine awp_skip (awp_seq (awp_seq ?_))
     refine awp_draw hmix rfl (by kernel_rfl) ?_
     refine dP (fun _ => false) (opp_mv (v := .sl _ _ _ _) rfl rfl) rfl rfl ?_
     refine dP (fun _ => false) (opp_mv (v := .int _ _) rfl rfl) rfl rfl ?_
     refine dP (fun _ => false) (opp_indexSl rfl rfl rfl el31 (by omega) (by omega)) rfl rfl ?_
     refine dP (fun _ => false) (opp_fieldF rfl rfl rfl fld124_0 rfl rfl) rfl rfl ?_
     refine dP (fun _ => false) (opp_loadF rfl rfl ty3) rfl rfl ?_
     refine dP (fun _ => false) (opp_mv (v := .sl _ _ _ _) rfl rfl) rfl rfl ?_
     refine dP (fun _ => false) (opp_mv (v := .int _ _) rfl rfl) rfl rfl ?_
     refine dP (fun _ => false) (opp_indexSl rfl rfl rfl el217 (by omega) (by omega)) rfl rfl ?_
     refine dP (fun _ => false) (opp_fieldF rfl rfl rfl fld220_0 rfl rfl) rfl rfl ?_
     refine dP (fun _ => false) (opp_loadF rfl rfl ty3) rfl rfl ?_
     refine dP (fun _ => false) (opp_cmp rfl rfl rfl rfl) rfl rfl ?_
     refine And.intro (by kernel_rfl) ?_
     refine awp_cond _ rfl (fun ht44 => ?_) (fun ht44 => ?_)
     ·(try simp only [cmpI, errD_nil, qa, qb, qc, qd] at ht44)
      refine awp_seq (awp_region rfl ?_)
      refine sP (opp_mv (v := .int _ _) rfl rfl) rfl rfl ?_
      refine sP (opp_build rfl z28 bld28 rfl [.int _ _, .int _ _] rfl) rfl rfl ?_
      refine sR0 (opr_store (v := .agg _) (trn := (.agg _)) rfl rfl rfl rfl bi rfl rfl rfl rfl fr2 ty28 (fun _ _ h => h)) rfl rfl rfl ?_
      refine awp_ret ?_
      repeat (first | refine athen_ret ?_ | refine ain_ret ?_)
      refine apost_ret (aend1 (r0 := .agg _) (.cell rfl rfl rfl (by exact True.intro) rfl ty28 .nil) (.noN rfl rfl) ⟨Wk.v ?_, rfl, rfl⟩)
      have hne : ((Sp.rows kd).getD k (0, true)).1 ≠ (l.getD i rcD).tag := by simpa [rcD, eq_comm] using ht44
      rw [show Sp.grammar kd l = Sp.ea 3 i by rw [grammar_eq hkd, ← hg]; exact gram_other (by omega) (by omega) hone hne]; exact .refl
     ·(try simp only [cmpI, errD_nil, qa, qb, qc, qd] at ht44)
      refine awp_skip (awp_seq (awp_region rfl ?_))
      refine sP (opp_mv (v := .int _ _) rfl rfl) rfl rfl ?_
      refine sP (opp_arith rfl rfl rfl (.inl ⟨rfl, w64 (by omega)⟩)) rfl rfl ?_
      refine sP (opp_as (v := .int _ _) rfl rfl) rfl rfl ?_
      refine awp_exit (awp_region rfl ?_)
      refine sP (opp_mv (v := .int _ _) rfl rfl) rfl rfl ?_
      refine sP (opp_arith rfl rfl rfl (.inl ⟨rfl, w64 (by omega)⟩)) rfl rfl ?_
      refine sP (opp_as (v := .int _ _) rfl rfl) rfl rfl ?_
      have heq : ((Sp.rows kd).getD k (0, true)).1 = (l.getD i rcD).tag := by simpa [rcD, eq_comm] using ht44
      refine Exists.intro ((k + 1, i + 1)) (And.intro (And.intro (⟨by show k + 1 ≤ _; omega, by show i + 1 ≤ _; omega, by show Sp.gram ((Sp.rows kd).drop (k + 1)) ((tagsOf l).drop (i + 1)) (i + 1) = _; rw [← gram_one (by omega) (by omega) hone heq]; exact hg⟩) (by first | omega | (dsimp only; omega))) (by
       refine imp_over [] rfl rfl (by kernel_rfl) ?_ ?_
       ·iterate 53 refine And.intro wkv ?_
        exact True.intro
       ·exact True.intro
       ))
   ·(try simp only [cmpI, errD_nil, qa, qb, qc, qd] at ht27)
    refine awp_skip (awp_block ?_)
    refine awp_loopK (ι := Nat) (fun q => q ≤ l.length ∧ Sp.gram ((Sp.rows kd).drop k) ((tagsOf l).drop q) q = Sp.gram (Sp.rows kd) (tagsOf l) 0) (fun q => [(6, .int .i64 (q : Int)), (49, .top), (50, .top), (51, .top), (52, .top), (53, .top), (54, .top), (55, .top), (56, .top), (57, .top), (58, .top), (59, .top), (60, .top), (61, .top), (62, .top), (63, .top), (64, .top), (65, .top), (66, .top), (67, .top)]) (fun q => []) [] (fun q => l.length - q) (i) (⟨hi, hg⟩) (by
     refine imp_over [] rfl rfl (by kernel_rfl) ?_ ?_
     ·iterate 20 refine And.intro wkv ?_
      exact True.intro
     ·exact True.intro
     ) ?_
    intro q hi2
    refine awp_seq (awp_seq ?_)
    refine awp_draw hmix rfl (by kernel_rfl) ?_
    refine dP (fun _ => false) (opp_mv (v := .int _ _) rfl rfl) rfl rfl ?_
    refine dP (fun _ => false) (opp_mv (v := .sl _ _ _ _) rfl rfl) rfl rfl ?_
    refine dP (fun n => !([] : List Nat).contains n) (opp_lenSl rfl rfl un31) rfl rfl ?_
    refine dP (fun _ => false) (opp_cmp rfl rfl rfl rfl) rfl rfl ?_
    refine dP (fun _ => false) (opp_mv (v := .bool _) rfl rfl) rfl rfl ?_
    refine dG _ (fun _ => false) rfl rfl rfl rfl (fun hg => (And.intro gi (True.intro))) (fun hg => opp_mv (v := .sl _ _ _ _) rfl rfl) ?_
    refine dG _ (fun _ => false) rfl rfl rfl rfl (fun hg => (And.intro gi (True.intro))) (fun hg => opp_mv (v := .int _ _) rfl rfl) ?_
    refine dG _ (fun _ => false) rfl rfl rfl rfl (fun hg => (And.intro gi (And.intro gi (True.intro)))) (fun hg => opp_indexSl rfl rfl rfl el31 (by first | omega | (simp [cmpI] at hg; omega)) (by first | omega | (simp [cmpI] at hg; omega))) ?_
    refine dG _ (fun _ => false) rfl rfl rfl rfl (fun hg => (And.intro gi (True.intro))) (fun hg => opp_fieldF rfl rfl rfl fld124_0 rfl rfl) ?_
    refine dG _ (fun _ => false) rfl rfl rfl rfl (fun hg => (And.intro gi (True.intro))) (fun hg => opp_loadF rfl rfl ty3) ?_
    refine dG _ (fun _ => false) rfl rfl rfl rfl (fun hg => (And.intro gi (True.intro))) (fun hg => opp_mv (v := .sl _ _ _ _) rfl rfl) ?_
    refine dG _ (fun _ => false) rfl rfl rfl rfl (fun hg => (And.intro gi (True.intro))) (fun hg => opp_mv (v := .int _ _) rfl rfl) ?_
    refine dG _ (fun _ => false) rfl rfl rfl rfl (fun hg => (And.intro gi (And.intro gi (True.intro)))) (fun hg => opp_indexSl rfl rfl rfl el217 (by first | omega | (simp [cmpI] at hg; omega)) (by first | omega | (simp [cmpI] at hg; omega))) ?_
    refine dG _ (fun _ => false) rfl rfl rfl rfl (fun hg => (And.intro gi (True.intro))) (fun hg => opp_fieldF rfl rfl rfl fld220_0 rfl rfl) ?_
    refine dG _ (fun _ => false) rfl rfl rfl rfl (fun hg => (And.intro gi (True.intro))) (fun hg => opp_loadF rfl rfl ty3) ?_
    refine dG _ (fun _ => false) rfl rfl rfl rfl (fun hg => (And.intro gi (And.intro gi (True.intro)))) (fun hg => opp_cmp rfl rfl rfl rfl) ?_
    refine dPick (fun _ => false) rfl rfl rfl rfl (by exact True.intro) rfl rfl (fun hg => gi) (fun hg => gi) ?_
    refine And.intro (by kernel_rfl) ?_
    refine awp_cond _ rfl (fun ht65 => ?_) (fun ht65 => ?_)
    ·(try simp only [cmpI, errD_nil, qa, qb, qc, qd] at ht65)
     refine awp_skip (awp_block ?_)
     have hmany : ((Sp.rows kd).getD k (0, true)).2 = false := by simpa using ht27
     have hx : q < l.length ∧ ((Sp.rows kd).getD k (0, true)).1 = (l.getD q rcD).tag := ⟨Int.ofNat_lt.mp (both_true ht65).1, (of_decide_eq_true (both_true ht65).2).symm⟩
     refine awp_region rfl ?_
     refine sP (opp_mv (v := .int _ _) rfl rfl) rfl rfl ?_
     refine sP (opp_arith rfl rfl rfl (.inl ⟨rfl, w64 (by omega)⟩)) rfl rfl ?_
     refine sP (opp_as (v := .int _ _) rfl rfl) rfl rfl ?_
     refine Exists.intro (q + 1) (And.intro (And.intro (⟨by omega, by rw [← gram_many (by omega) (by omega) hmany hx.2]; exact hi2.2⟩) (by first | omega | (dsimp only; omega))) (by
      refine imp_over [] rfl rfl (by kernel_rfl) ?_ ?_
      ·iterate 20 refine And.intro wkv ?_
       exact True.intro
      ·exact True.intro
      ))
    ·(try simp only [cmpI, errD_nil, qa, qb, qc, qd] at ht65)
     refine awp_exit (awp_region rfl ?_)
     refine sP (opp_mv (v := .int _ _) rfl rfl) rfl rfl ?_
     refine sP (opp_arith rfl rfl rfl (.inl ⟨rfl, w64 (by omega)⟩)) rfl rfl ?_
     refine sP (opp_as (v := .int _ _) rfl rfl) rfl rfl ?_
     have hmany : ((Sp.rows kd).getD k (0, true)).2 = false := by simpa using ht27
     have hx : q < l.length → ¬ ((Sp.rows kd).getD k (0, true)).1 = (l.getD q rcD).tag := fun hq he => absurd he.symm (of_decide_eq_false (both_false ht65 (Int.ofNat_lt.mpr hq)))
     refine Exists.intro ((k + 1, q)) (And.intro (And.intro (⟨by show k + 1 ≤ _; omega, hi2.1, by show Sp.gram ((Sp.rows kd).drop (k + 1)) ((tagsOf l).drop q) q = _; rw [← hi2.2]; by_cases hq : q < l.length; exact (gram_skip (by omega) hq hmany (hx hq)).symm; rw [tags_end (by omega)]; exact (gram_next (by omega) hmany).symm⟩) (by first | omega | (dsimp only; omega))) (by
      refine imp_over [] rfl rfl (by kernel_rfl) ?_ ?_
      ·iterate 53 refine And.intro wkv ?_
       exact True.intro
      ·exact True.intro
      ))
  ·(try simp only [cmpI, errD_nil, qa, qb, qc, qd] at ht20)
   refine awp_exit (awp_seq (awp_seq (awp_region rfl ?_)))
   refine sP (opp_mv (v := .int _ _) rfl rfl) rfl rfl ?_
   refine sP (opp_mv (v := .sl _ _ _ _) rfl rfl) rfl rfl ?_
   refine sP (opp_lenSl rfl rfl un31) rfl rfl ?_
   refine sP (opp_cmp rfl rfl rfl rfl) rfl rfl ?_
   refine awp_cond _ rfl (fun ht71 => ?_) (fun ht71 => ?_)
   ·(try simp only [cmpI, errD_nil, qa, qb, qc, qd] at ht71)
    refine awp_seq (awp_region rfl ?_)
    refine sP (opp_mv (v := .int _ _) rfl rfl) rfl rfl ?_
    refine sP (opp_build rfl z28 bld28 rfl [.int _ _, .int _ _] rfl) rfl rfl ?_
    refine sR0 (opr_store (v := .agg _) (trn := (.agg _)) rfl rfl rfl rfl bi rfl rfl rfl rfl fr2 ty28 (fun _ _ h => h)) rfl rfl rfl ?_
    refine awp_ret ?_
    repeat (first | refine athen_ret ?_ | refine ain_ret ?_)
    refine apost_ret (aend1 (r0 := .agg _) (.cell rfl rfl rfl (by exact True.intro) rfl ty28 .nil) (.noN rfl rfl) ⟨Wk.v ?_, rfl, rfl⟩)
    have hke : k = (Sp.rows kd).length := by omega
    rw [show Sp.grammar kd l = Sp.ea 3 i by rw [grammar_eq hkd, ← hg]; exact gram_over (by omega) (by omega)]; exact .refl
   ·(try simp only [cmpI, errD_nil, qa, qb, qc, qd] at ht71)
    refine awp_skip (awp_seq (awp_region rfl ?_))
    refine sR (opr_call rfl rfl ent47 rfl (c47) (AViews.refl _ rfl)) rfl rfl rfl ?_ -- d=74 t=28 a=
    refine sR0 (opr_store (v := .agg _) (trn := (.agg _)) rfl rfl rfl rfl bi rfl rfl rfl rfl fr2 ty28 (fun _ _ h => h)) rfl rfl rfl ?_
    refine awp_ret ?_
    repeat (first | refine athen_ret ?_ | refine ain_ret ?_)
    refine apost_ret (aend1 (r0 := .agg _) (.cell rfl rfl rfl (by exact True.intro) rfl ty28 .nil) (.noN rfl rfl) ⟨Wk.v ?_, rfl, rfl⟩)
    have hke : k = (Sp.rows kd).length := by omega
    rw [tags_end (by omega)] at hg
    rw [show Sp.grammar kd l = Sp.e0 by rw [grammar_eq hkd, ← hg]; exact gram_done (by omega)]; exact .refl
theorem c17 (l : List Rc) (b c : Bool) (h0 : l.length ≤ 4398046511104) : APure (V ea cds gl) 17 [.sl 2 b l.length (rcAt l), .sl 2 c l.length (rcAt l)] false (.bool true) := by
 refine acalls_of_body (N := 43) Tryz.func17 rfl rfl (Nat.le_of_ble_eq_true rfl) fun C hV hN hM hO => ?_
 obtain ⟨_, _, w0, G0, σ0, _, own0⟩ := C; dsimp only at hV hN hM hO; subst hV; subst hN; subst hM
 refine awp_seq (awp_region rfl ?_)
 refine sP (opp_as (v := .bool _) rfl rfl) rfl rfl ?_
 refine awp_seq (awp_seq (awp_region rfl ?_))
 refine sP (opp_mv (v := .sl _ _ _ _) rfl rfl) rfl rfl ?_
 refine sP (opp_lenSl rfl rfl un39) rfl rfl ?_
 refine sP (opp_mv (v := .sl _ _ _ _) rfl rfl) rfl rfl ?_
 refine sP (opp_lenSl rfl rfl un31) rfl rfl ?_
 refine sP (opp_cmp rfl rfl rfl rfl) rfl rfl ?_
 refine awp_cond _ rfl (fun ht10 => ?_) (fun ht10 => ?_)
 ·(try simp only [cmpI, errD_nil, qa, qb, qc, qd] at ht10)
  exfalso; simp [cmpI] at ht10
 ·(try simp only [cmpI, errD_nil, qa, qb, qc, qd] at ht10)
  refine awp_skip (awp_seq (awp_seq (awp_region rfl ?_)))
  refine sP (opp_as (v := .int _ _) rfl rfl) rfl rfl ?_
  refine awp_block ?_
  refine awp_loopK (ι := Nat) (fun i => i ≤ l.length) (fun i => [(4, .top), (5, .int .i64 (i : Int)), (11, .top), (12, .top), (13, .top), (14, .top), (15, .top), (16, .top), (17, .top), (18, .top), (19, .top), (20, .top), (21, .top), (22, .top), (23, .top), (24, .top), (25, .top), (26, .top), (27, .top), (28, .top), (29, .top), (30, .top), (31, .top), (32, .top), (33, .top), (34, .top), (35, .top), (36, .top), (37, .top), (38, .top), (39, .top), (40, .top), (41, .top), (42, .top)]) (fun i => []) [] (fun i => l.length - i) (0) (Nat.zero_le _) (by
   refine imp_over [] rfl rfl (by kernel_rfl) ?_ ?_
   ·iterate 34 refine And.intro wkv ?_
    exact True.intro
   ·exact True.intro
   ) ?_
  intro i hi1
  refine awp_seq (awp_seq (awp_region rfl ?_))
  refine sP (opp_mv (v := .int _ _) rfl rfl) rfl rfl ?_
  refine sP (opp_mv (v := .sl _ _ _ _) rfl rfl) rfl rfl ?_
  refine sP (opp_lenSl rfl rfl un39) rfl rfl ?_
  refine sP (opp_cmp rfl rfl rfl rfl) rfl rfl ?_
  refine awp_cond _ rfl (fun ht14 => ?_) (fun ht14 => ?_)
  ·(try simp only [cmpI, errD_nil, qa, qb, qc, qd] at ht14)
   refine awp_skip (awp_seq (awp_block (awp_seq ?_)))
   refine awp_draw hmix rfl (by kernel_rfl) ?_
   refine dP (fun _ => false) (opp_mv (v := .sl _ _ _ _) rfl rfl) rfl rfl ?_
   refine dP (fun _ => false) (opp_mv (v := .int _ _) rfl rfl) rfl rfl ?_
   refine dP (fun _ => false) (opp_indexSl rfl rfl rfl el39 (by omega) (by omega)) rfl rfl ?_
   refine dP (fun _ => false) (opp_fieldF rfl rfl rfl fld105_0 rfl rfl) rfl rfl ?_
   refine dP (fun _ => false) (opp_loadF rfl rfl ty3) rfl rfl ?_
   refine dP (fun _ => false) (opp_mv (v := .sl _ _ _ _) rfl rfl) rfl rfl ?_
   refine dP (fun _ => false) (opp_mv (v := .int _ _) rfl rfl) rfl rfl ?_
   refine dP (fun _ => false) (opp_indexSl rfl rfl rfl el31 (by omega) (by omega)) rfl rfl ?_
   refine dP (fun _ => false) (opp_fieldF rfl rfl rfl fld124_0 rfl rfl) rfl rfl ?_
   refine dP (fun _ => false) (opp_loadF rfl rfl ty3) rfl rfl ?_
   refine dP (fun _ => false) (opp_cmp rfl rfl rfl rfl) rfl rfl ?_
   refine dP (fun _ => false) (opp_mv (v := .bool _) rfl rfl) rfl rfl ?_
   refine dG _ (fun _ => false) rfl rfl rfl rfl (fun hg => (And.intro gi (True.intro))) (fun hg => opp_mv (v := .sl _ _ _ _) rfl rfl) ?_
   refine dG _ (fun _ => false) rfl rfl rfl rfl (fun hg => (And.intro gi (True.intro))) (fun hg => opp_mv (v := .int _ _) rfl rfl) ?_
   refine dG _ (fun _ => false) rfl rfl rfl rfl (fun hg => (And.intro gi (And.intro gi (True.intro)))) (fun hg => opp_indexSl rfl rfl rfl el39 (by first | omega | (simp [cmpI] at hg; omega)) (by first | omega | (simp [cmpI] at hg; omega))) ?_
   refine dG _ (fun _ => false) rfl rfl rfl rfl (fun hg => (And.intro gi (True.intro))) (fun hg => opp_fieldF rfl rfl rfl fld105_1 rfl rfl) ?_
   refine dG _ (fun _ => false) rfl rfl rfl rfl (fun hg => (And.intro gi (True.intro))) (fun hg => opp_loadF rfl rfl ty22) ?_
   refine dG _ (fun n => !([40] : List Nat).contains n) rfl rfl rfl rfl (fun hg => (And.intro gi (True.intro))) (fun hg => opp_bytesStr rfl rfl _ rfl (fun j hj => rfl) un22 unu8 un9) ?_
   refine dG _ (fun _ => false) rfl rfl rfl rfl (fun hg => (And.intro gi (True.intro))) (fun hg => opp_mv (v := .sl _ _ _ _) rfl rfl) ?_
   refine dG _ (fun _ => false) rfl rfl rfl rfl (fun hg => (And.intro gi (True.intro))) (fun hg => opp_mv (v := .int _ _) rfl rfl) ?_
   refine dG _ (fun _ => false) rfl rfl rfl rfl (fun hg => (And.intro gi (And.intro gi (True.intro)))) (fun hg => opp_indexSl rfl rfl rfl el31 (by first | omega | (simp [cmpI] at hg; omega)) (by first | omega | (simp [cmpI] at hg; omega))) ?_
   refine dG _ (fun _ => false) rfl rfl rfl rfl (fun hg => (And.intro gi (True.intro))) (fun hg => opp_fieldF rfl rfl rfl fld124_1 rfl rfl) ?_
   refine dG _ (fun _ => false) rfl rfl rfl rfl (fun hg => (And.intro gi (True.intro))) (fun hg => opp_loadF rfl rfl ty22) ?_
   refine dG _ (fun n => !([34] : List Nat).contains n) rfl rfl rfl rfl (fun hg => (And.intro gi (True.intro))) (fun hg => opp_bytesStr rfl rfl _ rfl (fun j hj => rfl) un22 unu8 un9) ?_
   refine dG _ (fun _ => false) rfl rfl rfl rfl (fun hg => (And.intro gi (And.intro gi (True.intro)))) (fun hg => opp_strEq rfl rfl rfl (.inr ⟨rfl, rfl⟩)) ?_
   refine dPick (fun _ => false) rfl rfl rfl rfl (by exact True.intro) rfl rfl (fun hg => gi) (fun hg => gi) ?_
   refine And.intro (by kernel_rfl) ?_
   refine awp_cond _ rfl (fun ht42 => ?_) (fun ht42 => ?_)
   ·(try simp only [cmpI, errD_nil, qa, qb, qc, qd] at ht42)
    exfalso; simp [cmpI] at ht42
   ·(try simp only [cmpI, errD_nil, qa, qb, qc, qd] at ht42)
    refine awp_skip (awp_region rfl ?_)
    refine sP (opp_mv (v := .int _ _) rfl rfl) rfl rfl ?_
    refine sP (opp_arith rfl rfl rfl (.inl ⟨rfl, w64 (by omega)⟩)) rfl rfl ?_
    refine sP (opp_as (v := .int _ _) rfl rfl) rfl rfl ?_
    refine Exists.intro (i + 1) (And.intro (And.intro (by (show i + 1 ≤ l.length; omega)) (by first | omega | (dsimp only; omega))) (by
     refine imp_over [] rfl rfl (by kernel_rfl) ?_ ?_
     ·iterate 34 refine And.intro wkv ?_
      exact True.intro
     ·exact True.intro
     ))
  ·(try simp only [cmpI, errD_nil, qa, qb, qc, qd] at ht14)
   refine awp_exit (awp_seq (awp_region rfl ?_))
   refine sP (opp_as (v := .bool _) rfl rfl) rfl rfl ?_
   refine awp_ret ?_
   repeat (first | refine athen_ret ?_ | refine ain_ret ?_)
   refine apost_ret (aend1 (r0 := .bool _) (.tmp .nil) (.noN rfl rfl) ⟨Wk.v ?_, rfl, rfl⟩)
   exact .refl
end
end Go.Proofs.YtpmgdmbcdohgcaaGreatDoor
