/- My own texts, packed: L17x, L18x, FyA4, L19x, FyA5, FyA6, L20x, L21x. -/
import Derived.Test.YtpmgdmbcdohgcaaDoorM7
/- Layer 16: bodies of records, asked and read (walks over this dump). -/
namespace Go.Proofs.YtpmgdmbcdohgcaaDoor
attribute [local irreducible] Tryd.prog
open Go.Fy
set_option linter.unusedSimpArgs false
set_option linter.unusedVariables false
section
variable {ea : Nat → Addr} {cds : List Nat} {gl : Nat → Option AV}
theorem cg72s (l : List UInt8) (a b w : Nat) (hw : w = 1 ∨ w = 2 ∨ w = 4) (hab : a ≤ b) (hb : b < a + w) (hl : b ≤ l.length) (h0 : l.length ≤ 140737488355328) (hG2 : gl 2 = some (.err (.code 1))) : AGen (V ea cds gl) 72 [.ptr 1 [] 0, .int .i64 (w : Int), .int .i64 0, .int .i64 ((256 ^ w - 1 : Nat) : Int)] [(1, some (.agg [.sl 1 false l.length (bAt l), .int .i64 (a : Int), .int .i64 (b : Int)]))]
  (.tup [.int .i64 0, .err (.at (a : Int) (.code 1))]) [(1, some (.agg [.sl 1 false l.length (bAt l), .int .i64 (a : Int), .int .i64 (b : Int)]))] := by
 refine agen_of_body (N := 58) Tryd.func72 rfl rfl (Nat.le_of_ble_eq_true rfl) fun C hV hN hM hO => ?_
 obtain ⟨_, _, w0, G0, σ0, _, own0⟩ := C; dsimp only at hV hN hM hO; subst hV; subst hN; subst hM
 refine awp_seq (awp_region rfl ?_)
 refine sP (opp_as (v := .int _ _) rfl rfl) rfl rfl ?_
 refine sP (opp_as (v := .err _) rfl rfl) rfl rfl ?_
 refine awp_seq (awp_seq (awp_region rfl ?_))
 refine sP (opp_mv (v := .int _ _) rfl rfl) rfl rfl ?_
 refine sP (opp_cmp rfl rfl rfl rfl) rfl rfl ?_
 refine sP (opp_mv (v := .bool _) rfl rfl) rfl rfl ?_
 refine sG _ rfl rfl rfl rfl (fun hg => (And.intro gi (True.intro))) (fun hg => opp_mv (v := .int _ _) rfl rfl) ?_
 refine sG _ rfl rfl rfl rfl (fun hg => (And.intro gi (And.intro gi (True.intro)))) (fun hg => opp_cmp rfl rfl rfl rfl) ?_
 refine sPick rfl rfl rfl rfl (by exact True.intro) rfl rfl (fun hg => gi) (fun hg => gi) ?_
 refine sP (opp_mv (v := .bool _) rfl rfl) rfl rfl ?_
 refine sG _ rfl rfl rfl rfl (fun hg => (And.intro gi (True.intro))) (fun hg => opp_mv (v := .int _ _) rfl rfl) ?_
 refine sG _ rfl rfl rfl rfl (fun hg => (And.intro gi (And.intro gi (True.intro)))) (fun hg => opp_cmp rfl rfl rfl rfl) ?_
 refine sPick rfl rfl rfl rfl (by exact True.intro) rfl rfl (fun hg => gi) (fun hg => gi) ?_
 refine awp_cond _ rfl (fun ht20 => ?_) (fun ht20 => ?_)
 ·(try simp only [cmpI, errD_nil, qa, qb, qc, qd] at ht20)
  exfalso; revert ht20; rcases hw with rfl | rfl | rfl <;> simp [cmpI]
 ·(try simp only [cmpI, errD_nil, qa, qb, qc, qd] at ht20)
  refine awp_skip (awp_seq (awp_seq (awp_region rfl ?_)))
  refine sP (opp_mv (v := .ptr _ _ _) rfl rfl) rfl rfl ?_
  refine sR (opr_callG (rl := [(1, 1)]) (r1 := .int _ _) (H1 := [(1, some (.agg [.sl _ _ _ _, .int _ _, .int _ _]))]) (n1 := []) rfl rfl ent55 (cg55c l false a b (by omega) (by omega)) (And.intro (And.intro rfl wka) True.intro) (And.intro (And.intro rfl (Exists.intro _ (And.intro rfl wkc))) True.intro) rfl rfl rfl rfl) rfl rfl rfl ?_
  refine sP (opp_mv (v := .int _ _) rfl rfl) rfl rfl ?_
  refine sP (opp_cmp rfl rfl rfl rfl) rfl rfl ?_
  refine awp_cond _ rfl (fun ht25 => ?_) (fun ht25 => ?_)
  ·(try simp only [cmpI, errD_nil, qa, qb, qc, qd] at ht25)
   refine awp_seq ?_
   refine awp_draw hmix rfl (by kernel_rfl) ?_
   refine dP (fun _ => false) (opp_mv (v := .ptr _ _ _) rfl rfl) rfl rfl ?_
   refine dP (fun _ => false) (opp_nilCheckP rfl rfl) rfl rfl ?_
   refine dP (fun _ => false) (opp_fieldP rfl rfl fld139_1 rfl) rfl rfl ?_
   refine dP (fun n => Nat.beq n 1) (opp_loadP rfl rfl rfl rfl bi rfl ty3) rfl rfl ?_
   refine dP (fun _ => false) (opp_loadF rfl (ev_glob hG2) ty35) rfl rfl ?_
   refine dR (fun n => !([] : List Nat).contains n) (opr_call rfl rfl ent78 rfl (c78 _ _) (AViews.refl _ rfl)) rfl rfl rfl ?_ -- d=31 t=35 a=29,30
   refine dP (fun _ => false) (opp_as (v := .int _ _) rfl rfl) rfl rfl ?_
   refine dP (fun _ => false) (opp_as (v := .err _) rfl rfl) rfl rfl ?_
   refine And.intro (by kernel_rfl) ?_
   refine awp_ret ?_
   repeat (first | refine athen_ret ?_ | refine ain_ret ?_)
   refine gpost_ret (gends (l := [.int _ _, .err _]) true (.tmp (.tmp .nil)) (fun h => by cases h) (.cons shut (fun h => by cases h) (.cons shut (fun h => by cases h) .nil)) rfl ?_ rfl (And.intro (Exists.intro _ (Exists.intro _ (And.intro rfl (And.intro shut (And.intro (fun h => by cases h) (And.intro ?_ rfl)))))) True.intro))
   ·exact .refl
   ·exact .refl
  ·(try simp only [cmpI, errD_nil, qa, qb, qc, qd] at ht25)
   exfalso; simp [cmpI] at ht25; omega
theorem cg56s (l : List UInt8) (a : Nat) (hl : a = l.length) (h0 : l.length ≤ 140737488355328) (hG2 : gl 2 = some (.err (.code 1))) : AGen (V ea cds gl) 56 [.ptr 1 [] 0] [(1, some (.agg [.sl 1 false l.length (bAt l), .int .i64 (a : Int), .int .i64 (l.length : Int)]))]
  (.tup [.int .i64 0, .err (.at (a : Int) (.code 1))]) [(1, some (.agg [.sl 1 false l.length (bAt l), .int .i64 (a : Int), .int .i64 (l.length : Int)]))] := by
 refine agen_of_body (N := 9) Tryd.func56 rfl rfl (Nat.le_of_ble_eq_true rfl) fun C hV hN hM hO => ?_
 obtain ⟨_, _, w0, G0, σ0, _, own0⟩ := C; dsimp only at hV hN hM hO; subst hV; subst hN; subst hM
 refine awp_seq (awp_region rfl ?_)
 refine sP (opp_as (v := .int _ _) rfl rfl) rfl rfl ?_
 refine sP (opp_as (v := .err _) rfl rfl) rfl rfl ?_
 refine awp_seq (awp_region rfl ?_)
 refine sP (opp_mv (v := .ptr _ _ _) rfl rfl) rfl rfl ?_
 refine sR (opr_call rfl rfl ent62 rfl (c62 1 (by simp)) (AViews.refl _ rfl)) rfl rfl rfl ?_ -- d=5 t=3 a=x
 refine sR (opr_callG (rl := [(1, 1)]) (r1 := .tup [.int _ _, .err _]) (H1 := [(1, some (.agg [.sl _ _ _ _, .int _ _, .int _ _]))]) (n1 := []) rfl rfl ent72 (cg72s l a l.length 1 (by simp) (by omega) (by omega) (by omega) h0 hG2) (And.intro (And.intro rfl wka) (And.intro (And.intro rfl wka) (And.intro (And.intro rfl wka) (And.intro (And.intro rfl wka) True.intro)))) (And.intro (And.intro rfl (Exists.intro _ (And.intro rfl wkc))) True.intro) rfl rfl rfl rfl) rfl rfl rfl ?_
 refine sP (opp_extract rfl rfl rfl) rfl rfl ?_
 refine sP (opp_extract rfl rfl rfl) rfl rfl ?_
 refine sP (opp_as (v := .int _ _) rfl rfl) rfl rfl ?_
 refine sP (opp_as (v := .err _) rfl rfl) rfl rfl ?_
 refine awp_ret ?_
 repeat (first | refine athen_ret ?_ | refine ain_ret ?_)
 refine gpost_ret (gends (l := [.int _ _, .err _]) true (.tmp (.tmp .nil)) (fun h => by cases h) (.cons shut (fun h => by cases h) (.cons shut (fun h => by cases h) .nil)) rfl ?_ rfl (And.intro (Exists.intro _ (Exists.intro _ (And.intro rfl (And.intro shut (And.intro (fun h => by cases h) (And.intro ?_ rfl)))))) True.intro))
 ·exact .refl
 ·exact .refl
theorem cg76s (l : List UInt8) (a b n : Nat) (hab : a ≤ b) (hb : b < a + n) (hl : b ≤ l.length) (h0 : l.length ≤ 140737488355328) (hG2 : gl 2 = some (.err (.code 1))) : AGen (V ea cds gl) 76 [.ptr 1 [] 0, .int .i64 (n : Int)] [(1, some (.agg [.sl 1 false l.length (bAt l), .int .i64 (a : Int), .int .i64 (b : Int)]))]
  (.tup [.sl 1 true 0 (fun _ => .top), .err (.at (a : Int) (.code 1))]) [(1, some (.agg [.sl 1 false l.length (bAt l), .int .i64 (a : Int), .int .i64 (b : Int)]))] := by
 refine agen_of_body (N := 45) Tryd.func76 rfl rfl (Nat.le_of_ble_eq_true rfl) fun C hV hN hM hO => ?_
 obtain ⟨_, _, w0, G0, σ0, _, own0⟩ := C; dsimp only at hV hN hM hO; subst hV; subst hN; subst hM
 refine awp_seq (awp_region rfl ?_)
 refine sP (opp_as (v := .sl _ _ _ _) rfl rfl) rfl rfl ?_
 refine sP (opp_as (v := .err _) rfl rfl) rfl rfl ?_
 refine awp_seq (awp_seq (awp_region rfl ?_))
 refine sP (opp_mv (v := .int _ _) rfl rfl) rfl rfl ?_
 refine sP (opp_cmp rfl rfl rfl rfl) rfl rfl ?_
 refine awp_cond _ rfl (fun ht8 => ?_) (fun ht8 => ?_)
 ·(try simp only [cmpI, errD_nil, qa, qb, qc, qd] at ht8)
  exfalso; omega
 ·(try simp only [cmpI, errD_nil, qa, qb, qc, qd] at ht8)
  refine awp_skip (awp_seq (awp_seq (awp_region rfl ?_)))
  refine sP (opp_mv (v := .ptr _ _ _) rfl rfl) rfl rfl ?_
  refine sR (opr_callG (rl := [(1, 1)]) (r1 := .int _ _) (H1 := [(1, some (.agg [.sl _ _ _ _, .int _ _, .int _ _]))]) (n1 := []) rfl rfl ent55 (cg55c l false a b (by omega) (by omega)) (And.intro (And.intro rfl wka) True.intro) (And.intro (And.intro rfl (Exists.intro _ (And.intro rfl wkc))) True.intro) rfl rfl rfl rfl) rfl rfl rfl ?_
  refine sP (opp_mv (v := .int _ _) rfl rfl) rfl rfl ?_
  refine sP (opp_cmp rfl rfl rfl rfl) rfl rfl ?_
  refine awp_cond _ rfl (fun ht13 => ?_) (fun ht13 => ?_)
  ·(try simp only [cmpI, errD_nil, qa, qb, qc, qd] at ht13)
   refine awp_seq ?_
   refine awp_draw hmix rfl (by kernel_rfl) ?_
   refine dP (fun _ => false) (opp_mv (v := .ptr _ _ _) rfl rfl) rfl rfl ?_
   refine dP (fun _ => false) (opp_nilCheckP rfl rfl) rfl rfl ?_
   refine dP (fun _ => false) (opp_fieldP rfl rfl fld139_1 rfl) rfl rfl ?_
   refine dP (fun n => Nat.beq n 1) (opp_loadP rfl rfl rfl rfl bi rfl ty3) rfl rfl ?_
   refine dP (fun _ => false) (opp_loadF rfl (ev_glob hG2) ty35) rfl rfl ?_
   refine dR (fun n => !([] : List Nat).contains n) (opr_call rfl rfl ent78 rfl (c78 _ _) (AViews.refl _ rfl)) rfl rfl rfl ?_ -- d=19 t=35 a=17,18
   refine dP (fun _ => false) (opp_as (v := .sl _ _ _ _) rfl rfl) rfl rfl ?_
   refine dP (fun _ => false) (opp_as (v := .err _) rfl rfl) rfl rfl ?_
   refine And.intro (by kernel_rfl) ?_
   refine awp_ret ?_
   repeat (first | refine athen_ret ?_ | refine ain_ret ?_)
   refine gpost_ret (gends (l := [.sl _ _ _ _, .err _]) true (.tmp (.tmp .nil)) (fun h => by cases h) (.cons shut (fun h => by cases h) (.cons shut (fun h => by cases h) .nil)) rfl ?_ rfl (And.intro (Exists.intro _ (Exists.intro _ (And.intro rfl (And.intro shut (And.intro (fun h => by cases h) (And.intro ?_ rfl)))))) True.intro))
   ·exact .refl
   ·exact .refl
  ·(try simp only [cmpI, errD_nil, qa, qb, qc, qd] at ht13)
   exfalso; simp [cmpI] at ht13; omega
def endE (l : List UInt8) (a : Nat) : Er := if a = l.length then Sp.e0 else Sp.ea 2 a
theorem endE_code (l : List UInt8) (a : Nat) : decide ((endE l a).code = 0) = decide (a = l.length) := by
  unfold endE
  by_cases h : a = l.length
  · rw [if_pos h]; simp [Sp.e0, h]
  · rw [if_neg h]; simp [Sp.ea, h]
theorem cg77x (l : List UInt8) (a : Nat) (hl : a ≤ l.length) (h0 : l.length ≤ 140737488355328) (hG3 : gl 3 = some (.err (.code 2))) : AGen (V ea cds gl) 77 [.ptr 1 [] 0] [(1, some (.agg [.sl 1 false l.length (bAt l), .int .i64 (a : Int), .int .i64 (l.length : Int)]))]
    (.err (endE l a).d) [(1, some (.agg [.sl 1 false l.length (bAt l), .int .i64 (a : Int), .int .i64 (l.length : Int)]))] := by
  unfold endE
  by_cases h : a = l.length
  · subst h; rw [if_pos rfl]; exact cg77c l l.length hl h0
  · rw [if_neg h]; exact cg77r l a l.length (by omega) (Nat.le_refl _) h0 hG3
theorem c54 (b : List UInt8) (nn : Bool) (h0 : b.length ≤ 1099511627776) : APure (V ea cds gl) 54 [.sl 1 nn b.length (bAt b)] false (rowV 1 (Sp.nums b).length (natAt (Sp.nums b))) := by
 refine acalls_of_body (N := 19) Tryd.func54 rfl rfl (Nat.le_of_ble_eq_true rfl) fun C hV hN hM hO => ?_
 obtain ⟨_, _, w0, G0, σ0, _, own0⟩ := C; dsimp only at hV hN hM hO; subst hV; subst hN; subst hM
 refine awp_seq (awp_region rfl ?_)
 refine sP (opp_as (v := .sl _ _ _ _) rfl rfl) rfl rfl ?_
 refine awp_seq (awp_region rfl ?_)
 refine sP (opp_as (v := .sl _ _ _ _) rfl rfl) rfl rfl ?_
 refine awp_seq (awp_seq (awp_region rfl ?_))
 refine sP (opp_mv (v := .sl _ _ _ _) rfl rfl) rfl rfl ?_
 refine sP (opp_lenSl rfl rfl un38) rfl rfl ?_
 refine sP (opp_mv (v := .int _ _) rfl rfl) rfl rfl ?_
 refine awp_block ?_
 refine awp_loopK (ι := Nat × Bool) (fun p => p.1 ≤ b.length ∧ (p.2 = true ↔ p.1 = 0)) (fun p => [(3, cond p.2 (.sl 1 true 0 (fun _ => .top)) (.osl 1004 1 0 p.1 p.1)), (5, .top), (8, .int .i64 (p.1 : Int)), (9, .top), (10, .top), (11, .top), (12, .top), (13, .top), (14, .top), (15, .top), (16, .top), (17, .top)]) (fun p => [(1004, cond p.2 none (some (.arr 1 p.1 (natAt (Sp.nums b)))))]) [1004] (fun p => b.length - p.1) ((0, true)) (⟨Nat.zero_le _, by simp⟩) (by
  refine imp_over [] rfl rfl (by kernel_rfl) ?_ ?_
  ·iterate 12 refine And.intro wkv ?_
   exact True.intro
  ·exact True.intro
  ) ?_
 intro p hi1; obtain ⟨i, e⟩ := p; rcases e with _ | _
 ·dsimp only [cond] at hi1 ⊢
  refine awp_seq (awp_region rfl ?_)
  refine sP (opp_cmp rfl rfl rfl rfl) rfl rfl ?_
  refine awp_seq ?_
  refine awp_cond _ rfl (fun ht9 => ?_) (fun ht9 => ?_)
  ·(try simp only [cmpI, errD_nil, qa, qb, qc, qd] at ht9)
   refine awp_skip (awp_seq (awp_block (awp_seq (awp_region rfl ?_))))
   refine sP (opp_indexSl rfl rfl rfl el38 (by omega) (by omega)) rfl rfl ?_
   refine sP (opp_loadF rfl rfl ty5) rfl rfl ?_
   refine sP (opp_as (v := .int _ _) rfl rfl) rfl rfl ?_
   have hby := (b.getD i 0).toNat_lt
   have hna : natAt (Sp.nums b) i = .int .i64 ((b.getD i 0).toNat : Int) := by simp [natAt, Sp.nums, List.getD_eq_getElem?_getD, List.getElem?_map]; rw [List.getElem?_eq_getElem (show i < b.length by omega)]; rfl
   refine awp_region rfl ?_
   refine sP (opp_mv (v := .osl _ _ _ _ _) rfl rfl) rfl rfl ?_
   refine sP (opp_mv (v := .int _ _) rfl rfl) rfl rfl ?_
   refine sP (opp_convInt rfl rfl un5s un3 rfl) rfl rfl ?_
   refine sR (opr_buildSlice (n := 15) (g := fun j => if j = 0 then .int _ _ else .int .i64 0) rfl eb27 z3 (by decide) rfl rfl) rfl rfl rfl ?_
   refine sR (opr_append (d := 16) rfl rfl rfl (by omega) (.osl0 rfl (by omega)) eb27 z3 (by omega) (by omega)) rfl rfl rfl ?_
   refine sP (opp_as (v := .osl _ _ _ _ _) rfl rfl) rfl rfl ?_
   refine awp_region rfl ?_
   refine sP (opp_arith rfl rfl rfl (.inl ⟨rfl, w64 (by omega)⟩)) rfl rfl ?_
   refine sP (opp_mv (v := .int _ _) rfl rfl) rfl rfl ?_
   refine Exists.intro ((i + 1, false)) (And.intro (And.intro (And.intro (by show i + 1 ≤ _; omega) (by simp)) (by first | omega | (dsimp only; omega))) (by
    refine imp_over [(1004, 16)] rfl rfl (by kernel_rfl) ?_ ?_
    ·refine And.intro (by exact Or.inr (And.intro rfl (WkV.of (by show AV.osl 16 1 0 _ _ = AV.osl 16 1 0 _ _; simp)))) ?_
     iterate 11 refine And.intro wkv ?_
     exact True.intro
    ·refine And.intro (And.intro rfl (And.intro rfl (Exists.intro _ (And.intro rfl (by show WkC (AV.arr 1 _ _) (AV.arr 1 _ _); exact WkC.arr (fun j hj => by by_cases h : j < i; rw [if_pos h]; rw [if_neg h, show j = i by omega, if_pos (by omega), hna]; show AV.int IntKind.i64 (IntKind.i64.wrap ((b.getD i 0).toNat : Int)) = _; rw [w64 (by omega)])))))) ?_
     exact True.intro
    ))
  ·(try simp only [cmpI, errD_nil, qa, qb, qc, qd] at ht9)
   refine awp_exit (awp_seq (awp_region rfl ?_))
   refine sP (opp_mv (v := .osl _ _ _ _ _) rfl rfl) rfl rfl ?_
   refine sP (opp_as (v := .osl _ _ _ _ _) rfl rfl) rfl rfl ?_
   refine awp_ret ?_
   repeat (first | refine athen_ret ?_ | refine ain_ret ?_)
   refine apost_ret (aend1s (r0 := .osl _ _ _ _ _) (.tmp .nil) shut rfl ⟨Wk.v ?_, rfl, rfl⟩)
   have hie : i = b.length := by omega
   subst hie; have hne : b.length ≠ 0 := fun h => by simp [h] at hi1
   have hln : (Sp.nums b).length = b.length := by simp [Sp.nums]
   rw [rowV, hln, show decide (b.length = 0) = false by simpa using hne]; exact .refl
 ·dsimp only [cond] at hi1 ⊢
  refine awp_seq (awp_region rfl ?_)
  refine sP (opp_cmp rfl rfl rfl rfl) rfl rfl ?_
  refine awp_seq ?_
  refine awp_cond _ rfl (fun ht9 => ?_) (fun ht9 => ?_)
  ·(try simp only [cmpI, errD_nil, qa, qb, qc, qd] at ht9)
   refine awp_skip (awp_seq (awp_block (awp_seq (awp_region rfl ?_))))
   refine sP (opp_indexSl rfl rfl rfl el38 (by omega) (by omega)) rfl rfl ?_
   refine sP (opp_loadF rfl rfl ty5) rfl rfl ?_
   refine sP (opp_as (v := .int _ _) rfl rfl) rfl rfl ?_
   have hby := (b.getD i 0).toNat_lt
   have hna : natAt (Sp.nums b) i = .int .i64 ((b.getD i 0).toNat : Int) := by simp [natAt, Sp.nums, List.getD_eq_getElem?_getD, List.getElem?_map]; rw [List.getElem?_eq_getElem (show i < b.length by omega)]; rfl
   refine awp_region rfl ?_
   refine sP (opp_mv (v := .sl _ _ _ _) rfl rfl) rfl rfl ?_
   refine sP (opp_mv (v := .int _ _) rfl rfl) rfl rfl ?_
   refine sP (opp_convInt rfl rfl un5s un3 rfl) rfl rfl ?_
   refine sR (opr_buildSlice (n := 15) (g := fun j => if j = 0 then .int _ _ else .int .i64 0) rfl eb27 z3 (by decide) rfl rfl) rfl rfl rfl ?_
   refine sR (opr_appendNil (d := 16) rfl rfl (.osl0 rfl (by omega)) eb27 z3 (by omega) (by omega) (by omega)) rfl rfl rfl ?_
   refine sP (opp_as (v := .osl _ _ _ _ _) rfl rfl) rfl rfl ?_
   refine awp_region rfl ?_
   refine sP (opp_arith rfl rfl rfl (.inl ⟨rfl, w64 (by omega)⟩)) rfl rfl ?_
   refine sP (opp_mv (v := .int _ _) rfl rfl) rfl rfl ?_
   have hi0 : i = 0 := hi1.2.1 rfl
   refine Exists.intro ((i + 1, false)) (And.intro (And.intro (And.intro (by show i + 1 ≤ _; omega) (by simp)) (by first | omega | (dsimp only; omega))) (by
    refine imp_over [(1004, 16)] rfl rfl (by kernel_rfl) ?_ ?_
    ·refine And.intro (by exact Or.inr (And.intro rfl (WkV.of (by show AV.osl 16 1 0 _ _ = AV.osl 16 1 0 _ _; rw [hi0])))) ?_
     iterate 11 refine And.intro wkv ?_
     exact True.intro
    ·refine And.intro (And.intro rfl (And.intro rfl (Exists.intro _ (And.intro rfl (by show WkC (AV.arr 1 _ _) (AV.arr 1 _ _); subst hi0; exact WkC.arr (fun j hj => by rw [show j = 0 by omega, hna]; show AV.int IntKind.i64 (IntKind.i64.wrap ((b.getD 0 0).toNat : Int)) = _; rw [w64 (by omega)])))))) ?_
     exact True.intro
    ))
  ·(try simp only [cmpI, errD_nil, qa, qb, qc, qd] at ht9)
   refine awp_exit (awp_seq (awp_region rfl ?_))
   refine sP (opp_mv (v := .sl _ _ _ _) rfl rfl) rfl rfl ?_
   refine sP (opp_as (v := .sl _ _ _ _) rfl rfl) rfl rfl ?_
   refine awp_ret ?_
   repeat (first | refine athen_ret ?_ | refine ain_ret ?_)
   refine apost_ret (aend1 (r0 := .sl _ _ _ _) (.tmp .nil) (.noN rfl rfl) ⟨Wk.v ?_, rfl, rfl⟩)
   have hi0 : i = 0 := hi1.2.1 rfl
   have hie : b.length = 0 := by omega
   have hln : (Sp.nums b).length = 0 := by simp [Sp.nums, hie]
   rw [rowV, hln]; exact .sl0
theorem cA52 (b : List UInt8) (hA : b.length < 1) (hG2 : gl 2 = some (.err (.code 1))) : APure (V ea cds gl) 52 [.sl 1 false b.length (bAt b)] false (.tup [ptAV ⟨[], 0⟩, .bool false]) := by
 refine acalls_of_body (N := 64) Tryd.func52 rfl rfl (Nat.le_of_ble_eq_true rfl) fun C hV hN hM hO => ?_
 obtain ⟨_, _, w0, G0, σ0, _, own0⟩ := C; dsimp only at hV hN hM hO; subst hV; subst hN; subst hM
 refine awp_seq (awp_region rfl ?_)
 refine sR (opr_alloc (n := 2) rfl z70) rfl rfl rfl ?_
 refine sP (opp_as (v := .bool _) rfl rfl) rfl rfl ?_
 refine awp_seq (awp_region rfl ?_)
 refine sP (opp_mv (v := .sl _ _ _ _) rfl rfl) rfl rfl ?_
 refine sR (opr_callO (rl := [(8, 13)]) (r1 := .ptr _ _ _) (H1 := [(13, some (.agg [.sl _ _ _ _, .int _ _, .int _ _]))]) (n1 := [13]) rfl rfl ent45 rfl (co45 b (by omega)) (AViews.refl _ rfl) rfl rfl rfl rfl) rfl rfl rfl ?_
 refine sP (opp_as (v := .ptr _ _ _) rfl rfl) rfl rfl ?_
 refine awp_seq (awp_region rfl ?_)
 refine sR (opr_alloc (n := 5) rfl z70) rfl rfl rfl ?_
 refine awp_seq (awp_region rfl ?_)
 refine sP (opp_mv (v := .ptr _ _ _) rfl rfl) rfl rfl ?_
 refine sR (opr_callG (rl := [(1, 13)]) (r1 := .tup [.int _ _, .err _]) (H1 := [(13, some (.agg [.sl _ _ _ _, .int _ _, .int _ _]))]) (n1 := []) rfl rfl ent56 (cg56s b 0 (by omega) (by omega) hG2) (And.intro (And.intro rfl wka) True.intro) (And.intro (And.intro rfl (Exists.intro _ (And.intro rfl wkc))) True.intro) rfl rfl rfl rfl) rfl rfl rfl ?_
 refine sP (opp_mv (v := .tup _) rfl rfl) rfl rfl ?_
 refine sP (opp_extract rfl rfl rfl) rfl rfl ?_
 refine sP (opp_extract rfl rfl rfl) rfl rfl ?_
 refine sP (opp_as (v := .int _ _) rfl rfl) rfl rfl ?_
 refine sP (opp_as (v := .err _) rfl rfl) rfl rfl ?_
 refine awp_seq (awp_seq (awp_region rfl ?_))
 refine sP (opp_mv (v := .err _) rfl rfl) rfl rfl ?_
 refine sP (opp_errNil rfl rfl rfl un35 (.inr ⟨rfl, rfl⟩)) rfl rfl ?_
 refine awp_cond _ rfl (fun ht20 => ?_) (fun ht20 => ?_)
 ·(try simp only [cmpI, errD_nil, qa, qb, qc, qd] at ht20)
  refine awp_seq (awp_region rfl ?_)
  refine sP (opp_loadP rfl rfl rfl rfl bi rfl ty70) rfl rfl ?_
  refine sR0 (opr_store (v := .agg _) (trn := (.agg _)) rfl rfl rfl rfl bi rfl rfl rfl rfl fr2 ty70 (fun _ _ h => h)) rfl rfl rfl ?_
  refine sP (opp_as (v := .bool _) rfl rfl) rfl rfl ?_
  refine awp_ret ?_
  repeat (first | refine athen_ret ?_ | refine ain_ret ?_)
  refine apost_ret (aend (l := [.agg _, .bool _]) (.cell rfl rfl rfl (by exact True.intro) rfl ty70 (.tmp .nil)) (fun h => by cases h) (.cons (.noN rfl rfl) (.cons (.noN rfl rfl) .nil)) ⟨Wk.v ?_, rfl, rfl⟩)
  exact .tup (.cons (.agg (.cons .sl0 (.cons .refl .nil))) (.cons .refl .nil))
 ·(try simp only [cmpI, errD_nil, qa, qb, qc, qd] at ht20)
  exfalso; simp [ErrD.isNil] at ht20
theorem cB52 (b : List UInt8) (hA : ¬ b.length < 1) (hB : b.length < 2) (hG2 : gl 2 = some (.err (.code 1))) : APure (V ea cds gl) 52 [.sl 1 false b.length (bAt b)] false (.tup [ptAV ⟨[], 0⟩, .bool false]) := by
 refine acalls_of_body (N := 64) Tryd.func52 rfl rfl (Nat.le_of_ble_eq_true rfl) fun C hV hN hM hO => ?_
 obtain ⟨_, _, w0, G0, σ0, _, own0⟩ := C; dsimp only at hV hN hM hO; subst hV; subst hN; subst hM
 refine awp_seq (awp_region rfl ?_)
 refine sR (opr_alloc (n := 2) rfl z70) rfl rfl rfl ?_
 refine sP (opp_as (v := .bool _) rfl rfl) rfl rfl ?_
 refine awp_seq (awp_region rfl ?_)
 refine sP (opp_mv (v := .sl _ _ _ _) rfl rfl) rfl rfl ?_
 refine sR (opr_callO (rl := [(8, 13)]) (r1 := .ptr _ _ _) (H1 := [(13, some (.agg [.sl _ _ _ _, .int _ _, .int _ _]))]) (n1 := [13]) rfl rfl ent45 rfl (co45 b (by omega)) (AViews.refl _ rfl) rfl rfl rfl rfl) rfl rfl rfl ?_
 refine sP (opp_as (v := .ptr _ _ _) rfl rfl) rfl rfl ?_
 refine awp_seq (awp_region rfl ?_)
 refine sR (opr_alloc (n := 5) rfl z70) rfl rfl rfl ?_
 refine awp_seq (awp_region rfl ?_)
 refine sP (opp_mv (v := .ptr _ _ _) rfl rfl) rfl rfl ?_
 refine sR (opr_callG (rl := [(1, 13)]) (r1 := .tup [.int _ _, .err _]) (H1 := [(13, some (.agg [.sl _ _ _ _, .int _ _, .int _ _]))]) (n1 := []) rfl rfl ent56 (cg56c b false 0 b.length (by omega) (by omega) (by omega)) (And.intro (And.intro rfl wka) True.intro) (And.intro (And.intro rfl (Exists.intro _ (And.intro rfl wkc))) True.intro) rfl rfl rfl rfl) rfl rfl rfl ?_
 refine sP (opp_mv (v := .tup _) rfl rfl) rfl rfl ?_
 refine sP (opp_extract rfl rfl rfl) rfl rfl ?_
 refine sP (opp_extract rfl rfl rfl) rfl rfl ?_
 refine sP (opp_as (v := .int _ _) rfl rfl) rfl rfl ?_
 refine sP (opp_as (v := .err _) rfl rfl) rfl rfl ?_
 refine awp_seq (awp_seq (awp_region rfl ?_))
 refine sP (opp_mv (v := .err _) rfl rfl) rfl rfl ?_
 refine sP (opp_errNil rfl rfl rfl un35 (.inr ⟨rfl, rfl⟩)) rfl rfl ?_
 refine awp_cond _ rfl (fun ht20 => ?_) (fun ht20 => ?_)
 ·(try simp only [cmpI, errD_nil, qa, qb, qc, qd] at ht20)
  exfalso; simp [ErrD.isNil] at ht20
 ·(try simp only [cmpI, errD_nil, qa, qb, qc, qd] at ht20)
  refine awp_skip (awp_seq (awp_region rfl ?_))
  refine sP (opp_mv (v := .ptr _ _ _) rfl rfl) rfl rfl ?_
  refine sR (opr_callG (rl := [(1, 13)]) (r1 := .tup [.int _ _, .err _]) (H1 := [(13, some (.agg [.sl _ _ _ _, .int _ _, .int _ _]))]) (n1 := []) rfl rfl ent56 (cg56s b 1 (by omega) (by omega) hG2) (And.intro (And.intro rfl wka) True.intro) (And.intro (And.intro rfl (Exists.intro _ (And.intro rfl wkc))) True.intro) rfl rfl rfl rfl) rfl rfl rfl ?_
  refine sP (opp_mv (v := .tup _) rfl rfl) rfl rfl ?_
  refine sP (opp_extract rfl rfl rfl) rfl rfl ?_
  refine sP (opp_extract rfl rfl rfl) rfl rfl ?_
  refine sP (opp_as (v := .int _ _) rfl rfl) rfl rfl ?_
  refine sP (opp_as (v := .err _) rfl rfl) rfl rfl ?_
  refine awp_seq (awp_seq (awp_region rfl ?_))
  refine sP (opp_mv (v := .err _) rfl rfl) rfl rfl ?_
  refine sP (opp_errNil rfl rfl rfl un35 (.inr ⟨rfl, rfl⟩)) rfl rfl ?_
  refine awp_cond _ rfl (fun ht28 => ?_) (fun ht28 => ?_)
  ·(try simp only [cmpI, errD_nil, qa, qb, qc, qd] at ht28)
   refine awp_seq (awp_region rfl ?_)
   refine sP (opp_loadP rfl rfl rfl rfl bi rfl ty70) rfl rfl ?_
   refine sR0 (opr_store (v := .agg _) (trn := (.agg _)) rfl rfl rfl rfl bi rfl rfl rfl rfl fr2 ty70 (fun _ _ h => h)) rfl rfl rfl ?_
   refine sP (opp_as (v := .bool _) rfl rfl) rfl rfl ?_
   refine awp_ret ?_
   repeat (first | refine athen_ret ?_ | refine ain_ret ?_)
   refine apost_ret (aend (l := [.agg _, .bool _]) (.cell rfl rfl rfl (by exact True.intro) rfl ty70 (.tmp .nil)) (fun h => by cases h) (.cons (.noN rfl rfl) (.cons (.noN rfl rfl) .nil)) ⟨Wk.v ?_, rfl, rfl⟩)
   exact .tup (.cons (.agg (.cons .sl0 (.cons .refl .nil))) (.cons .refl .nil))
  ·(try simp only [cmpI, errD_nil, qa, qb, qc, qd] at ht28)
   exfalso; simp [ErrD.isNil] at ht28
def mstr (acc : List (List UInt8)) (x : List UInt8) (j : Nat) : AV := if j < acc.length then strAt acc j else if j - acc.length = 0 then .str x else .str []
theorem mstr_eq (acc : List (List UInt8)) (x : List UInt8) (j : Nat) (hj : j < acc.length + 1) : mstr acc x j = strAt (acc ++ [x]) j := by
  unfold mstr
  simp only [strAt, List.getD_eq_getElem?_getD, List.getElem?_append]
  by_cases h : j < acc.length
  · rw [if_pos h, if_pos h]
  · rw [if_neg h, if_neg h, if_pos (by omega), show j - acc.length = 0 by omega]; rfl
theorem cC52 (b : List UInt8) (hB : 2 ≤ b.length) (h0 : b.length ≤ 1099511627776) (hG2 : gl 2 = some (.err (.code 1))) (hG3 : gl 3 = some (.err (.code 2))) :
  APure (V ea cds gl) 52 [.sl 1 false b.length (bAt b)] false (.tup [ptAV ⟨(Sp.msgsQ b (Sp.fld b 1 1) 2 []).1, Sp.fld b 0 1⟩, .bool (Sp.msgsQ b (Sp.fld b 1 1) 2 []).2]) := by
 have hf0 := fld_lt b 0 1
 have hf1 := fld_lt b 1 1
 refine acalls_of_body (N := 64) Tryd.func52 rfl rfl (Nat.le_of_ble_eq_true rfl) fun C hV hN hM hO => ?_
 obtain ⟨_, _, w0, G0, σ0, _, own0⟩ := C; dsimp only at hV hN hM hO; subst hV; subst hN; subst hM
 refine awp_seq (awp_region rfl ?_)
 refine sR (opr_alloc (n := 2) rfl z70) rfl rfl rfl ?_
 refine sP (opp_as (v := .bool _) rfl rfl) rfl rfl ?_
 refine awp_seq (awp_region rfl ?_)
 refine sP (opp_mv (v := .sl _ _ _ _) rfl rfl) rfl rfl ?_
 refine sR (opr_callO (rl := [(8, 13)]) (r1 := .ptr _ _ _) (H1 := [(13, some (.agg [.sl _ _ _ _, .int _ _, .int _ _]))]) (n1 := [13]) rfl rfl ent45 rfl (co45 b (by omega)) (AViews.refl _ rfl) rfl rfl rfl rfl) rfl rfl rfl ?_
 refine sP (opp_as (v := .ptr _ _ _) rfl rfl) rfl rfl ?_
 refine awp_seq (awp_region rfl ?_)
 refine sR (opr_alloc (n := 5) rfl z70) rfl rfl rfl ?_
 refine awp_seq (awp_region rfl ?_)
 refine sP (opp_mv (v := .ptr _ _ _) rfl rfl) rfl rfl ?_
 refine sR (opr_callG (rl := [(1, 13)]) (r1 := .tup [.int _ _, .err _]) (H1 := [(13, some (.agg [.sl _ _ _ _, .int _ _, .int _ _]))]) (n1 := []) rfl rfl ent56 (cg56c b false 0 b.length (by omega) (by omega) (by omega)) (And.intro (And.intro rfl wka) True.intro) (And.intro (And.intro rfl (Exists.intro _ (And.intro rfl wkc))) True.intro) rfl rfl rfl rfl) rfl rfl rfl ?_
 refine sP (opp_mv (v := .tup _) rfl rfl) rfl rfl ?_
 refine sP (opp_extract rfl rfl rfl) rfl rfl ?_
 refine sP (opp_extract rfl rfl rfl) rfl rfl ?_
 refine sP (opp_as (v := .int _ _) rfl rfl) rfl rfl ?_
 refine sP (opp_as (v := .err _) rfl rfl) rfl rfl ?_
 refine awp_seq (awp_seq (awp_region rfl ?_))
 refine sP (opp_mv (v := .err _) rfl rfl) rfl rfl ?_
 refine sP (opp_errNil rfl rfl rfl un35 (.inr ⟨rfl, rfl⟩)) rfl rfl ?_
 refine awp_cond _ rfl (fun ht20 => ?_) (fun ht20 => ?_)
 ·(try simp only [cmpI, errD_nil, qa, qb, qc, qd] at ht20)
  exfalso; simp [ErrD.isNil] at ht20
 ·(try simp only [cmpI, errD_nil, qa, qb, qc, qd] at ht20)
  refine awp_skip (awp_seq (awp_region rfl ?_))
  refine sP (opp_mv (v := .ptr _ _ _) rfl rfl) rfl rfl ?_
  refine sR (opr_callG (rl := [(1, 13)]) (r1 := .tup [.int _ _, .err _]) (H1 := [(13, some (.agg [.sl _ _ _ _, .int _ _, .int _ _]))]) (n1 := []) rfl rfl ent56 (cg56c b false 1 b.length (by omega) (by omega) (by omega)) (And.intro (And.intro rfl wka) True.intro) (And.intro (And.intro rfl (Exists.intro _ (And.intro rfl wkc))) True.intro) rfl rfl rfl rfl) rfl rfl rfl ?_
  refine sP (opp_mv (v := .tup _) rfl rfl) rfl rfl ?_
  refine sP (opp_extract rfl rfl rfl) rfl rfl ?_
  refine sP (opp_extract rfl rfl rfl) rfl rfl ?_
  refine sP (opp_as (v := .int _ _) rfl rfl) rfl rfl ?_
  refine sP (opp_as (v := .err _) rfl rfl) rfl rfl ?_
  refine awp_seq (awp_seq (awp_region rfl ?_))
  refine sP (opp_mv (v := .err _) rfl rfl) rfl rfl ?_
  refine sP (opp_errNil rfl rfl rfl un35 (.inr ⟨rfl, rfl⟩)) rfl rfl ?_
  refine awp_cond _ rfl (fun ht28 => ?_) (fun ht28 => ?_)
  ·(try simp only [cmpI, errD_nil, qa, qb, qc, qd] at ht28)
   exfalso; simp [ErrD.isNil] at ht28
  ·(try simp only [cmpI, errD_nil, qa, qb, qc, qd] at ht28)
   refine awp_skip (awp_seq (awp_region rfl ?_))
   refine sP (opp_mv (v := .int _ _) rfl rfl) rfl rfl ?_
   refine sP (opp_fieldP rfl rfl fld70_1 rfl) rfl rfl ?_
   refine sR0 (opr_store (v := .int _ _) (trn := (.agg [_, .int _ _])) rfl rfl rfl rfl bi rfl rfl rfl rfl fr2 ty3 (fun _ _ h => h)) rfl rfl rfl ?_
   refine awp_seq (awp_seq (awp_region rfl ?_))
   refine sP (opp_mv (v := .int _ _) rfl rfl) rfl rfl ?_
   refine sP (opp_mv (v := .int _ _) rfl rfl) rfl rfl ?_
   refine awp_block ?_
   refine awp_loopK (ι := Nat × Nat × List (List UInt8) × Bool) (fun p => p.1 ≤ Sp.fld b 1 1 ∧ p.2.1 ≤ b.length ∧ p.2.2.1.length ≤ 255 ∧ p.2.2.1.length = p.1 ∧ Sp.msgsQ b (Sp.fld b 1 1 - p.1) p.2.1 p.2.2.1 = Sp.msgsQ b (Sp.fld b 1 1) 2 [] ∧ (p.2.2.2 = true ↔ p.2.2.1 = [])) (fun p => [(3, .top), (9, .top), (10, .top), (11, .top), (33, .int .i64 (p.1 : Int)), (34, .top), (35, .top), (36, .top), (37, .top), (38, .top), (39, .top), (40, .top), (41, .top), (42, .top), (43, .top), (44, .top), (45, .top), (46, .top), (47, .top), (48, .top), (49, .top), (50, .top), (51, .top), (52, .top), (53, .top), (54, .top), (55, .top), (56, .top), (57, .top), (58, .top), (59, .top)]) (fun p => [(13, some (.agg [.sl 1 false b.length (bAt b), .int .i64 (p.2.1 : Int), .int .i64 (b.length : Int)])), (5, some (.agg [cond p.2.2.2 (.sl 1 true 0 (fun _ => .top)) (.osl 1004 1 0 p.2.2.1.length p.2.2.1.length), .int .i64 (Sp.fld b 0 1 : Nat)])), (1004, cond p.2.2.2 none (some (.arr 1 p.2.2.1.length (strAt p.2.2.1))))]) [1004] (fun p => Sp.fld b 1 1 - p.1) ((0, 2, [], true)) (⟨Nat.zero_le _, hB, by simp, rfl, rfl, by simp⟩) (by
    refine imp_over [] rfl rfl (by kernel_rfl) ?_ ?_
    ·iterate 31 refine And.intro wkv ?_
     exact True.intro
    ·refine And.intro (And.intro rfl (And.intro rfl (Exists.intro _ (And.intro rfl wkc)))) ?_
     refine And.intro (And.intro rfl (And.intro rfl (Exists.intro _ (And.intro rfl wkc)))) ?_
     exact True.intro
    ) ?_
   intro p hi1; obtain ⟨i, a, acc, e⟩ := p; by_cases hU : b.length ≤ a; rotate_left; by_cases hR : b.length < a + 1 + Sp.fld b a 1; rotate_left; all_goals (have hfa := fld_lt b a 1); all_goals rcases e with _ | _
   ·dsimp only [cond] at hi1 ⊢
    refine awp_seq (awp_region rfl ?_)
    refine sP (opp_cmp rfl rfl rfl rfl) rfl rfl ?_
    refine awp_seq ?_
    refine awp_cond _ rfl (fun ht34 => ?_) (fun ht34 => ?_)
    ·(try simp only [cmpI, errD_nil, qa, qb, qc, qd] at ht34)
     refine awp_skip (awp_seq (awp_block (awp_seq (awp_region rfl ?_))))
     refine sP (opp_mv (v := .ptr _ _ _) rfl rfl) rfl rfl ?_
     refine sR (opr_callG (rl := [(1, 13)]) (r1 := .tup [.int _ _, .err _]) (H1 := [(13, some (.agg [.sl _ _ _ _, .int _ _, .int _ _]))]) (n1 := []) rfl rfl ent56 (cg56c b false a b.length (by omega) (by omega) (by omega)) (And.intro (And.intro rfl wka) True.intro) (And.intro (And.intro rfl (Exists.intro _ (And.intro rfl wkc))) True.intro) rfl rfl rfl rfl) rfl rfl rfl ?_
     refine sP (opp_mv (v := .tup _) rfl rfl) rfl rfl ?_
     refine sP (opp_extract rfl rfl rfl) rfl rfl ?_
     refine sP (opp_extract rfl rfl rfl) rfl rfl ?_
     refine sP (opp_as (v := .int _ _) rfl rfl) rfl rfl ?_
     refine sP (opp_as (v := .err _) rfl rfl) rfl rfl ?_
     refine awp_seq (awp_seq (awp_region rfl ?_))
     refine sP (opp_mv (v := .err _) rfl rfl) rfl rfl ?_
     refine sP (opp_errNil rfl rfl rfl un35 (.inr ⟨rfl, rfl⟩)) rfl rfl ?_
     refine awp_cond _ rfl (fun ht41 => ?_) (fun ht41 => ?_)
     ·(try simp only [cmpI, errD_nil, qa, qb, qc, qd] at ht41)
      exfalso; simp [ErrD.isNil] at ht41
     ·(try simp only [cmpI, errD_nil, qa, qb, qc, qd] at ht41)
      refine awp_skip (awp_seq (awp_region rfl ?_))
      refine sP (opp_mv (v := .ptr _ _ _) rfl rfl) rfl rfl ?_
      refine sP (opp_mv (v := .int _ _) rfl rfl) rfl rfl ?_
      refine sR (opr_callG (rl := [(1, 13)]) (r1 := .tup [.sl _ _ _ _, .err _]) (H1 := [(13, some (.agg [.sl _ _ _ _, .int _ _, .int _ _]))]) (n1 := []) rfl rfl ent76 (cg76c b (a + 1) b.length (Sp.fld b a 1) (by omega) (by omega) (by omega)) (And.intro (And.intro rfl wka) (And.intro (And.intro rfl wka) True.intro)) (And.intro (And.intro rfl (Exists.intro _ (And.intro rfl wkc))) True.intro) rfl rfl rfl rfl) rfl rfl rfl ?_
      refine sP (opp_mv (v := .tup _) rfl rfl) rfl rfl ?_
      refine sP (opp_extract rfl rfl rfl) rfl rfl ?_
      refine sP (opp_extract rfl rfl rfl) rfl rfl ?_
      refine sP (opp_as (v := .sl _ _ _ _) rfl rfl) rfl rfl ?_
      refine sP (opp_as (v := .err _) rfl rfl) rfl rfl ?_
      refine awp_seq (awp_seq (awp_region rfl ?_))
      refine sP (opp_mv (v := .err _) rfl rfl) rfl rfl ?_
      refine sP (opp_errNil rfl rfl rfl un35 (.inr ⟨rfl, rfl⟩)) rfl rfl ?_
      refine awp_cond _ rfl (fun ht50 => ?_) (fun ht50 => ?_)
      ·(try simp only [cmpI, errD_nil, qa, qb, qc, qd] at ht50)
       exfalso; simp [ErrD.isNil] at ht50
      ·(try simp only [cmpI, errD_nil, qa, qb, qc, qd] at ht50)
       refine awp_skip (awp_region rfl ?_)
       refine sP (opp_fieldP rfl rfl fld70_0 rfl) rfl rfl ?_
       refine sP (opp_loadP rfl rfl rfl rfl bi rfl ty68) rfl rfl ?_
       refine sP (opp_mv (v := .sl _ _ _ _) rfl rfl) rfl rfl ?_
       refine sP (opp_bytesStr rfl rfl _ rfl (fun j hj => rfl) un38 unu8 un9) rfl rfl ?_
       refine sR (opr_buildSlice (n := 56) (g := fun j => if j = 0 then .str _ else .str []) rfl eb68 z9 (by decide) rfl rfl) rfl rfl rfl ?_
       refine sR (opr_append (d := 57) rfl rfl rfl (by omega) (.osl0 rfl (by omega)) eb68 z9 (by omega) (by omega)) rfl rfl rfl ?_
       refine sP (opp_fieldP rfl rfl fld70_0 rfl) rfl rfl ?_
       refine sR0 (opr_store (v := .osl _ _ _ _ _) (trn := (.agg [.osl _ _ _ _ _, _])) rfl rfl rfl rfl bi rfl rfl rfl rfl fr2 ty68 (fun _ _ h => h)) rfl rfl rfl ?_
       refine awp_region rfl ?_
       refine sP (opp_arith rfl rfl rfl (.inl ⟨rfl, w64 (by omega)⟩)) rfl rfl ?_
       refine sP (opp_mv (v := .int _ _) rfl rfl) rfl rfl ?_
       have hq : Sp.msgsQ b (Sp.fld b 1 1 - i) a acc = Sp.msgsQ b (Sp.fld b 1 1 - (i + 1)) (a + 1 + Sp.fld b a 1) (acc ++ [(b.drop (a + 1)).take (Sp.fld b a 1)]) := by rw [show Sp.fld b 1 1 - i = (Sp.fld b 1 1 - (i + 1)) + 1 by omega, Sp.msgsQ, if_neg hU, if_neg hR]
       refine Exists.intro ((i + 1, a + 1 + Sp.fld b a 1, acc ++ [(b.drop (a + 1)).take (Sp.fld b a 1)], false)) (And.intro (And.intro (And.intro (by show i + 1 ≤ _; omega) (And.intro (by show a + 1 + Sp.fld b a 1 ≤ _; omega) (And.intro (by simp; omega) (And.intro (by simp; omega) (And.intro (by rw [← hq]; exact hi1.2.2.2.2.1) (by simp)))))) (by first | omega | (dsimp only; omega))) (by
        refine imp_over [(1004, 57)] rfl rfl (by kernel_rfl) ?_ ?_
        ·iterate 31 refine And.intro wkv ?_
         exact True.intro
        ·refine And.intro (And.intro rfl (And.intro rfl (Exists.intro _ (And.intro rfl wkc)))) ?_
         refine And.intro (And.intro rfl (And.intro rfl (Exists.intro _ (And.intro rfl (by exact WkC.of (by show AV.agg [AV.osl 57 1 0 _ _, AV.int IntKind.i64 (Sp.fld b 0 1 : Nat)] = AV.agg [AV.osl 57 1 0 _ _, AV.int IntKind.i64 (Sp.fld b 0 1 : Nat)]; simp)))))) ?_
         refine And.intro (And.intro rfl (And.intro rfl (Exists.intro _ (And.intro rfl (by show WkC (AV.arr 1 _ _) (AV.arr 1 _ _); rw [List.length_append]; exact WkC.arr (fun j hj => mstr_eq acc _ j (by simpa using hj))))))) ?_
         exact True.intro
        ))
    ·(try simp only [cmpI, errD_nil, qa, qb, qc, qd] at ht34)
     refine awp_exit (awp_seq ?_)
     refine awp_draw hmix rfl (by kernel_rfl) ?_
     refine dP (fun n => Nat.beq n 5) (opp_loadP rfl rfl rfl rfl bi rfl ty70) rfl rfl ?_
     refine dP (fun _ => false) (opp_mv (v := .ptr _ _ _) rfl rfl) rfl rfl ?_
     refine dR (fun n => !([] : List Nat).contains n) (opr_callG (rl := [(1, 13)]) (r1 := .err _) (H1 := [(13, some (.agg [.sl _ _ _ _, .int _ _, .int _ _]))]) (n1 := []) rfl rfl ent77 (cg77x b a hi1.2.1 (by omega) hG3) (And.intro (And.intro rfl wka) True.intro) (And.intro (And.intro rfl (Exists.intro _ (And.intro rfl wkc))) True.intro) rfl rfl rfl rfl) rfl rfl rfl ?_
     refine dP (fun _ => false) (opp_errNil rfl rfl rfl un35 (.inl ⟨rfl, rfl⟩)) rfl rfl ?_
     refine dR0 (fun n => Nat.beq n 2) (opr_store (v := .agg _) (trn := (.agg _)) rfl rfl rfl rfl bi rfl rfl rfl rfl fr2 ty70 (fun _ _ h => h)) rfl rfl rfl ?_
     refine dP (fun _ => false) (opp_as (v := .bool _) rfl rfl) rfl rfl ?_
     refine And.intro (by kernel_rfl) ?_
     refine awp_ret ?_
     repeat (first | refine athen_ret ?_ | refine ain_ret ?_)
     refine apost_ret (aends (l := [.agg _, .bool _]) (.cell rfl rfl rfl (by exact True.intro) rfl ty70 (.tmp .nil)) (fun h => by cases h) (.cons shut (fun h => by cases h) (.cons shut (fun h => by cases h) .nil)) rfl ⟨Wk.v ?_, rfl, rfl⟩)
     have hq := hi1.2.2.2.2.1
     rw [show Sp.fld b 1 1 - i = 0 by omega, Sp.msgsQ] at hq
     rw [← hq, er_nil, endE_code]
     have hac : acc ≠ [] := fun h => by simpa using hi1.2.2.2.2.2.2 h
     show Wk _ (.tup [.agg [.sl 1 (decide (acc = [])) _ _, _], _]); rw [show decide (acc = []) = false by simpa using hac]; exact .refl
   ·dsimp only [cond] at hi1 ⊢
    refine awp_seq (awp_region rfl ?_)
    refine sP (opp_cmp rfl rfl rfl rfl) rfl rfl ?_
    refine awp_seq ?_
    refine awp_cond _ rfl (fun ht34 => ?_) (fun ht34 => ?_)
    ·(try simp only [cmpI, errD_nil, qa, qb, qc, qd] at ht34)
     refine awp_skip (awp_seq (awp_block (awp_seq (awp_region rfl ?_))))
     refine sP (opp_mv (v := .ptr _ _ _) rfl rfl) rfl rfl ?_
     refine sR (opr_callG (rl := [(1, 13)]) (r1 := .tup [.int _ _, .err _]) (H1 := [(13, some (.agg [.sl _ _ _ _, .int _ _, .int _ _]))]) (n1 := []) rfl rfl ent56 (cg56c b false a b.length (by omega) (by omega) (by omega)) (And.intro (And.intro rfl wka) True.intro) (And.intro (And.intro rfl (Exists.intro _ (And.intro rfl wkc))) True.intro) rfl rfl rfl rfl) rfl rfl rfl ?_
     refine sP (opp_mv (v := .tup _) rfl rfl) rfl rfl ?_
     refine sP (opp_extract rfl rfl rfl) rfl rfl ?_
     refine sP (opp_extract rfl rfl rfl) rfl rfl ?_
     refine sP (opp_as (v := .int _ _) rfl rfl) rfl rfl ?_
     refine sP (opp_as (v := .err _) rfl rfl) rfl rfl ?_
     refine awp_seq (awp_seq (awp_region rfl ?_))
     refine sP (opp_mv (v := .err _) rfl rfl) rfl rfl ?_
     refine sP (opp_errNil rfl rfl rfl un35 (.inr ⟨rfl, rfl⟩)) rfl rfl ?_
     refine awp_cond _ rfl (fun ht41 => ?_) (fun ht41 => ?_)
     ·(try simp only [cmpI, errD_nil, qa, qb, qc, qd] at ht41)
      exfalso; simp [ErrD.isNil] at ht41
     ·(try simp only [cmpI, errD_nil, qa, qb, qc, qd] at ht41)
      refine awp_skip (awp_seq (awp_region rfl ?_))
      refine sP (opp_mv (v := .ptr _ _ _) rfl rfl) rfl rfl ?_
      refine sP (opp_mv (v := .int _ _) rfl rfl) rfl rfl ?_
      refine sR (opr_callG (rl := [(1, 13)]) (r1 := .tup [.sl _ _ _ _, .err _]) (H1 := [(13, some (.agg [.sl _ _ _ _, .int _ _, .int _ _]))]) (n1 := []) rfl rfl ent76 (cg76c b (a + 1) b.length (Sp.fld b a 1) (by omega) (by omega) (by omega)) (And.intro (And.intro rfl wka) (And.intro (And.intro rfl wka) True.intro)) (And.intro (And.intro rfl (Exists.intro _ (And.intro rfl wkc))) True.intro) rfl rfl rfl rfl) rfl rfl rfl ?_
      refine sP (opp_mv (v := .tup _) rfl rfl) rfl rfl ?_
      refine sP (opp_extract rfl rfl rfl) rfl rfl ?_
      refine sP (opp_extract rfl rfl rfl) rfl rfl ?_
      refine sP (opp_as (v := .sl _ _ _ _) rfl rfl) rfl rfl ?_
      refine sP (opp_as (v := .err _) rfl rfl) rfl rfl ?_
      refine awp_seq (awp_seq (awp_region rfl ?_))
      refine sP (opp_mv (v := .err _) rfl rfl) rfl rfl ?_
      refine sP (opp_errNil rfl rfl rfl un35 (.inr ⟨rfl, rfl⟩)) rfl rfl ?_
      refine awp_cond _ rfl (fun ht50 => ?_) (fun ht50 => ?_)
      ·(try simp only [cmpI, errD_nil, qa, qb, qc, qd] at ht50)
       exfalso; simp [ErrD.isNil] at ht50
      ·(try simp only [cmpI, errD_nil, qa, qb, qc, qd] at ht50)
       refine awp_skip (awp_region rfl ?_)
       refine sP (opp_fieldP rfl rfl fld70_0 rfl) rfl rfl ?_
       refine sP (opp_loadP rfl rfl rfl rfl bi rfl ty68) rfl rfl ?_
       refine sP (opp_mv (v := .sl _ _ _ _) rfl rfl) rfl rfl ?_
       refine sP (opp_bytesStr rfl rfl _ rfl (fun j hj => rfl) un38 unu8 un9) rfl rfl ?_
       refine sR (opr_buildSlice (n := 56) (g := fun j => if j = 0 then .str _ else .str []) rfl eb68 z9 (by decide) rfl rfl) rfl rfl rfl ?_
       refine sR (opr_appendNil (d := 57) rfl rfl (.osl0 rfl (by omega)) eb68 z9 (by omega) (by omega) (by omega)) rfl rfl rfl ?_
       refine sP (opp_fieldP rfl rfl fld70_0 rfl) rfl rfl ?_
       refine sR0 (opr_store (v := .osl _ _ _ _ _) (trn := (.agg [.osl _ _ _ _ _, _])) rfl rfl rfl rfl bi rfl rfl rfl rfl fr2 ty68 (fun _ _ h => h)) rfl rfl rfl ?_
       refine awp_region rfl ?_
       refine sP (opp_arith rfl rfl rfl (.inl ⟨rfl, w64 (by omega)⟩)) rfl rfl ?_
       refine sP (opp_mv (v := .int _ _) rfl rfl) rfl rfl ?_
       have hac : acc = [] := hi1.2.2.2.2.2.1 rfl
       have hq : Sp.msgsQ b (Sp.fld b 1 1 - i) a acc = Sp.msgsQ b (Sp.fld b 1 1 - (i + 1)) (a + 1 + Sp.fld b a 1) (acc ++ [(b.drop (a + 1)).take (Sp.fld b a 1)]) := by rw [show Sp.fld b 1 1 - i = (Sp.fld b 1 1 - (i + 1)) + 1 by omega, Sp.msgsQ, if_neg hU, if_neg hR]
       refine Exists.intro ((i + 1, a + 1 + Sp.fld b a 1, acc ++ [(b.drop (a + 1)).take (Sp.fld b a 1)], false)) (And.intro (And.intro (And.intro (by show i + 1 ≤ _; omega) (And.intro (by show a + 1 + Sp.fld b a 1 ≤ _; omega) (And.intro (by simp; omega) (And.intro (by simp; omega) (And.intro (by rw [← hq]; exact hi1.2.2.2.2.1) (by simp)))))) (by first | omega | (dsimp only; omega))) (by
        refine imp_over [(1004, 57)] rfl rfl (by kernel_rfl) ?_ ?_
        ·iterate 31 refine And.intro wkv ?_
         exact True.intro
        ·refine And.intro (And.intro rfl (And.intro rfl (Exists.intro _ (And.intro rfl wkc)))) ?_
         refine And.intro (And.intro rfl (And.intro rfl (Exists.intro _ (And.intro rfl (by exact WkC.of (by show AV.agg [AV.osl 57 1 0 _ _, AV.int IntKind.i64 (Sp.fld b 0 1 : Nat)] = AV.agg [AV.osl 57 1 0 _ _, AV.int IntKind.i64 (Sp.fld b 0 1 : Nat)]; rw [hac]; simp)))))) ?_
         refine And.intro (And.intro rfl (And.intro rfl (Exists.intro _ (And.intro rfl (by show WkC (AV.arr 1 _ _) (AV.arr 1 _ _); rw [hac]; exact WkC.arr (fun j hj => by have h0 : j = 0 := (by simpa using hj); subst h0; simp [strAt])))))) ?_
         exact True.intro
        ))
    ·(try simp only [cmpI, errD_nil, qa, qb, qc, qd] at ht34)
     refine awp_exit (awp_seq ?_)
     refine awp_draw hmix rfl (by kernel_rfl) ?_
     refine dP (fun n => Nat.beq n 5) (opp_loadP rfl rfl rfl rfl bi rfl ty70) rfl rfl ?_
     refine dP (fun _ => false) (opp_mv (v := .ptr _ _ _) rfl rfl) rfl rfl ?_
     refine dR (fun n => !([] : List Nat).contains n) (opr_callG (rl := [(1, 13)]) (r1 := .err _) (H1 := [(13, some (.agg [.sl _ _ _ _, .int _ _, .int _ _]))]) (n1 := []) rfl rfl ent77 (cg77x b a hi1.2.1 (by omega) hG3) (And.intro (And.intro rfl wka) True.intro) (And.intro (And.intro rfl (Exists.intro _ (And.intro rfl wkc))) True.intro) rfl rfl rfl rfl) rfl rfl rfl ?_
     refine dP (fun _ => false) (opp_errNil rfl rfl rfl un35 (.inl ⟨rfl, rfl⟩)) rfl rfl ?_
     refine dR0 (fun n => Nat.beq n 2) (opr_store (v := .agg _) (trn := (.agg _)) rfl rfl rfl rfl bi rfl rfl rfl rfl fr2 ty70 (fun _ _ h => h)) rfl rfl rfl ?_
     refine dP (fun _ => false) (opp_as (v := .bool _) rfl rfl) rfl rfl ?_
     refine And.intro (by kernel_rfl) ?_
     refine awp_ret ?_
     repeat (first | refine athen_ret ?_ | refine ain_ret ?_)
     refine apost_ret (aend (l := [.agg _, .bool _]) (.cell rfl rfl rfl (by exact True.intro) rfl ty70 (.tmp .nil)) (fun h => by cases h) (.cons (.noN rfl rfl) (.cons (.noN rfl rfl) .nil)) ⟨Wk.v ?_, rfl, rfl⟩)
     have hq := hi1.2.2.2.2.1
     rw [show Sp.fld b 1 1 - i = 0 by omega, Sp.msgsQ] at hq
     rw [← hq, er_nil, endE_code]
     have hac : acc = [] := hi1.2.2.2.2.2.1 rfl
     subst hac; exact .tup (.cons (.agg (.cons .sl0 (.cons .refl .nil))) (.cons .refl .nil))
   ·dsimp only [cond] at hi1 ⊢
    refine awp_seq (awp_region rfl ?_)
    refine sP (opp_cmp rfl rfl rfl rfl) rfl rfl ?_
    refine awp_seq ?_
    refine awp_cond _ rfl (fun ht34 => ?_) (fun ht34 => ?_)
    ·(try simp only [cmpI, errD_nil, qa, qb, qc, qd] at ht34)
     refine awp_skip (awp_seq (awp_block (awp_seq (awp_region rfl ?_))))
     refine sP (opp_mv (v := .ptr _ _ _) rfl rfl) rfl rfl ?_
     refine sR (opr_callG (rl := [(1, 13)]) (r1 := .tup [.int _ _, .err _]) (H1 := [(13, some (.agg [.sl _ _ _ _, .int _ _, .int _ _]))]) (n1 := []) rfl rfl ent56 (cg56s b a (by omega) (by omega) hG2) (And.intro (And.intro rfl wka) True.intro) (And.intro (And.intro rfl (Exists.intro _ (And.intro rfl wkc))) True.intro) rfl rfl rfl rfl) rfl rfl rfl ?_
     refine sP (opp_mv (v := .tup _) rfl rfl) rfl rfl ?_
     refine sP (opp_extract rfl rfl rfl) rfl rfl ?_
     refine sP (opp_extract rfl rfl rfl) rfl rfl ?_
     refine sP (opp_as (v := .int _ _) rfl rfl) rfl rfl ?_
     refine sP (opp_as (v := .err _) rfl rfl) rfl rfl ?_
     refine awp_seq (awp_seq (awp_region rfl ?_))
     refine sP (opp_mv (v := .err _) rfl rfl) rfl rfl ?_
     refine sP (opp_errNil rfl rfl rfl un35 (.inr ⟨rfl, rfl⟩)) rfl rfl ?_
     refine awp_cond _ rfl (fun ht41 => ?_) (fun ht41 => ?_)
     ·(try simp only [cmpI, errD_nil, qa, qb, qc, qd] at ht41)
      refine awp_seq (awp_region rfl ?_)
      refine sP (opp_loadP rfl rfl rfl rfl bi rfl ty70) rfl rfl ?_
      refine sR0 (opr_store (v := .agg _) (trn := (.agg _)) rfl rfl rfl rfl bi rfl rfl rfl rfl fr2 ty70 (fun _ _ h => h)) rfl rfl rfl ?_
      refine sP (opp_as (v := .bool _) rfl rfl) rfl rfl ?_
      refine awp_ret ?_
      repeat (first | refine athen_ret ?_ | refine ain_ret ?_)
      refine apost_ret (aends (l := [.agg _, .bool _]) (.cell rfl rfl rfl (by exact True.intro) rfl ty70 (.tmp .nil)) (fun h => by cases h) (.cons shut (fun h => by cases h) (.cons shut (fun h => by cases h) .nil)) rfl ⟨Wk.v ?_, rfl, rfl⟩)
      have hq := hi1.2.2.2.2.1
      rw [show Sp.fld b 1 1 - i = (Sp.fld b 1 1 - (i + 1)) + 1 by omega, Sp.msgsQ, if_pos hU] at hq
      rw [← hq]
      have hac : acc ≠ [] := fun h => by simpa using hi1.2.2.2.2.2.2 h
      show Wk _ (.tup [.agg [.sl 1 (decide (acc = [])) _ _, _], _]); rw [show decide (acc = []) = false by simpa using hac]; exact .refl
     ·(try simp only [cmpI, errD_nil, qa, qb, qc, qd] at ht41)
      exfalso; simp [ErrD.isNil] at ht41
    ·(try simp only [cmpI, errD_nil, qa, qb, qc, qd] at ht34)
     refine awp_exit (awp_seq ?_)
     refine awp_draw hmix rfl (by kernel_rfl) ?_
     refine dP (fun n => Nat.beq n 5) (opp_loadP rfl rfl rfl rfl bi rfl ty70) rfl rfl ?_
     refine dP (fun _ => false) (opp_mv (v := .ptr _ _ _) rfl rfl) rfl rfl ?_
     refine dR (fun n => !([] : List Nat).contains n) (opr_callG (rl := [(1, 13)]) (r1 := .err _) (H1 := [(13, some (.agg [.sl _ _ _ _, .int _ _, .int _ _]))]) (n1 := []) rfl rfl ent77 (cg77x b a hi1.2.1 (by omega) hG3) (And.intro (And.intro rfl wka) True.intro) (And.intro (And.intro rfl (Exists.intro _ (And.intro rfl wkc))) True.intro) rfl rfl rfl rfl) rfl rfl rfl ?_
     refine dP (fun _ => false) (opp_errNil rfl rfl rfl un35 (.inl ⟨rfl, rfl⟩)) rfl rfl ?_
     refine dR0 (fun n => Nat.beq n 2) (opr_store (v := .agg _) (trn := (.agg _)) rfl rfl rfl rfl bi rfl rfl rfl rfl fr2 ty70 (fun _ _ h => h)) rfl rfl rfl ?_
     refine dP (fun _ => false) (opp_as (v := .bool _) rfl rfl) rfl rfl ?_
     refine And.intro (by kernel_rfl) ?_
     refine awp_ret ?_
     repeat (first | refine athen_ret ?_ | refine ain_ret ?_)
     refine apost_ret (aends (l := [.agg _, .bool _]) (.cell rfl rfl rfl (by exact True.intro) rfl ty70 (.tmp .nil)) (fun h => by cases h) (.cons shut (fun h => by cases h) (.cons shut (fun h => by cases h) .nil)) rfl ⟨Wk.v ?_, rfl, rfl⟩)
     have hq := hi1.2.2.2.2.1
     rw [show Sp.fld b 1 1 - i = 0 by omega, Sp.msgsQ] at hq
     rw [← hq, er_nil, endE_code]
     have hac : acc ≠ [] := fun h => by simpa using hi1.2.2.2.2.2.2 h
     show Wk _ (.tup [.agg [.sl 1 (decide (acc = [])) _ _, _], _]); rw [show decide (acc = []) = false by simpa using hac]; exact .refl
   ·dsimp only [cond] at hi1 ⊢
    refine awp_seq (awp_region rfl ?_)
    refine sP (opp_cmp rfl rfl rfl rfl) rfl rfl ?_
    refine awp_seq ?_
    refine awp_cond _ rfl (fun ht34 => ?_) (fun ht34 => ?_)
    ·(try simp only [cmpI, errD_nil, qa, qb, qc, qd] at ht34)
     refine awp_skip (awp_seq (awp_block (awp_seq (awp_region rfl ?_))))
     refine sP (opp_mv (v := .ptr _ _ _) rfl rfl) rfl rfl ?_
     refine sR (opr_callG (rl := [(1, 13)]) (r1 := .tup [.int _ _, .err _]) (H1 := [(13, some (.agg [.sl _ _ _ _, .int _ _, .int _ _]))]) (n1 := []) rfl rfl ent56 (cg56s b a (by omega) (by omega) hG2) (And.intro (And.intro rfl wka) True.intro) (And.intro (And.intro rfl (Exists.intro _ (And.intro rfl wkc))) True.intro) rfl rfl rfl rfl) rfl rfl rfl ?_
     refine sP (opp_mv (v := .tup _) rfl rfl) rfl rfl ?_
     refine sP (opp_extract rfl rfl rfl) rfl rfl ?_
     refine sP (opp_extract rfl rfl rfl) rfl rfl ?_
     refine sP (opp_as (v := .int _ _) rfl rfl) rfl rfl ?_
     refine sP (opp_as (v := .err _) rfl rfl) rfl rfl ?_
     refine awp_seq (awp_seq (awp_region rfl ?_))
     refine sP (opp_mv (v := .err _) rfl rfl) rfl rfl ?_
     refine sP (opp_errNil rfl rfl rfl un35 (.inr ⟨rfl, rfl⟩)) rfl rfl ?_
     refine awp_cond _ rfl (fun ht41 => ?_) (fun ht41 => ?_)
     ·(try simp only [cmpI, errD_nil, qa, qb, qc, qd] at ht41)
      refine awp_seq (awp_region rfl ?_)
      refine sP (opp_loadP rfl rfl rfl rfl bi rfl ty70) rfl rfl ?_
      refine sR0 (opr_store (v := .agg _) (trn := (.agg _)) rfl rfl rfl rfl bi rfl rfl rfl rfl fr2 ty70 (fun _ _ h => h)) rfl rfl rfl ?_
      refine sP (opp_as (v := .bool _) rfl rfl) rfl rfl ?_
      refine awp_ret ?_
      repeat (first | refine athen_ret ?_ | refine ain_ret ?_)
      refine apost_ret (aend (l := [.agg _, .bool _]) (.cell rfl rfl rfl (by exact True.intro) rfl ty70 (.tmp .nil)) (fun h => by cases h) (.cons (.noN rfl rfl) (.cons (.noN rfl rfl) .nil)) ⟨Wk.v ?_, rfl, rfl⟩)
      have hq := hi1.2.2.2.2.1
      rw [show Sp.fld b 1 1 - i = (Sp.fld b 1 1 - (i + 1)) + 1 by omega, Sp.msgsQ, if_pos hU] at hq
      rw [← hq]
      have hac : acc = [] := hi1.2.2.2.2.2.1 rfl
      subst hac; exact .tup (.cons (.agg (.cons .sl0 (.cons .refl .nil))) (.cons .refl .nil))
     ·(try simp only [cmpI, errD_nil, qa, qb, qc, qd] at ht41)
      exfalso; simp [ErrD.isNil] at ht41
    ·(try simp only [cmpI, errD_nil, qa, qb, qc, qd] at ht34)
     refine awp_exit (awp_seq ?_)
     refine awp_draw hmix rfl (by kernel_rfl) ?_
     refine dP (fun n => Nat.beq n 5) (opp_loadP rfl rfl rfl rfl bi rfl ty70) rfl rfl ?_
     refine dP (fun _ => false) (opp_mv (v := .ptr _ _ _) rfl rfl) rfl rfl ?_
     refine dR (fun n => !([] : List Nat).contains n) (opr_callG (rl := [(1, 13)]) (r1 := .err _) (H1 := [(13, some (.agg [.sl _ _ _ _, .int _ _, .int _ _]))]) (n1 := []) rfl rfl ent77 (cg77x b a hi1.2.1 (by omega) hG3) (And.intro (And.intro rfl wka) True.intro) (And.intro (And.intro rfl (Exists.intro _ (And.intro rfl wkc))) True.intro) rfl rfl rfl rfl) rfl rfl rfl ?_
     refine dP (fun _ => false) (opp_errNil rfl rfl rfl un35 (.inl ⟨rfl, rfl⟩)) rfl rfl ?_
     refine dR0 (fun n => Nat.beq n 2) (opr_store (v := .agg _) (trn := (.agg _)) rfl rfl rfl rfl bi rfl rfl rfl rfl fr2 ty70 (fun _ _ h => h)) rfl rfl rfl ?_
     refine dP (fun _ => false) (opp_as (v := .bool _) rfl rfl) rfl rfl ?_
     refine And.intro (by kernel_rfl) ?_
     refine awp_ret ?_
     repeat (first | refine athen_ret ?_ | refine ain_ret ?_)
     refine apost_ret (aend (l := [.agg _, .bool _]) (.cell rfl rfl rfl (by exact True.intro) rfl ty70 (.tmp .nil)) (fun h => by cases h) (.cons (.noN rfl rfl) (.cons (.noN rfl rfl) .nil)) ⟨Wk.v ?_, rfl, rfl⟩)
     have hq := hi1.2.2.2.2.1
     rw [show Sp.fld b 1 1 - i = 0 by omega, Sp.msgsQ] at hq
     rw [← hq, er_nil, endE_code]
     have hac : acc = [] := hi1.2.2.2.2.2.1 rfl
     subst hac; exact .tup (.cons (.agg (.cons .sl0 (.cons .refl .nil))) (.cons .refl .nil))
   ·dsimp only [cond] at hi1 ⊢
    refine awp_seq (awp_region rfl ?_)
    refine sP (opp_cmp rfl rfl rfl rfl) rfl rfl ?_
    refine awp_seq ?_
    refine awp_cond _ rfl (fun ht34 => ?_) (fun ht34 => ?_)
    ·(try simp only [cmpI, errD_nil, qa, qb, qc, qd] at ht34)
     refine awp_skip (awp_seq (awp_block (awp_seq (awp_region rfl ?_))))
     refine sP (opp_mv (v := .ptr _ _ _) rfl rfl) rfl rfl ?_
     refine sR (opr_callG (rl := [(1, 13)]) (r1 := .tup [.int _ _, .err _]) (H1 := [(13, some (.agg [.sl _ _ _ _, .int _ _, .int _ _]))]) (n1 := []) rfl rfl ent56 (cg56c b false a b.length (by omega) (by omega) (by omega)) (And.intro (And.intro rfl wka) True.intro) (And.intro (And.intro rfl (Exists.intro _ (And.intro rfl wkc))) True.intro) rfl rfl rfl rfl) rfl rfl rfl ?_
     refine sP (opp_mv (v := .tup _) rfl rfl) rfl rfl ?_
     refine sP (opp_extract rfl rfl rfl) rfl rfl ?_
     refine sP (opp_extract rfl rfl rfl) rfl rfl ?_
     refine sP (opp_as (v := .int _ _) rfl rfl) rfl rfl ?_
     refine sP (opp_as (v := .err _) rfl rfl) rfl rfl ?_
     refine awp_seq (awp_seq (awp_region rfl ?_))
     refine sP (opp_mv (v := .err _) rfl rfl) rfl rfl ?_
     refine sP (opp_errNil rfl rfl rfl un35 (.inr ⟨rfl, rfl⟩)) rfl rfl ?_
     refine awp_cond _ rfl (fun ht41 => ?_) (fun ht41 => ?_)
     ·(try simp only [cmpI, errD_nil, qa, qb, qc, qd] at ht41)
      exfalso; simp [ErrD.isNil] at ht41
     ·(try simp only [cmpI, errD_nil, qa, qb, qc, qd] at ht41)
      refine awp_skip (awp_seq (awp_region rfl ?_))
      refine sP (opp_mv (v := .ptr _ _ _) rfl rfl) rfl rfl ?_
      refine sP (opp_mv (v := .int _ _) rfl rfl) rfl rfl ?_
      refine sR (opr_callG (rl := [(1, 13)]) (r1 := .tup [.sl _ _ _ _, .err _]) (H1 := [(13, some (.agg [.sl _ _ _ _, .int _ _, .int _ _]))]) (n1 := []) rfl rfl ent76 (cg76s b (a + 1) b.length (Sp.fld b a 1) (by omega) (by omega) (by omega) (by omega) hG2) (And.intro (And.intro rfl wka) (And.intro (And.intro rfl wka) True.intro)) (And.intro (And.intro rfl (Exists.intro _ (And.intro rfl wkc))) True.intro) rfl rfl rfl rfl) rfl rfl rfl ?_
      refine sP (opp_mv (v := .tup _) rfl rfl) rfl rfl ?_
      refine sP (opp_extract rfl rfl rfl) rfl rfl ?_
      refine sP (opp_extract rfl rfl rfl) rfl rfl ?_
      refine sP (opp_as (v := .sl _ _ _ _) rfl rfl) rfl rfl ?_
      refine sP (opp_as (v := .err _) rfl rfl) rfl rfl ?_
      refine awp_seq (awp_seq (awp_region rfl ?_))
      refine sP (opp_mv (v := .err _) rfl rfl) rfl rfl ?_
      refine sP (opp_errNil rfl rfl rfl un35 (.inr ⟨rfl, rfl⟩)) rfl rfl ?_
      refine awp_cond _ rfl (fun ht50 => ?_) (fun ht50 => ?_)
      ·(try simp only [cmpI, errD_nil, qa, qb, qc, qd] at ht50)
       refine awp_seq (awp_region rfl ?_)
       refine sP (opp_loadP rfl rfl rfl rfl bi rfl ty70) rfl rfl ?_
       refine sR0 (opr_store (v := .agg _) (trn := (.agg _)) rfl rfl rfl rfl bi rfl rfl rfl rfl fr2 ty70 (fun _ _ h => h)) rfl rfl rfl ?_
       refine sP (opp_as (v := .bool _) rfl rfl) rfl rfl ?_
       refine awp_ret ?_
       repeat (first | refine athen_ret ?_ | refine ain_ret ?_)
       refine apost_ret (aends (l := [.agg _, .bool _]) (.cell rfl rfl rfl (by exact True.intro) rfl ty70 (.tmp .nil)) (fun h => by cases h) (.cons shut (fun h => by cases h) (.cons shut (fun h => by cases h) .nil)) rfl ⟨Wk.v ?_, rfl, rfl⟩)
       have hq := hi1.2.2.2.2.1
       rw [show Sp.fld b 1 1 - i = (Sp.fld b 1 1 - (i + 1)) + 1 by omega, Sp.msgsQ, if_neg hU, if_pos hR] at hq
       rw [← hq]
       have hac : acc ≠ [] := fun h => by simpa using hi1.2.2.2.2.2.2 h
       show Wk _ (.tup [.agg [.sl 1 (decide (acc = [])) _ _, _], _]); rw [show decide (acc = []) = false by simpa using hac]; exact .refl
      ·(try simp only [cmpI, errD_nil, qa, qb, qc, qd] at ht50)
       exfalso; simp [ErrD.isNil] at ht50
    ·(try simp only [cmpI, errD_nil, qa, qb, qc, qd] at ht34)
     refine awp_exit (awp_seq ?_)
     refine awp_draw hmix rfl (by kernel_rfl) ?_
     refine dP (fun n => Nat.beq n 5) (opp_loadP rfl rfl rfl rfl bi rfl ty70) rfl rfl ?_
     refine dP (fun _ => false) (opp_mv (v := .ptr _ _ _) rfl rfl) rfl rfl ?_
     refine dR (fun n => !([] : List Nat).contains n) (opr_callG (rl := [(1, 13)]) (r1 := .err _) (H1 := [(13, some (.agg [.sl _ _ _ _, .int _ _, .int _ _]))]) (n1 := []) rfl rfl ent77 (cg77x b a hi1.2.1 (by omega) hG3) (And.intro (And.intro rfl wka) True.intro) (And.intro (And.intro rfl (Exists.intro _ (And.intro rfl wkc))) True.intro) rfl rfl rfl rfl) rfl rfl rfl ?_
     refine dP (fun _ => false) (opp_errNil rfl rfl rfl un35 (.inl ⟨rfl, rfl⟩)) rfl rfl ?_
     refine dR0 (fun n => Nat.beq n 2) (opr_store (v := .agg _) (trn := (.agg _)) rfl rfl rfl rfl bi rfl rfl rfl rfl fr2 ty70 (fun _ _ h => h)) rfl rfl rfl ?_
     refine dP (fun _ => false) (opp_as (v := .bool _) rfl rfl) rfl rfl ?_
     refine And.intro (by kernel_rfl) ?_
     refine awp_ret ?_
     repeat (first | refine athen_ret ?_ | refine ain_ret ?_)
     refine apost_ret (aends (l := [.agg _, .bool _]) (.cell rfl rfl rfl (by exact True.intro) rfl ty70 (.tmp .nil)) (fun h => by cases h) (.cons shut (fun h => by cases h) (.cons shut (fun h => by cases h) .nil)) rfl ⟨Wk.v ?_, rfl, rfl⟩)
     have hq := hi1.2.2.2.2.1
     rw [show Sp.fld b 1 1 - i = 0 by omega, Sp.msgsQ] at hq
     rw [← hq, er_nil, endE_code]
     have hac : acc ≠ [] := fun h => by simpa using hi1.2.2.2.2.2.2 h
     show Wk _ (.tup [.agg [.sl 1 (decide (acc = [])) _ _, _], _]); rw [show decide (acc = []) = false by simpa using hac]; exact .refl
   ·dsimp only [cond] at hi1 ⊢
    refine awp_seq (awp_region rfl ?_)
    refine sP (opp_cmp rfl rfl rfl rfl) rfl rfl ?_
    refine awp_seq ?_
    refine awp_cond _ rfl (fun ht34 => ?_) (fun ht34 => ?_)
    ·(try simp only [cmpI, errD_nil, qa, qb, qc, qd] at ht34)
     refine awp_skip (awp_seq (awp_block (awp_seq (awp_region rfl ?_))))
     refine sP (opp_mv (v := .ptr _ _ _) rfl rfl) rfl rfl ?_
     refine sR (opr_callG (rl := [(1, 13)]) (r1 := .tup [.int _ _, .err _]) (H1 := [(13, some (.agg [.sl _ _ _ _, .int _ _, .int _ _]))]) (n1 := []) rfl rfl ent56 (cg56c b false a b.length (by omega) (by omega) (by omega)) (And.intro (And.intro rfl wka) True.intro) (And.intro (And.intro rfl (Exists.intro _ (And.intro rfl wkc))) True.intro) rfl rfl rfl rfl) rfl rfl rfl ?_
     refine sP (opp_mv (v := .tup _) rfl rfl) rfl rfl ?_
     refine sP (opp_extract rfl rfl rfl) rfl rfl ?_
     refine sP (opp_extract rfl rfl rfl) rfl rfl ?_
     refine sP (opp_as (v := .int _ _) rfl rfl) rfl rfl ?_
     refine sP (opp_as (v := .err _) rfl rfl) rfl rfl ?_
     refine awp_seq (awp_seq (awp_region rfl ?_))
     refine sP (opp_mv (v := .err _) rfl rfl) rfl rfl ?_
     refine sP (opp_errNil rfl rfl rfl un35 (.inr ⟨rfl, rfl⟩)) rfl rfl ?_
     refine awp_cond _ rfl (fun ht41 => ?_) (fun ht41 => ?_)
     ·(try simp only [cmpI, errD_nil, qa, qb, qc, qd] at ht41)
      exfalso; simp [ErrD.isNil] at ht41
     ·(try simp only [cmpI, errD_nil, qa, qb, qc, qd] at ht41)
      refine awp_skip (awp_seq (awp_region rfl ?_))
      refine sP (opp_mv (v := .ptr _ _ _) rfl rfl) rfl rfl ?_
      refine sP (opp_mv (v := .int _ _) rfl rfl) rfl rfl ?_
      refine sR (opr_callG (rl := [(1, 13)]) (r1 := .tup [.sl _ _ _ _, .err _]) (H1 := [(13, some (.agg [.sl _ _ _ _, .int _ _, .int _ _]))]) (n1 := []) rfl rfl ent76 (cg76s b (a + 1) b.length (Sp.fld b a 1) (by omega) (by omega) (by omega) (by omega) hG2) (And.intro (And.intro rfl wka) (And.intro (And.intro rfl wka) True.intro)) (And.intro (And.intro rfl (Exists.intro _ (And.intro rfl wkc))) True.intro) rfl rfl rfl rfl) rfl rfl rfl ?_
      refine sP (opp_mv (v := .tup _) rfl rfl) rfl rfl ?_
      refine sP (opp_extract rfl rfl rfl) rfl rfl ?_
      refine sP (opp_extract rfl rfl rfl) rfl rfl ?_
      refine sP (opp_as (v := .sl _ _ _ _) rfl rfl) rfl rfl ?_
      refine sP (opp_as (v := .err _) rfl rfl) rfl rfl ?_
      refine awp_seq (awp_seq (awp_region rfl ?_))
      refine sP (opp_mv (v := .err _) rfl rfl) rfl rfl ?_
      refine sP (opp_errNil rfl rfl rfl un35 (.inr ⟨rfl, rfl⟩)) rfl rfl ?_
      refine awp_cond _ rfl (fun ht50 => ?_) (fun ht50 => ?_)
      ·(try simp only [cmpI, errD_nil, qa, qb, qc, qd] at ht50)
       refine awp_seq (awp_region rfl ?_)
       refine sP (opp_loadP rfl rfl rfl rfl bi rfl ty70) rfl rfl ?_
       refine sR0 (opr_store (v := .agg _) (trn := (.agg _)) rfl rfl rfl rfl bi rfl rfl rfl rfl fr2 ty70 (fun _ _ h => h)) rfl rfl rfl ?_
       refine sP (opp_as (v := .bool _) rfl rfl) rfl rfl ?_
       refine awp_ret ?_
       repeat (first | refine athen_ret ?_ | refine ain_ret ?_)
       refine apost_ret (aend (l := [.agg _, .bool _]) (.cell rfl rfl rfl (by exact True.intro) rfl ty70 (.tmp .nil)) (fun h => by cases h) (.cons (.noN rfl rfl) (.cons (.noN rfl rfl) .nil)) ⟨Wk.v ?_, rfl, rfl⟩)
       have hq := hi1.2.2.2.2.1
       rw [show Sp.fld b 1 1 - i = (Sp.fld b 1 1 - (i + 1)) + 1 by omega, Sp.msgsQ, if_neg hU, if_pos hR] at hq
       rw [← hq]
       have hac : acc = [] := hi1.2.2.2.2.2.1 rfl
       subst hac; exact .tup (.cons (.agg (.cons .sl0 (.cons .refl .nil))) (.cons .refl .nil))
      ·(try simp only [cmpI, errD_nil, qa, qb, qc, qd] at ht50)
       exfalso; simp [ErrD.isNil] at ht50
    ·(try simp only [cmpI, errD_nil, qa, qb, qc, qd] at ht34)
     refine awp_exit (awp_seq ?_)
     refine awp_draw hmix rfl (by kernel_rfl) ?_
     refine dP (fun n => Nat.beq n 5) (opp_loadP rfl rfl rfl rfl bi rfl ty70) rfl rfl ?_
     refine dP (fun _ => false) (opp_mv (v := .ptr _ _ _) rfl rfl) rfl rfl ?_
     refine dR (fun n => !([] : List Nat).contains n) (opr_callG (rl := [(1, 13)]) (r1 := .err _) (H1 := [(13, some (.agg [.sl _ _ _ _, .int _ _, .int _ _]))]) (n1 := []) rfl rfl ent77 (cg77x b a hi1.2.1 (by omega) hG3) (And.intro (And.intro rfl wka) True.intro) (And.intro (And.intro rfl (Exists.intro _ (And.intro rfl wkc))) True.intro) rfl rfl rfl rfl) rfl rfl rfl ?_
     refine dP (fun _ => false) (opp_errNil rfl rfl rfl un35 (.inl ⟨rfl, rfl⟩)) rfl rfl ?_
     refine dR0 (fun n => Nat.beq n 2) (opr_store (v := .agg _) (trn := (.agg _)) rfl rfl rfl rfl bi rfl rfl rfl rfl fr2 ty70 (fun _ _ h => h)) rfl rfl rfl ?_
     refine dP (fun _ => false) (opp_as (v := .bool _) rfl rfl) rfl rfl ?_
     refine And.intro (by kernel_rfl) ?_
     refine awp_ret ?_
     repeat (first | refine athen_ret ?_ | refine ain_ret ?_)
     refine apost_ret (aend (l := [.agg _, .bool _]) (.cell rfl rfl rfl (by exact True.intro) rfl ty70 (.tmp .nil)) (fun h => by cases h) (.cons (.noN rfl rfl) (.cons (.noN rfl rfl) .nil)) ⟨Wk.v ?_, rfl, rfl⟩)
     have hq := hi1.2.2.2.2.1
     rw [show Sp.fld b 1 1 - i = 0 by omega, Sp.msgsQ] at hq
     rw [← hq, er_nil, endE_code]
     have hac : acc = [] := hi1.2.2.2.2.2.1 rfl
     subst hac; exact .tup (.cons (.agg (.cons .sl0 (.cons .refl .nil))) (.cons .refl .nil))
theorem c52 (b : List UInt8) (h0 : b.length ≤ 1099511627776) (hG2 : gl 2 = some (.err (.code 1))) (hG3 : gl 3 = some (.err (.code 2))) :
    APure (V ea cds gl) 52 [.sl 1 false b.length (bAt b)] false (.tup [ptAV (Sp.portQ b).1, .bool (Sp.portQ b).2]) := by
  by_cases hA : b.length < 1
  · have hp : Sp.portQ b = (⟨[], 0⟩, false) := if_pos (by omega)
    rw [hp]
    exact cA52 b hA hG2
  · by_cases hB : b.length < 2
    · have hp : Sp.portQ b = (⟨[], 0⟩, false) := if_pos hB
      rw [hp]
      exact cB52 b hA hB hG2
    · have hp : Sp.portQ b = (⟨(Sp.msgsQ b (Sp.fld b 1 1) 2 []).1, Sp.fld b 0 1⟩, (Sp.msgsQ b (Sp.fld b 1 1) 2 []).2) := if_neg hB
      rw [hp]
      exact cC52 b (by omega) h0 hG2 hG3
end
end Go.Proofs.YtpmgdmbcdohgcaaDoor
/- Layer 16: are bodies as long as their tags ask, are flags flags (walks over this dump). -/
namespace Go.Proofs.YtpmgdmbcdohgcaaDoor
attribute [local irreducible] Tryd.prog
open Go.Fy
set_option linter.unusedSimpArgs false
set_option linter.unusedVariables false
section
variable {ea : Nat → Addr} {cds : List Nat} {gl : Nat → Option AV}
theorem c23 (r : Rc) (hn : r.nn = false) (h0 : r.body.length ≤ 1099511627776) (hG2 : gl 2 = some (.err (.code 1))) (hG3 : gl 3 = some (.err (.code 2))) :
  APure (V ea cds gl) 23 [rcAV r] false (.bool (Sp.long r)) := by
 obtain ⟨tag, nn, body⟩ := r
 dsimp only at hn h0
 subst hn
 unfold rcAV
 refine acalls_of_body (N := 39) Tryd.func23 rfl rfl (Nat.le_of_ble_eq_true rfl) fun C hV hN hM hO => ?_
 obtain ⟨_, _, w0, G0, σ0, _, own0⟩ := C; dsimp only at hV hN hM hO; subst hV; subst hN; subst hM
 refine awp_seq (awp_region rfl ?_)
 refine sR (opr_box (y := .agg _) (n := 1) rfl rfl rfl) rfl rfl rfl ?_
 refine sP (opp_as (v := .bool _) rfl rfl) rfl rfl ?_
 refine awp_seq (awp_region rfl ?_)
 refine sP (opp_fieldP rfl rfl fld40_1 rfl) rfl rfl ?_
 refine sP (opp_loadP rfl rfl rfl rfl bi rfl ty38) rfl rfl ?_
 refine sP (opp_lenSl rfl rfl un38) rfl rfl ?_
 refine sP (opp_as (v := .int _ _) rfl rfl) rfl rfl ?_
 refine awp_seq (awp_seq (awp_region rfl ?_))
 refine sP (opp_fieldP rfl rfl fld40_0 rfl) rfl rfl ?_
 refine sP (opp_loadP rfl rfl rfl rfl bi rfl ty3) rfl rfl ?_
 refine awp_block (awp_seq (awp_seq (awp_region rfl ?_)))
 refine sP (opp_cmp rfl rfl rfl rfl) rfl rfl ?_
 refine sP (opp_as (v := .bool _) rfl rfl) rfl rfl ?_
 refine awp_cond _ rfl (fun ht11 => ?_) (fun ht11 => ?_)
 ·(try simp only [cmpI, errD_nil, qa, qb, qc, qd] at ht11)
  refine awp_skip ?_
  refine awp_cond _ rfl (fun ht11 => ?_) (fun ht11 => ?_)
  ·(try simp only [cmpI, errD_nil, qa, qb, qc, qd] at ht11)
   refine awp_seq (awp_region rfl ?_)
   refine sP (opp_mv (v := .int _ _) rfl rfl) rfl rfl ?_
   refine sP (opp_cmp rfl rfl rfl rfl) rfl rfl ?_
   refine sP (opp_as (v := .bool _) rfl rfl) rfl rfl ?_
   refine awp_ret ?_
   repeat (first | refine athen_ret ?_ | refine ain_ret ?_)
   refine apost_ret (aend1 (r0 := .bool _) (.tmp .nil) (.noN rfl rfl) ⟨Wk.v ?_, rfl, rfl⟩)
   first | (exfalso; omega) | (refine .of (congrArg AV.bool ?_); unfold Sp.long; dsimp only; (repeat (first | rw [if_pos (by omega)] | rw [if_neg (by omega)])); all_goals first | rfl | (simp only [cmpI, decide_eq_decide]; omega) | (show decide (((body.length % 5 : Nat) : Int) = 0) = _; rw [decide_eq_decide]; omega))
  ·(try simp only [cmpI, errD_nil, qa, qb, qc, qd] at ht11)
   refine awp_seq (awp_region rfl ?_)
   refine sP (opp_cmp rfl rfl rfl rfl) rfl rfl ?_
   refine sP (opp_as (v := .bool _) rfl rfl) rfl rfl ?_
   refine awp_cond _ rfl (fun ht16 => ?_) (fun ht16 => ?_)
   ·(try simp only [cmpI, errD_nil, qa, qb, qc, qd] at ht16)
    refine awp_seq (awp_region rfl ?_)
    refine sP (opp_mv (v := .int _ _) rfl rfl) rfl rfl ?_
    refine sP (opp_cmp rfl rfl rfl rfl) rfl rfl ?_
    refine sP (opp_as (v := .bool _) rfl rfl) rfl rfl ?_
    refine awp_ret ?_
    repeat (first | refine athen_ret ?_ | refine ain_ret ?_)
    refine apost_ret (aend1 (r0 := .bool _) (.tmp .nil) (.noN rfl rfl) ⟨Wk.v ?_, rfl, rfl⟩)
    first | (exfalso; omega) | (refine .of (congrArg AV.bool ?_); unfold Sp.long; dsimp only; (repeat (first | rw [if_pos (by omega)] | rw [if_neg (by omega)])); all_goals first | rfl | (simp only [cmpI, decide_eq_decide]; omega) | (show decide (((body.length % 5 : Nat) : Int) = 0) = _; rw [decide_eq_decide]; omega))
   ·(try simp only [cmpI, errD_nil, qa, qb, qc, qd] at ht16)
    refine awp_seq (awp_region rfl ?_)
    refine sP (opp_cmp rfl rfl rfl rfl) rfl rfl ?_
    refine sP (opp_as (v := .bool _) rfl rfl) rfl rfl ?_
    refine awp_cond _ rfl (fun ht20 => ?_) (fun ht20 => ?_)
    ·(try simp only [cmpI, errD_nil, qa, qb, qc, qd] at ht20)
     refine awp_seq (awp_region rfl ?_)
     refine sP (opp_mv (v := .int _ _) rfl rfl) rfl rfl ?_
     refine sP (opp_arith rfl rfl rfl (.inr <| .inr <| .inr <| .inr <| .inl ⟨rfl, by omega, rfl⟩)) rfl rfl ?_
     refine sP (opp_cmp rfl rfl rfl rfl) rfl rfl ?_
     refine sP (opp_as (v := .bool _) rfl rfl) rfl rfl ?_
     refine awp_ret ?_
     repeat (first | refine athen_ret ?_ | refine ain_ret ?_)
     refine apost_ret (aend1 (r0 := .bool _) (.tmp .nil) (.noN rfl rfl) ⟨Wk.v ?_, rfl, rfl⟩)
     first | (exfalso; omega) | (refine .of (congrArg AV.bool ?_); unfold Sp.long; dsimp only; (repeat (first | rw [if_pos (by omega)] | rw [if_neg (by omega)])); all_goals first | rfl | (simp only [cmpI, decide_eq_decide]; omega) | (show decide (((body.length % 5 : Nat) : Int) = 0) = _; rw [decide_eq_decide]; omega))
    ·(try simp only [cmpI, errD_nil, qa, qb, qc, qd] at ht20)
     refine awp_seq (awp_seq (awp_region rfl ?_))
     refine sP (opp_cmp rfl rfl rfl rfl) rfl rfl ?_
     refine sP (opp_as (v := .bool _) rfl rfl) rfl rfl ?_
     refine awp_cond _ rfl (fun ht25 => ?_) (fun ht25 => ?_)
     ·(try simp only [cmpI, errD_nil, qa, qb, qc, qd] at ht25)
      refine awp_skip ?_
      refine awp_cond _ rfl (fun ht25 => ?_) (fun ht25 => ?_)
      ·(try simp only [cmpI, errD_nil, qa, qb, qc, qd] at ht25)
       refine awp_seq (awp_region rfl ?_)
       refine sP (opp_mv (v := .int _ _) rfl rfl) rfl rfl ?_
       refine sP (opp_cmp rfl rfl rfl rfl) rfl rfl ?_
       refine sP (opp_as (v := .bool _) rfl rfl) rfl rfl ?_
       refine awp_ret ?_
       repeat (first | refine athen_ret ?_ | refine ain_ret ?_)
       refine apost_ret (aend1 (r0 := .bool _) (.tmp .nil) (.noN rfl rfl) ⟨Wk.v ?_, rfl, rfl⟩)
       first | (exfalso; omega) | (refine .of (congrArg AV.bool ?_); unfold Sp.long; dsimp only; (repeat (first | rw [if_pos (by omega)] | rw [if_neg (by omega)])); all_goals first | rfl | (simp only [cmpI, decide_eq_decide]; omega) | (show decide (((body.length % 5 : Nat) : Int) = 0) = _; rw [decide_eq_decide]; omega))
      ·(try simp only [cmpI, errD_nil, qa, qb, qc, qd] at ht25)
       refine awp_seq (awp_region rfl ?_)
       refine sP (opp_cmp rfl rfl rfl rfl) rfl rfl ?_
       refine sP (opp_as (v := .bool _) rfl rfl) rfl rfl ?_
       refine awp_cond _ rfl (fun ht30 => ?_) (fun ht30 => ?_)
       ·(try simp only [cmpI, errD_nil, qa, qb, qc, qd] at ht30)
        refine awp_seq (awp_region rfl ?_)
        refine sP (opp_fieldP rfl rfl fld40_1 rfl) rfl rfl ?_
        refine sP (opp_loadP rfl rfl rfl rfl bi rfl ty38) rfl rfl ?_
        refine sR (opr_call rfl rfl ent52 rfl (c52 body h0 hG2 hG3) (AViews.refl _ rfl)) rfl rfl rfl ?_ -- d=35 t=109 a=34
        refine sP (opp_mv (v := .tup _) rfl rfl) rfl rfl ?_
        refine sP (opp_extract rfl rfl rfl) rfl rfl ?_
        refine sP (opp_extract rfl rfl rfl) rfl rfl ?_
        refine sR (opr_alloc (n := 4) rfl z70) rfl rfl rfl ?_
        refine sR0 (opr_store (v := .agg _) (trn := (.agg _)) rfl rfl rfl rfl bi rfl rfl rfl rfl fr2 ty70 (fun _ _ h => h)) rfl rfl rfl ?_
        refine sP (opp_as (v := .bool _) rfl rfl) rfl rfl ?_
        refine awp_seq (awp_region rfl ?_)
        refine sP (opp_mv (v := .bool _) rfl rfl) rfl rfl ?_
        refine sP (opp_as (v := .bool _) rfl rfl) rfl rfl ?_
        refine awp_ret ?_
        repeat (first | refine athen_ret ?_ | refine ain_ret ?_)
        refine apost_ret (aend1 (r0 := .bool _) (.tmp .nil) (.noN rfl rfl) ⟨Wk.v ?_, rfl, rfl⟩)
        first | (exfalso; omega) | (refine .of (congrArg AV.bool ?_); unfold Sp.long; dsimp only; (repeat (first | rw [if_pos (by omega)] | rw [if_neg (by omega)])); all_goals first | rfl | (simp only [cmpI, decide_eq_decide]; omega) | (show decide (((body.length % 5 : Nat) : Int) = 0) = _; rw [decide_eq_decide]; omega))
       ·(try simp only [cmpI, errD_nil, qa, qb, qc, qd] at ht30)
        refine awp_skip (awp_seq (awp_region rfl ?_))
        refine sP (opp_as (v := .bool _) rfl rfl) rfl rfl ?_
        refine awp_ret ?_
        repeat (first | refine athen_ret ?_ | refine ain_ret ?_)
        refine apost_ret (aend1 (r0 := .bool _) (.tmp .nil) (.noN rfl rfl) ⟨Wk.v ?_, rfl, rfl⟩)
        first | (exfalso; omega) | (refine .of (congrArg AV.bool ?_); unfold Sp.long; dsimp only; (repeat (first | rw [if_pos (by omega)] | rw [if_neg (by omega)])); all_goals first | rfl | (simp only [cmpI, decide_eq_decide]; omega) | (show decide (((body.length % 5 : Nat) : Int) = 0) = _; rw [decide_eq_decide]; omega))
     ·(try simp only [cmpI, errD_nil, qa, qb, qc, qd] at ht25)
      refine awp_region rfl ?_
      refine sP (opp_cmp rfl rfl rfl rfl) rfl rfl ?_
      refine sP (opp_as (v := .bool _) rfl rfl) rfl rfl ?_
      refine awp_cond _ rfl (fun ht25 => ?_) (fun ht25 => ?_)
      ·(try simp only [cmpI, errD_nil, qa, qb, qc, qd] at ht25)
       refine awp_seq (awp_region rfl ?_)
       refine sP (opp_mv (v := .int _ _) rfl rfl) rfl rfl ?_
       refine sP (opp_cmp rfl rfl rfl rfl) rfl rfl ?_
       refine sP (opp_as (v := .bool _) rfl rfl) rfl rfl ?_
       refine awp_ret ?_
       repeat (first | refine athen_ret ?_ | refine ain_ret ?_)
       refine apost_ret (aend1 (r0 := .bool _) (.tmp .nil) (.noN rfl rfl) ⟨Wk.v ?_, rfl, rfl⟩)
       first | (exfalso; omega) | (refine .of (congrArg AV.bool ?_); unfold Sp.long; dsimp only; (repeat (first | rw [if_pos (by omega)] | rw [if_neg (by omega)])); all_goals first | rfl | (simp only [cmpI, decide_eq_decide]; omega) | (show decide (((body.length % 5 : Nat) : Int) = 0) = _; rw [decide_eq_decide]; omega))
      ·(try simp only [cmpI, errD_nil, qa, qb, qc, qd] at ht25)
       refine awp_seq (awp_region rfl ?_)
       refine sP (opp_cmp rfl rfl rfl rfl) rfl rfl ?_
       refine sP (opp_as (v := .bool _) rfl rfl) rfl rfl ?_
       refine awp_cond _ rfl (fun ht30 => ?_) (fun ht30 => ?_)
       ·(try simp only [cmpI, errD_nil, qa, qb, qc, qd] at ht30)
        refine awp_seq (awp_region rfl ?_)
        refine sP (opp_fieldP rfl rfl fld40_1 rfl) rfl rfl ?_
        refine sP (opp_loadP rfl rfl rfl rfl bi rfl ty38) rfl rfl ?_
        refine sR (opr_call rfl rfl ent52 rfl (c52 body h0 hG2 hG3) (AViews.refl _ rfl)) rfl rfl rfl ?_ -- d=35 t=109 a=34
        refine sP (opp_mv (v := .tup _) rfl rfl) rfl rfl ?_
        refine sP (opp_extract rfl rfl rfl) rfl rfl ?_
        refine sP (opp_extract rfl rfl rfl) rfl rfl ?_
        refine sR (opr_alloc (n := 4) rfl z70) rfl rfl rfl ?_
        refine sR0 (opr_store (v := .agg _) (trn := (.agg _)) rfl rfl rfl rfl bi rfl rfl rfl rfl fr2 ty70 (fun _ _ h => h)) rfl rfl rfl ?_
        refine sP (opp_as (v := .bool _) rfl rfl) rfl rfl ?_
        refine awp_seq (awp_region rfl ?_)
        refine sP (opp_mv (v := .bool _) rfl rfl) rfl rfl ?_
        refine sP (opp_as (v := .bool _) rfl rfl) rfl rfl ?_
        refine awp_ret ?_
        repeat (first | refine athen_ret ?_ | refine ain_ret ?_)
        refine apost_ret (aend1 (r0 := .bool _) (.tmp .nil) (.noN rfl rfl) ⟨Wk.v ?_, rfl, rfl⟩)
        first | (exfalso; omega) | (refine .of (congrArg AV.bool ?_); unfold Sp.long; dsimp only; (repeat (first | rw [if_pos (by omega)] | rw [if_neg (by omega)])); all_goals first | rfl | (simp only [cmpI, decide_eq_decide]; omega) | (show decide (((body.length % 5 : Nat) : Int) = 0) = _; rw [decide_eq_decide]; omega))
       ·(try simp only [cmpI, errD_nil, qa, qb, qc, qd] at ht30)
        refine awp_skip (awp_seq (awp_region rfl ?_))
        refine sP (opp_as (v := .bool _) rfl rfl) rfl rfl ?_
        refine awp_ret ?_
        repeat (first | refine athen_ret ?_ | refine ain_ret ?_)
        refine apost_ret (aend1 (r0 := .bool _) (.tmp .nil) (.noN rfl rfl) ⟨Wk.v ?_, rfl, rfl⟩)
        first | (exfalso; omega) | (refine .of (congrArg AV.bool ?_); unfold Sp.long; dsimp only; (repeat (first | rw [if_pos (by omega)] | rw [if_neg (by omega)])); all_goals first | rfl | (simp only [cmpI, decide_eq_decide]; omega) | (show decide (((body.length % 5 : Nat) : Int) = 0) = _; rw [decide_eq_decide]; omega))
 ·(try simp only [cmpI, errD_nil, qa, qb, qc, qd] at ht11)
  refine awp_region rfl ?_
  refine sP (opp_cmp rfl rfl rfl rfl) rfl rfl ?_
  refine sP (opp_as (v := .bool _) rfl rfl) rfl rfl ?_
  refine awp_cond _ rfl (fun ht11 => ?_) (fun ht11 => ?_)
  ·(try simp only [cmpI, errD_nil, qa, qb, qc, qd] at ht11)
   refine awp_seq (awp_region rfl ?_)
   refine sP (opp_mv (v := .int _ _) rfl rfl) rfl rfl ?_
   refine sP (opp_cmp rfl rfl rfl rfl) rfl rfl ?_
   refine sP (opp_as (v := .bool _) rfl rfl) rfl rfl ?_
   refine awp_ret ?_
   repeat (first | refine athen_ret ?_ | refine ain_ret ?_)
   refine apost_ret (aend1 (r0 := .bool _) (.tmp .nil) (.noN rfl rfl) ⟨Wk.v ?_, rfl, rfl⟩)
   first | (exfalso; omega) | (refine .of (congrArg AV.bool ?_); unfold Sp.long; dsimp only; (repeat (first | rw [if_pos (by omega)] | rw [if_neg (by omega)])); all_goals first | rfl | (simp only [cmpI, decide_eq_decide]; omega) | (show decide (((body.length % 5 : Nat) : Int) = 0) = _; rw [decide_eq_decide]; omega))
  ·(try simp only [cmpI, errD_nil, qa, qb, qc, qd] at ht11)
   refine awp_seq (awp_region rfl ?_)
   refine sP (opp_cmp rfl rfl rfl rfl) rfl rfl ?_
   refine sP (opp_as (v := .bool _) rfl rfl) rfl rfl ?_
   refine awp_cond _ rfl (fun ht16 => ?_) (fun ht16 => ?_)
   ·(try simp only [cmpI, errD_nil, qa, qb, qc, qd] at ht16)
    refine awp_seq (awp_region rfl ?_)
    refine sP (opp_mv (v := .int _ _) rfl rfl) rfl rfl ?_
    refine sP (opp_cmp rfl rfl rfl rfl) rfl rfl ?_
    refine sP (opp_as (v := .bool _) rfl rfl) rfl rfl ?_
    refine awp_ret ?_
    repeat (first | refine athen_ret ?_ | refine ain_ret ?_)
    refine apost_ret (aend1 (r0 := .bool _) (.tmp .nil) (.noN rfl rfl) ⟨Wk.v ?_, rfl, rfl⟩)
    first | (exfalso; omega) | (refine .of (congrArg AV.bool ?_); unfold Sp.long; dsimp only; (repeat (first | rw [if_pos (by omega)] | rw [if_neg (by omega)])); all_goals first | rfl | (simp only [cmpI, decide_eq_decide]; omega) | (show decide (((body.length % 5 : Nat) : Int) = 0) = _; rw [decide_eq_decide]; omega))
   ·(try simp only [cmpI, errD_nil, qa, qb, qc, qd] at ht16)
    refine awp_seq (awp_region rfl ?_)
    refine sP (opp_cmp rfl rfl rfl rfl) rfl rfl ?_
    refine sP (opp_as (v := .bool _) rfl rfl) rfl rfl ?_
    refine awp_cond _ rfl (fun ht20 => ?_) (fun ht20 => ?_)
    ·(try simp only [cmpI, errD_nil, qa, qb, qc, qd] at ht20)
     refine awp_seq (awp_region rfl ?_)
     refine sP (opp_mv (v := .int _ _) rfl rfl) rfl rfl ?_
     refine sP (opp_arith rfl rfl rfl (.inr <| .inr <| .inr <| .inr <| .inl ⟨rfl, by omega, rfl⟩)) rfl rfl ?_
     refine sP (opp_cmp rfl rfl rfl rfl) rfl rfl ?_
     refine sP (opp_as (v := .bool _) rfl rfl) rfl rfl ?_
     refine awp_ret ?_
     repeat (first | refine athen_ret ?_ | refine ain_ret ?_)
     refine apost_ret (aend1 (r0 := .bool _) (.tmp .nil) (.noN rfl rfl) ⟨Wk.v ?_, rfl, rfl⟩)
     first | (exfalso; omega) | (refine .of (congrArg AV.bool ?_); unfold Sp.long; dsimp only; (repeat (first | rw [if_pos (by omega)] | rw [if_neg (by omega)])); all_goals first | rfl | (simp only [cmpI, decide_eq_decide]; omega) | (show decide (((body.length % 5 : Nat) : Int) = 0) = _; rw [decide_eq_decide]; omega))
    ·(try simp only [cmpI, errD_nil, qa, qb, qc, qd] at ht20)
     refine awp_seq (awp_seq (awp_region rfl ?_))
     refine sP (opp_cmp rfl rfl rfl rfl) rfl rfl ?_
     refine sP (opp_as (v := .bool _) rfl rfl) rfl rfl ?_
     refine awp_cond _ rfl (fun ht25 => ?_) (fun ht25 => ?_)
     ·(try simp only [cmpI, errD_nil, qa, qb, qc, qd] at ht25)
      refine awp_skip ?_
      refine awp_cond _ rfl (fun ht25 => ?_) (fun ht25 => ?_)
      ·(try simp only [cmpI, errD_nil, qa, qb, qc, qd] at ht25)
       refine awp_seq (awp_region rfl ?_)
       refine sP (opp_mv (v := .int _ _) rfl rfl) rfl rfl ?_
       refine sP (opp_cmp rfl rfl rfl rfl) rfl rfl ?_
       refine sP (opp_as (v := .bool _) rfl rfl) rfl rfl ?_
       refine awp_ret ?_
       repeat (first | refine athen_ret ?_ | refine ain_ret ?_)
       refine apost_ret (aend1 (r0 := .bool _) (.tmp .nil) (.noN rfl rfl) ⟨Wk.v ?_, rfl, rfl⟩)
       first | (exfalso; omega) | (refine .of (congrArg AV.bool ?_); unfold Sp.long; dsimp only; (repeat (first | rw [if_pos (by omega)] | rw [if_neg (by omega)])); all_goals first | rfl | (simp only [cmpI, decide_eq_decide]; omega) | (show decide (((body.length % 5 : Nat) : Int) = 0) = _; rw [decide_eq_decide]; omega))
      ·(try simp only [cmpI, errD_nil, qa, qb, qc, qd] at ht25)
       refine awp_seq (awp_region rfl ?_)
       refine sP (opp_cmp rfl rfl rfl rfl) rfl rfl ?_
       refine sP (opp_as (v := .bool _) rfl rfl) rfl rfl ?_
       refine awp_cond _ rfl (fun ht30 => ?_) (fun ht30 => ?_)
       ·(try simp only [cmpI, errD_nil, qa, qb, qc, qd] at ht30)
        refine awp_seq (awp_region rfl ?_)
        refine sP (opp_fieldP rfl rfl fld40_1 rfl) rfl rfl ?_
        refine sP (opp_loadP rfl rfl rfl rfl bi rfl ty38) rfl rfl ?_
        refine sR (opr_call rfl rfl ent52 rfl (c52 body h0 hG2 hG3) (AViews.refl _ rfl)) rfl rfl rfl ?_ -- d=35 t=109 a=34
        refine sP (opp_mv (v := .tup _) rfl rfl) rfl rfl ?_
        refine sP (opp_extract rfl rfl rfl) rfl rfl ?_
        refine sP (opp_extract rfl rfl rfl) rfl rfl ?_
        refine sR (opr_alloc (n := 4) rfl z70) rfl rfl rfl ?_
        refine sR0 (opr_store (v := .agg _) (trn := (.agg _)) rfl rfl rfl rfl bi rfl rfl rfl rfl fr2 ty70 (fun _ _ h => h)) rfl rfl rfl ?_
        refine sP (opp_as (v := .bool _) rfl rfl) rfl rfl ?_
        refine awp_seq (awp_region rfl ?_)
        refine sP (opp_mv (v := .bool _) rfl rfl) rfl rfl ?_
        refine sP (opp_as (v := .bool _) rfl rfl) rfl rfl ?_
        refine awp_ret ?_
        repeat (first | refine athen_ret ?_ | refine ain_ret ?_)
        refine apost_ret (aend1 (r0 := .bool _) (.tmp .nil) (.noN rfl rfl) ⟨Wk.v ?_, rfl, rfl⟩)
        first | (exfalso; omega) | (refine .of (congrArg AV.bool ?_); unfold Sp.long; dsimp only; (repeat (first | rw [if_pos (by omega)] | rw [if_neg (by omega)])); all_goals first | rfl | (simp only [cmpI, decide_eq_decide]; omega) | (show decide (((body.length % 5 : Nat) : Int) = 0) = _; rw [decide_eq_decide]; omega))
       ·(try simp only [cmpI, errD_nil, qa, qb, qc, qd] at ht30)
        refine awp_skip (awp_seq (awp_region rfl ?_))
        refine sP (opp_as (v := .bool _) rfl rfl) rfl rfl ?_
        refine awp_ret ?_
        repeat (first | refine athen_ret ?_ | refine ain_ret ?_)
        refine apost_ret (aend1 (r0 := .bool _) (.tmp .nil) (.noN rfl rfl) ⟨Wk.v ?_, rfl, rfl⟩)
        first | (exfalso; omega) | (refine .of (congrArg AV.bool ?_); unfold Sp.long; dsimp only; (repeat (first | rw [if_pos (by omega)] | rw [if_neg (by omega)])); all_goals first | rfl | (simp only [cmpI, decide_eq_decide]; omega) | (show decide (((body.length % 5 : Nat) : Int) = 0) = _; rw [decide_eq_decide]; omega))
     ·(try simp only [cmpI, errD_nil, qa, qb, qc, qd] at ht25)
      refine awp_region rfl ?_
      refine sP (opp_cmp rfl rfl rfl rfl) rfl rfl ?_
      refine sP (opp_as (v := .bool _) rfl rfl) rfl rfl ?_
      refine awp_cond _ rfl (fun ht25 => ?_) (fun ht25 => ?_)
      ·(try simp only [cmpI, errD_nil, qa, qb, qc, qd] at ht25)
       refine awp_seq (awp_region rfl ?_)
       refine sP (opp_mv (v := .int _ _) rfl rfl) rfl rfl ?_
       refine sP (opp_cmp rfl rfl rfl rfl) rfl rfl ?_
       refine sP (opp_as (v := .bool _) rfl rfl) rfl rfl ?_
       refine awp_ret ?_
       repeat (first | refine athen_ret ?_ | refine ain_ret ?_)
       refine apost_ret (aend1 (r0 := .bool _) (.tmp .nil) (.noN rfl rfl) ⟨Wk.v ?_, rfl, rfl⟩)
       first | (exfalso; omega) | (refine .of (congrArg AV.bool ?_); unfold Sp.long; dsimp only; (repeat (first | rw [if_pos (by omega)] | rw [if_neg (by omega)])); all_goals first | rfl | (simp only [cmpI, decide_eq_decide]; omega) | (show decide (((body.length % 5 : Nat) : Int) = 0) = _; rw [decide_eq_decide]; omega))
      ·(try simp only [cmpI, errD_nil, qa, qb, qc, qd] at ht25)
       refine awp_seq (awp_region rfl ?_)
       refine sP (opp_cmp rfl rfl rfl rfl) rfl rfl ?_
       refine sP (opp_as (v := .bool _) rfl rfl) rfl rfl ?_
       refine awp_cond _ rfl (fun ht30 => ?_) (fun ht30 => ?_)
       ·(try simp only [cmpI, errD_nil, qa, qb, qc, qd] at ht30)
        refine awp_seq (awp_region rfl ?_)
        refine sP (opp_fieldP rfl rfl fld40_1 rfl) rfl rfl ?_
        refine sP (opp_loadP rfl rfl rfl rfl bi rfl ty38) rfl rfl ?_
        refine sR (opr_call rfl rfl ent52 rfl (c52 body h0 hG2 hG3) (AViews.refl _ rfl)) rfl rfl rfl ?_ -- d=35 t=109 a=34
        refine sP (opp_mv (v := .tup _) rfl rfl) rfl rfl ?_
        refine sP (opp_extract rfl rfl rfl) rfl rfl ?_
        refine sP (opp_extract rfl rfl rfl) rfl rfl ?_
        refine sR (opr_alloc (n := 4) rfl z70) rfl rfl rfl ?_
        refine sR0 (opr_store (v := .agg _) (trn := (.agg _)) rfl rfl rfl rfl bi rfl rfl rfl rfl fr2 ty70 (fun _ _ h => h)) rfl rfl rfl ?_
        refine sP (opp_as (v := .bool _) rfl rfl) rfl rfl ?_
        refine awp_seq (awp_region rfl ?_)
        refine sP (opp_mv (v := .bool _) rfl rfl) rfl rfl ?_
        refine sP (opp_as (v := .bool _) rfl rfl) rfl rfl ?_
        refine awp_ret ?_
        repeat (first | refine athen_ret ?_ | refine ain_ret ?_)
        refine apost_ret (aend1 (r0 := .bool _) (.tmp .nil) (.noN rfl rfl) ⟨Wk.v ?_, rfl, rfl⟩)
        first | (exfalso; omega) | (refine .of (congrArg AV.bool ?_); unfold Sp.long; dsimp only; (repeat (first | rw [if_pos (by omega)] | rw [if_neg (by omega)])); all_goals first | rfl | (simp only [cmpI, decide_eq_decide]; omega) | (show decide (((body.length % 5 : Nat) : Int) = 0) = _; rw [decide_eq_decide]; omega))
       ·(try simp only [cmpI, errD_nil, qa, qb, qc, qd] at ht30)
        refine awp_skip (awp_seq (awp_region rfl ?_))
        refine sP (opp_as (v := .bool _) rfl rfl) rfl rfl ?_
        refine awp_ret ?_
        repeat (first | refine athen_ret ?_ | refine ain_ret ?_)
        refine apost_ret (aend1 (r0 := .bool _) (.tmp .nil) (.noN rfl rfl) ⟨Wk.v ?_, rfl, rfl⟩)
        first | (exfalso; omega) | (refine .of (congrArg AV.bool ?_); unfold Sp.long; dsimp only; (repeat (first | rw [if_pos (by omega)] | rw [if_neg (by omega)])); all_goals first | rfl | (simp only [cmpI, decide_eq_decide]; omega) | (show decide (((body.length % 5 : Nat) : Int) = 0) = _; rw [decide_eq_decide]; omega))
theorem all_take (b : List UInt8) (p : UInt8 → Bool) (h : ∀ j, j < b.length → p (b.getD j 0) = true) : b.all p = true := by
  rw [List.all_eq_true]
  intro x hx
  obtain ⟨j, hj, he⟩ := List.getElem_of_mem hx
  have := h j hj
  rwa [List.getD_eq_getElem?_getD, List.getElem?_eq_getElem hj, Option.getD_some, he] at this
theorem all_not (b : List UInt8) (p : UInt8 → Bool) (j : Nat) (hj : j < b.length) (h : p (b.getD j 0) = false) : b.all p = false := by
  rw [List.all_eq_false]
  refine ⟨b.getD j 0, ?_, by rw [h]; simp⟩
  rw [List.getD_eq_getElem?_getD, List.getElem?_eq_getElem hj, Option.getD_some]; exact List.getElem_mem _
theorem c25 (r : Rc) (h0 : r.body.length ≤ 1099511627776) (h9 : r.tag = 9 → 1 ≤ r.body.length) : APure (V ea cds gl) 25 [rcAV r] false (.bool (Sp.flags r)) := by
 unfold rcAV
 refine acalls_of_body (N := 25) Tryd.func25 rfl rfl (Nat.le_of_ble_eq_true rfl) fun C hV hN hM hO => ?_
 obtain ⟨_, _, w0, G0, σ0, _, own0⟩ := C; dsimp only at hV hN hM hO; subst hV; subst hN; subst hM
 refine awp_seq (awp_region rfl ?_)
 refine sR (opr_box (y := .agg _) (n := 1) rfl rfl rfl) rfl rfl rfl ?_
 refine sP (opp_as (v := .bool _) rfl rfl) rfl rfl ?_
 refine awp_seq (awp_region rfl ?_)
 refine sP (opp_fieldP rfl rfl fld40_1 rfl) rfl rfl ?_
 refine sP (opp_loadP rfl rfl rfl rfl bi rfl ty38) rfl rfl ?_
 refine sP (opp_as (v := .sl _ _ _ _) rfl rfl) rfl rfl ?_
 refine awp_seq (awp_seq (awp_region rfl ?_))
 refine sP (opp_fieldP rfl rfl fld40_0 rfl) rfl rfl ?_
 refine sP (opp_loadP rfl rfl rfl rfl bi rfl ty3) rfl rfl ?_
 refine awp_block (awp_seq (awp_region rfl ?_))
 refine sP (opp_cmp rfl rfl rfl rfl) rfl rfl ?_
 refine sP (opp_as (v := .bool _) rfl rfl) rfl rfl ?_
 refine awp_cond _ rfl (fun ht10 => ?_) (fun ht10 => ?_)
 ·(try simp only [cmpI, errD_nil, qa, qb, qc, qd] at ht10)
  have h91 := h9 (by omega)
  refine awp_region rfl ?_
  refine sP (opp_mv (v := .sl _ _ _ _) rfl rfl) rfl rfl ?_
  refine sP (opp_sliceSl rfl rfl rfl rfl el38 (by omega) (by omega) (by omega)) rfl rfl ?_
  refine sP (opp_as (v := .sl _ _ _ _) rfl rfl) rfl rfl ?_
  refine awp_seq (awp_seq (awp_region rfl ?_))
  refine sP (opp_mv (v := .sl _ _ _ _) rfl rfl) rfl rfl ?_
  refine sP (opp_lenSl rfl rfl un38) rfl rfl ?_
  refine sP (opp_mv (v := .int _ _) rfl rfl) rfl rfl ?_
  refine awp_block ?_
  refine awp_loopK (ι := Nat) (fun i => i ≤ 1 ∧ ∀ j, j < i → (r.body.getD j 0).toNat ≤ 1) (fun i => [(2, .top), (5, .top), (18, .int .i64 (i : Int)), (19, .top), (20, .top), (21, .top), (22, .top), (23, .top), (24, .top)]) (fun i => []) [] (fun i => 1 - i) (0) (⟨Nat.zero_le _, fun j hj => absurd hj (Nat.not_lt_zero j)⟩) (by
   refine imp_over [] rfl rfl (by kernel_rfl) ?_ ?_
   ·iterate 9 refine And.intro wkv ?_
    exact True.intro
   ·exact True.intro
   ) ?_
  intro i hi1
  refine awp_seq (awp_region rfl ?_)
  refine sP (opp_cmp rfl rfl rfl rfl) rfl rfl ?_
  refine awp_seq ?_
  refine awp_cond _ rfl (fun ht19 => ?_) (fun ht19 => ?_)
  ·(try simp only [cmpI, errD_nil, qa, qb, qc, qd] at ht19)
   refine awp_skip (awp_seq (awp_block (awp_seq (awp_region rfl ?_))))
   refine sP (opp_indexSl rfl rfl rfl el38 (by omega) (by omega)) rfl rfl ?_
   refine sP (opp_loadF rfl rfl ty5) rfl rfl ?_
   refine sP (opp_as (v := .int _ _) rfl rfl) rfl rfl ?_
   refine awp_seq (awp_region rfl ?_)
   refine sP (opp_mv (v := .int _ _) rfl rfl) rfl rfl ?_
   refine sP (opp_cmp rfl rfl rfl rfl) rfl rfl ?_
   refine awp_cond _ rfl (fun ht23 => ?_) (fun ht23 => ?_)
   ·(try simp only [cmpI, errD_nil, qa, qb, qc, qd] at ht23)
    refine awp_seq (awp_region rfl ?_)
    refine sP (opp_as (v := .bool _) rfl rfl) rfl rfl ?_
    refine awp_ret ?_
    repeat (first | refine athen_ret ?_ | refine ain_ret ?_)
    refine apost_ret (aend1 (r0 := .bool _) (.tmp .nil) (.noN rfl rfl) ⟨Wk.v ?_, rfl, rfl⟩)
    have h8 : 1 < (r.body.getD i 0).toNat := by have h7 := ht23; rw [show Int.toNat 0 + ((i : Nat) : Int).toNat = i by simp] at h7; omega
    have hi0 : i = 0 := by omega
    subst hi0
    rw [show Sp.flags r = false by unfold Sp.flags; rw [if_pos ht10]; simp only [decide_eq_false_iff_not]; omega]; exact .refl
   ·(try simp only [cmpI, errD_nil, qa, qb, qc, qd] at ht23)
    refine awp_skip (awp_region rfl ?_)
    refine sP (opp_arith rfl rfl rfl (.inl ⟨rfl, w64 (by omega)⟩)) rfl rfl ?_
    refine sP (opp_mv (v := .int _ _) rfl rfl) rfl rfl ?_
    have h8 : (r.body.getD i 0).toNat ≤ 1 := by have h7 := ht23; rw [show Int.toNat 0 + ((i : Nat) : Int).toNat = i by simp] at h7; omega
    refine Exists.intro (i + 1) (And.intro (And.intro (⟨by omega, fun j hj => by rcases Nat.lt_succ_iff_lt_or_eq.1 hj with h | h; exact hi1.2 j h; rw [h]; exact h8⟩) (by first | omega | (dsimp only; omega))) (by
     refine imp_over [] rfl rfl (by kernel_rfl) ?_ ?_
     ·iterate 9 refine And.intro wkv ?_
      exact True.intro
     ·exact True.intro
     ))
  ·(try simp only [cmpI, errD_nil, qa, qb, qc, qd] at ht19)
   refine awp_exit (awp_seq (awp_region rfl ?_))
   refine sP (opp_as (v := .bool _) rfl rfl) rfl rfl ?_
   refine awp_ret ?_
   repeat (first | refine athen_ret ?_ | refine ain_ret ?_)
   refine apost_ret (aend1 (r0 := .bool _) (.tmp .nil) (.noN rfl rfl) ⟨Wk.v ?_, rfl, rfl⟩)
   have hi0 : 1 ≤ i := by omega
   rw [show Sp.flags r = true by unfold Sp.flags; rw [if_pos ht10]; simp only [decide_eq_true_eq]; exact hi1.2 0 (by omega)]; exact .refl
 ·(try simp only [cmpI, errD_nil, qa, qb, qc, qd] at ht10)
  refine awp_seq (awp_region rfl ?_)
  refine sP (opp_cmp rfl rfl rfl rfl) rfl rfl ?_
  refine sP (opp_as (v := .bool _) rfl rfl) rfl rfl ?_
  refine awp_cond _ rfl (fun ht14 => ?_) (fun ht14 => ?_)
  ·(try simp only [cmpI, errD_nil, qa, qb, qc, qd] at ht14)
   refine awp_skip (awp_seq (awp_seq (awp_region rfl ?_)))
   refine sP (opp_mv (v := .sl _ _ _ _) rfl rfl) rfl rfl ?_
   refine sP (opp_lenSl rfl rfl un38) rfl rfl ?_
   refine sP (opp_mv (v := .int _ _) rfl rfl) rfl rfl ?_
   refine awp_block ?_
   refine awp_loopK (ι := Nat) (fun i => i ≤ r.body.length ∧ ∀ j, j < i → (r.body.getD j 0).toNat ≤ 1) (fun i => [(2, .top), (5, .top), (18, .int .i64 (i : Int)), (19, .top), (20, .top), (21, .top), (22, .top), (23, .top), (24, .top)]) (fun i => []) [] (fun i => r.body.length - i) (0) (⟨Nat.zero_le _, fun j hj => absurd hj (Nat.not_lt_zero j)⟩) (by
    refine imp_over [] rfl rfl (by kernel_rfl) ?_ ?_
    ·iterate 9 refine And.intro wkv ?_
     exact True.intro
    ·exact True.intro
    ) ?_
   intro i hi2
   refine awp_seq (awp_region rfl ?_)
   refine sP (opp_cmp rfl rfl rfl rfl) rfl rfl ?_
   refine awp_seq ?_
   refine awp_cond _ rfl (fun ht19 => ?_) (fun ht19 => ?_)
   ·(try simp only [cmpI, errD_nil, qa, qb, qc, qd] at ht19)
    refine awp_skip (awp_seq (awp_block (awp_seq (awp_region rfl ?_))))
    refine sP (opp_indexSl rfl rfl rfl el38 (by omega) (by omega)) rfl rfl ?_
    refine sP (opp_loadF rfl rfl ty5) rfl rfl ?_
    refine sP (opp_as (v := .int _ _) rfl rfl) rfl rfl ?_
    refine awp_seq (awp_region rfl ?_)
    refine sP (opp_mv (v := .int _ _) rfl rfl) rfl rfl ?_
    refine sP (opp_cmp rfl rfl rfl rfl) rfl rfl ?_
    refine awp_cond _ rfl (fun ht23 => ?_) (fun ht23 => ?_)
    ·(try simp only [cmpI, errD_nil, qa, qb, qc, qd] at ht23)
     refine awp_seq (awp_region rfl ?_)
     refine sP (opp_as (v := .bool _) rfl rfl) rfl rfl ?_
     refine awp_ret ?_
     repeat (first | refine athen_ret ?_ | refine ain_ret ?_)
     refine apost_ret (aend1 (r0 := .bool _) (.tmp .nil) (.noN rfl rfl) ⟨Wk.v ?_, rfl, rfl⟩)
     have h8 : 1 < (r.body.getD i 0).toNat := by have h7 := ht23; rw [show ((i : Nat) : Int).toNat = i by simp] at h7; omega
     rw [show Sp.flags r = false by unfold Sp.flags; rw [if_neg (by omega), if_pos (by omega)]; exact all_not _ _ i (by omega) (by simp only [decide_eq_false_iff_not]; omega)]; exact .refl
    ·(try simp only [cmpI, errD_nil, qa, qb, qc, qd] at ht23)
     refine awp_skip (awp_region rfl ?_)
     refine sP (opp_arith rfl rfl rfl (.inl ⟨rfl, w64 (by omega)⟩)) rfl rfl ?_
     refine sP (opp_mv (v := .int _ _) rfl rfl) rfl rfl ?_
     have h9 : (r.body.getD i 0).toNat ≤ 1 := by have h7 := ht23; rw [show ((i : Nat) : Int).toNat = i by simp] at h7; omega
     refine Exists.intro (i + 1) (And.intro (And.intro (⟨by omega, fun j hj => by rcases Nat.lt_succ_iff_lt_or_eq.1 hj with h | h; exact hi2.2 j h; rw [h]; exact h9⟩) (by first | omega | (dsimp only; omega))) (by
      refine imp_over [] rfl rfl (by kernel_rfl) ?_ ?_
      ·iterate 9 refine And.intro wkv ?_
       exact True.intro
      ·exact True.intro
      ))
   ·(try simp only [cmpI, errD_nil, qa, qb, qc, qd] at ht19)
    refine awp_exit (awp_seq (awp_region rfl ?_))
    refine sP (opp_as (v := .bool _) rfl rfl) rfl rfl ?_
    refine awp_ret ?_
    repeat (first | refine athen_ret ?_ | refine ain_ret ?_)
    refine apost_ret (aend1 (r0 := .bool _) (.tmp .nil) (.noN rfl rfl) ⟨Wk.v ?_, rfl, rfl⟩)
    rw [show Sp.flags r = true by unfold Sp.flags; rw [if_neg (by omega), if_pos (by omega)]; exact all_take _ _ (fun j hj => by simp only [decide_eq_true_eq]; exact hi2.2 j (by omega))]; exact .refl
  ·(try simp only [cmpI, errD_nil, qa, qb, qc, qd] at ht14)
   refine awp_seq (awp_region rfl ?_)
   refine sP (opp_as (v := .bool _) rfl rfl) rfl rfl ?_
   refine awp_ret ?_
   repeat (first | refine athen_ret ?_ | refine ain_ret ?_)
   refine apost_ret (aend1 (r0 := .bool _) (.tmp .nil) (.noN rfl rfl) ⟨Wk.v ?_, rfl, rfl⟩)
   rw [show Sp.flags r = true by unfold Sp.flags; rw [if_neg (by omega), if_neg (by omega)]]; exact .refl
end
end Go.Proofs.YtpmgdmbcdohgcaaDoor
/- The engine, 28: a literal row of four pointers to own blocks (my own text; any program). -/
set_option linter.unusedSimpArgs false
namespace Go.Fy
open Go.RowKit
section
variable {C : Ctx} {o : Oper} {ρ : Operand → AV} {η : Nat → Option AV}
theorem opr_build4 {t e : TypeId} {by_ : Nat} {x0 x1 x2 x3 : Operand} {z : AV} {n i0 i1 i2 i3 o0 o1 o2 o3 : Nat} {p0 p1 p2 p3 : List Nat} (ho : o.op = .buildSlice t 4 #[(0, x0), (1, x1), (2, x2), (3, x3)]) (ht : elB C.V.P t = some (e, 1, by_)) (hz : Zero C.V.P e z)
    (h0 : ρ x0 = .ptr i0 p0 o0) (h1 : ρ x1 = .ptr i1 p1 o1) (h2 : ρ x2 = .ptr i2 p2 o2) (h3 : ρ x3 = .ptr i3 p3 o3) :
    OpR C o ρ η ⟨.osl n 1 0 4 4, [(n, some (.agg [.ptr i0 p0 o0, .ptr i1 p1 o1, .ptr i2 p2 o2, .ptr i3 p3 o3]))], [n]⟩ := by
  intro hd S hρ hη hn a w ⟨σ, hc⟩
  obtain ⟨hu, i, hi, hs1, rfl⟩ := elB_spec ht
  obtain ⟨i', v, hi', hv, hs, hr⟩ := hz
  rw [hi] at hi'
  simp only [Option.some.injEq] at hi'
  subst hi'
  have g0 := hρ x0 (by simp [ho, Op.operands]) _ _ rfl (ev_rel hc x0)
  have g1 := hρ x1 (by simp [ho, Op.operands]) _ _ rfl (ev_rel hc x1)
  have g2 := hρ x2 (by simp [ho, Op.operands]) _ _ rfl (ev_rel hc x2)
  have g3 := hρ x3 (by simp [ho, Op.operands]) _ _ rfl (ev_rel hc x3)
  rw [h0] at g0; rw [h1] at g1; rw [h2] at g2; rw [h3] at g3
  simp only [RelV, Rel, List.cons.injEq, and_true] at g0 g1 g2 g3
  have hvs : v.cells.size = 1 := by rw [hs, hs1]
  have hrun : (execOp a.eval o).run C.V.P w = .ok (.value (.slice (some ⟨w.heap.size, 0, none⟩) 4 4)) (w.alloc (.cells #[a.eval x0, a.eval x1, a.eval x2, a.eval x3] e)) := by
    have hsz : (Go.sizeOf e).run C.V.P w = .ok 1 w := by simp [Go.sizeOf, typeInfo, hi, hs1]
    have hzv : (zeroValue e).run C.V.P w = .ok v w := by simp [zeroValue, typeInfo, hi, hv, Result.andThen]
    have hr4 : (Array.range 4).map (fun x => v.cells[x % v.cells.size]!) = #[v.cells[0 % v.cells.size]!, v.cells[1 % v.cells.size]!, v.cells[2 % v.cells.size]!, v.cells[3 % v.cells.size]!] := by
      rw [show Array.range 4 = #[0, 1, 2, 3] by decide]; simp
    simp only [execOp, ho, Instr.buildSlice, Sem.run_bind, run_underlying hu, Result.andThen, hsz, Sem.run_map]
    rw [if_neg (by decide), if_neg (by decide)]
    simp only [Sem.run_bind, hzv, Sem.run_pure, Result.andThen, Nat.reduceMul, hr4]
    simp only [List.map_toArray, List.map_cons, List.map_nil, g0.2, g1.2, g2.2, g3.2]
    simp [Instr.fill, Value.cells, newRow, Result.andThen, List.zipIdx]
  unfold Oper.wp
  rw [hrun]
  have h4 := hc.alloc n (hn n (by simp)) (.agg [.ptr i0 p0 o0, .ptr i1 p1 o1, .ptr i2 p2 o2, .ptr i3 p3 o3]) #[a.eval x0, a.eval x1, a.eval x2, a.eval x3] e (0, 0) [a.eval x0, a.eval x1, a.eval x2, a.eval x3] [] (by simp) (fun o _ h => by simp at h) (fun E hE => by
    simp only [Rel, RelL]
    refine ⟨[_], _, rfl, ⟨hE.nm _ g0.1, by rw [hE.σ _ g0.1]; simpa using g0.2⟩, [_], _, rfl, ⟨hE.nm _ g1.1, by rw [hE.σ _ g1.1]; simpa using g1.2⟩, [_], _, rfl, ⟨hE.nm _ g2.1, by rw [hE.σ _ g2.1]; simpa using g2.2⟩, [_], _, rfl, ⟨hE.nm _ g3.1, by rw [hE.σ _ g3.1]; simpa using g3.2⟩, rfl⟩)
  refine ⟨_, h4.put o.dst (.osl n 1 0 4 4) _ hd ?_⟩
  simp only [RelV, Rel, Ctx.RE]
  refine ⟨by simp, Nat.le_refl _, 0, 4, by simp, Nat.le_refl _, by simp, #[a.eval x0, a.eval x1, a.eval x2, a.eval x3], e, (0, 0), ?_, by simp⟩
  simp only [if_true]
  show (w.heap.push _)[w.heap.size]? = _
  simp
end
end Go.Fy
/- Layer 16: a process out of bytes (walks over this dump). -/
namespace Go.Proofs.YtpmgdmbcdohgcaaDoor
attribute [local irreducible] Tryd.prog
open Go.Fy
set_option linter.unusedSimpArgs false
set_option linter.unusedVariables false
def regAt (b : List UInt8) (i j : Nat) : AV := .int .u32 ((if j ≤ i then (Sp.proc b).regs.getD j 0 else 0 : Nat) : Int)
def upTo (k q n : Nat) : AV := .int .i64 ((bif Nat.blt q k then n else 0 : Nat) : Int)
theorem regs_get (b : List UInt8) (i : Nat) (h : i < 15) : (Sp.proc b).regs.getD (i + 1) 0 = Sp.fld b (4 * i) 4 := by
  simp [Sp.proc, List.getD_eq_getElem?_getD, h]
theorem regAt_next (b : List UInt8) (i j : Nat) (h : i < 15) : (if j = ((i : Int) + 1).toNat then AV.int .u32 (Sp.fld b (4 * i) 4 : Nat) else regAt b i j) = regAt b (i + 1) j := by
  rw [show ((i : Int) + 1).toNat = i + 1 by omega]
  by_cases h1 : j = i + 1
  · subst h1; rw [if_pos rfl]; unfold regAt; rw [if_pos (Nat.le_refl _), regs_get b i h]
  · rw [if_neg h1]; unfold regAt
    by_cases h2 : j ≤ i
    · rw [if_pos h2, if_pos (by omega)]
    · rw [if_neg h2, if_neg (by omega)]
section
variable {ea : Nat → Addr} {cds : List Nat} {gl : Nat → Option AV}
theorem c53 (b : List UInt8) (h0 : b.length = 68) : APure (V ea cds gl) 53 [.sl 1 false b.length (bAt b)] false (prAV (Sp.proc b)) := by
 refine acalls_of_body (N := 55) Tryd.func53 rfl rfl (Nat.le_of_ble_eq_true rfl) fun C hV hN hM hO => ?_
 obtain ⟨_, _, w0, G0, σ0, _, own0⟩ := C; dsimp only at hV hN hM hO; subst hV; subst hN; subst hM
 refine awp_seq (awp_region rfl ?_)
 refine sR (opr_alloc (n := 2) rfl z116) rfl rfl rfl ?_
 refine awp_seq (awp_region rfl ?_)
 refine sP (opp_mv (v := .sl _ _ _ _) rfl rfl) rfl rfl ?_
 refine sR (opr_callO (rl := [(8, 13)]) (r1 := .ptr _ _ _) (H1 := [(13, some (.agg [.sl _ _ _ _, .int _ _, .int _ _]))]) (n1 := [13]) rfl rfl ent45 rfl (co45 b (by omega)) (AViews.refl _ rfl) rfl rfl rfl rfl) rfl rfl rfl ?_
 refine sP (opp_as (v := .ptr _ _ _) rfl rfl) rfl rfl ?_
 refine awp_seq (awp_region rfl ?_)
 refine sR (opr_alloc (n := 4) rfl z116) rfl rfl rfl ?_
 refine awp_seq (awp_seq (awp_region rfl ?_))
 refine sP (opp_as (v := .int _ _) rfl rfl) rfl rfl ?_
 refine awp_block ?_
 refine awp_loopK (ι := Nat) (fun i => i ≤ 15) (fun i => [(5, .int .i64 ((i : Int) + 1)), (6, .top), (7, .top), (14, .top), (15, .top), (16, .top), (17, .top), (18, .top), (19, .top), (20, .top), (21, .top), (22, .top), (23, .top), (24, .top), (25, .top), (26, .top), (27, .top)]) (fun i => [(13, some (.agg [.sl 1 false b.length (bAt b), .int .i64 ((4 * i : Nat) : Int), .int .i64 (b.length : Int)])), (4, some (.agg [.arr 1 16 (regAt b i), .int .u32 0, .int .i64 0, .int .i64 0, .int .i64 0, .int .i64 0]))]) [] (fun i => 15 - i) (0) (Nat.zero_le _) (by
  refine imp_over [] rfl rfl (by kernel_rfl) ?_ ?_
  ·iterate 17 refine And.intro wkv ?_
   exact True.intro
  ·refine And.intro (And.intro rfl (And.intro rfl (Exists.intro _ (And.intro rfl wkc)))) ?_
   refine And.intro (And.intro rfl (And.intro rfl (Exists.intro _ (And.intro rfl (by exact Wk.c (Wk.agg (.cons (.arr (fun j hj => by unfold regAt; by_cases h : j ≤ 0; rw [if_pos h, show j = 0 by omega]; rfl; rw [if_neg h]; rfl)) (.cons .refl (.cons .refl (.cons .refl (.cons .refl (.cons .refl .nil)))))))))))) ?_
   exact True.intro
  ) ?_
 intro i hi1
 refine awp_seq (awp_seq (awp_region rfl ?_))
 refine sP (opp_mv (v := .int _ _) rfl rfl) rfl rfl ?_
 refine sP (opp_cmp rfl rfl rfl rfl) rfl rfl ?_
 refine awp_cond _ rfl (fun ht15 => ?_) (fun ht15 => ?_)
 ·(try simp only [cmpI, errD_nil, qa, qb, qc, qd] at ht15)
  refine awp_skip (awp_seq (awp_block (awp_seq (awp_region rfl ?_))))
  refine sP (opp_mv (v := .ptr _ _ _) rfl rfl) rfl rfl ?_
  refine sR (opr_callG (rl := [(1, 13)]) (r1 := .tup [.int _ _, .err _]) (H1 := [(13, some (.agg [.sl _ _ _ _, .int _ _, .int _ _]))]) (n1 := []) rfl rfl ent47 (cg47c b false (4 * i) b.length (by omega) (by omega) (by omega)) (And.intro (And.intro rfl wka) True.intro) (And.intro (And.intro rfl (Exists.intro _ (And.intro rfl wkc))) True.intro) rfl rfl rfl rfl) rfl rfl rfl ?_
  refine sP (opp_mv (v := .tup _) rfl rfl) rfl rfl ?_
  refine sP (opp_extract rfl rfl rfl) rfl rfl ?_
  refine sP (opp_extract rfl rfl rfl) rfl rfl ?_
  refine sP (opp_as (v := .int _ _) rfl rfl) rfl rfl ?_
  refine sP (opp_as (v := .err _) rfl rfl) rfl rfl ?_
  have hf := fld_lt b (4 * i) 4
  refine awp_region rfl ?_
  refine sP (opp_mv (v := .int _ _) rfl rfl) rfl rfl ?_
  refine sP (opp_mv (v := .int _ _) rfl rfl) rfl rfl ?_
  refine sP (opp_convInt rfl rfl un3s un45 (wu32 (by omega))) rfl rfl ?_
  refine sP (opp_fieldP rfl rfl fld116_0 rfl) rfl rfl ?_
  refine sP (opp_indexArrP rfl rfl rfl arr114 (by omega) (by omega)) rfl rfl ?_
  refine sR0 (opr_store (v := .int _ _) (trn := (.agg [_, _, _, _, _, _])) rfl rfl rfl rfl bi rfl rfl rfl rfl fr2 ty45 (fun _ _ h => h)) rfl rfl rfl ?_
  refine awp_region rfl ?_
  refine sP (opp_mv (v := .int _ _) rfl rfl) rfl rfl ?_
  refine sP (opp_arith rfl rfl rfl (.inl ⟨rfl, w64 (by omega)⟩)) rfl rfl ?_
  refine sP (opp_as (v := .int _ _) rfl rfl) rfl rfl ?_
  refine Exists.intro (i + 1) (And.intro (And.intro (by omega) (by first | omega | (dsimp only; omega))) (by
   refine imp_over [] rfl rfl (by kernel_rfl) ?_ ?_
   ·refine And.intro (by exact Or.inr (And.intro rfl (WkV.of (by show AV.int .i64 _ = AV.int .i64 _; simp)))) ?_
    iterate 16 refine And.intro wkv ?_
    exact True.intro
   ·refine And.intro (And.intro rfl (And.intro rfl (Exists.intro _ (And.intro rfl (by exact WkC.of (by show AV.agg [_, AV.int .i64 _, _] = AV.agg [_, AV.int .i64 _, _]; rw [show 4 * i + 4 = 4 * (i + 1) by omega]; rfl)))))) ?_
    refine And.intro (And.intro rfl (And.intro rfl (Exists.intro _ (And.intro rfl (by show WkC (AV.agg [AV.arr 1 16 _, _, _, _, _, _]) (AV.agg [AV.arr 1 16 _, _, _, _, _, _]); exact Wk.c (Wk.agg (.cons (.arr (fun j hj => regAt_next b i j (by omega))) (.cons .refl (.cons .refl (.cons .refl (.cons .refl (.cons .refl .nil)))))))))))) ?_
    exact True.intro
   ))
 ·(try simp only [cmpI, errD_nil, qa, qb, qc, qd] at ht15)
  refine awp_exit (awp_seq ?_)
  have hie : i = 15 := by omega
  subst hie
  refine awp_region rfl ?_
  refine sP (opp_mv (v := .ptr _ _ _) rfl rfl) rfl rfl ?_
  refine sR (opr_callG (rl := [(1, 13)]) (r1 := .tup [.int _ _, .err _]) (H1 := [(13, some (.agg [.sl _ _ _ _, .int _ _, .int _ _]))]) (n1 := []) rfl rfl ent47 (cg47c b false 60 b.length (by omega) (by omega) (by omega)) (And.intro (And.intro rfl wka) True.intro) (And.intro (And.intro rfl (Exists.intro _ (And.intro rfl wkc))) True.intro) rfl rfl rfl rfl) rfl rfl rfl ?_
  refine sP (opp_mv (v := .tup _) rfl rfl) rfl rfl ?_
  refine sP (opp_extract rfl rfl rfl) rfl rfl ?_
  refine sP (opp_extract rfl rfl rfl) rfl rfl ?_
  refine sP (opp_as (v := .int _ _) rfl rfl) rfl rfl ?_
  refine sP (opp_as (v := .err _) rfl rfl) rfl rfl ?_
  refine awp_seq ?_
  have hf := fld_lt b 60 4
  refine awp_region rfl ?_
  refine sP (opp_mv (v := .int _ _) rfl rfl) rfl rfl ?_
  refine sP (opp_convInt rfl rfl un3s un45 (wu32 (by omega))) rfl rfl ?_
  refine sP (opp_fieldP rfl rfl fld116_1 rfl) rfl rfl ?_
  refine sR0 (opr_store (v := .int _ _) (trn := (.agg [_, .int _ _, _, _, _, _])) rfl rfl rfl rfl bi rfl rfl rfl rfl fr2 ty45 (fun _ _ h => h)) rfl rfl rfl ?_
  refine awp_seq (awp_seq (awp_region rfl ?_))
  refine sP (opp_fieldP rfl rfl fld116_2 rfl) rfl rfl ?_
  refine sP (opp_fieldP rfl rfl fld116_3 rfl) rfl rfl ?_
  refine sP (opp_fieldP rfl rfl fld116_4 rfl) rfl rfl ?_
  refine sP (opp_fieldP rfl rfl fld116_5 rfl) rfl rfl ?_
  refine sR (opr_build4 (n := 40) rfl eb147 z146 rfl rfl rfl rfl) rfl rfl rfl ?_
  refine sP (opp_lenOsl rfl rfl un147) rfl rfl ?_
  refine sP (opp_mv (v := .int _ _) rfl rfl) rfl rfl ?_
  refine awp_block ?_
  refine awp_loopK (ι := Nat) (fun k => k ≤ 4) (fun k => [(11, .top), (42, .int .i64 (k : Int)), (43, .top), (44, .top), (45, .top), (46, .top), (47, .top), (48, .top), (49, .top), (50, .top), (51, .top), (52, .top), (53, .top)]) (fun k => [(13, some (.agg [.sl 1 false b.length (bAt b), .int .i64 ((64 + k : Nat) : Int), .int .i64 (b.length : Int)])), (4, some (.agg [.arr 1 16 (regAt b 15), .int .u32 (Sp.fld b 60 4 : Nat), upTo k 0 (Sp.fld b 64 1), upTo k 1 (Sp.fld b 65 1), upTo k 2 (Sp.fld b 66 1), upTo k 3 (Sp.fld b 67 1)]))]) [] (fun k => 4 - k) (0) (Nat.zero_le _) (by
   refine imp_over [] rfl rfl (by kernel_rfl) ?_ ?_
   ·iterate 13 refine And.intro wkv ?_
    exact True.intro
   ·refine And.intro (And.intro rfl (And.intro rfl (Exists.intro _ (And.intro rfl wkc)))) ?_
    refine And.intro (And.intro rfl (And.intro rfl (Exists.intro _ (And.intro rfl wkc)))) ?_
    exact True.intro
   ) ?_
  intro k hk; have hk5 : k = 0 ∨ k = 1 ∨ k = 2 ∨ k = 3 ∨ k = 4 := (by omega); rcases hk5 with rfl | rfl | rfl | rfl | rfl
  ·skip
   refine awp_seq (awp_region rfl ?_)
   refine sP (opp_cmp rfl rfl rfl rfl) rfl rfl ?_
   refine awp_seq ?_
   refine awp_cond _ rfl (fun ht43 => ?_) (fun ht43 => ?_)
   ·(try simp only [cmpI, errD_nil, qa, qb, qc, qd] at ht43)
    refine awp_skip (awp_seq (awp_block (awp_seq (awp_region rfl ?_))))
    refine sP (opp_indexOsl0 rfl rfl rfl el147 (by omega) (by omega)) rfl rfl ?_
    refine sP (opp_loadP rfl rfl rfl rfl bi rfl ty146) rfl rfl ?_
    refine sP (opp_as (v := .ptr _ _ _) rfl rfl) rfl rfl ?_
    refine awp_region rfl ?_
    refine sP (opp_mv (v := .ptr _ _ _) rfl rfl) rfl rfl ?_
    refine sP (opp_mv (v := .ptr _ _ _) rfl rfl) rfl rfl ?_
    refine sR (opr_callG (rl := [(1, 13)]) (r1 := .tup [.int _ _, .err _]) (H1 := [(13, some (.agg [.sl _ _ _ _, .int _ _, .int _ _]))]) (n1 := []) rfl rfl ent56 (cg56c b false 64 b.length (by omega) (by omega) (by omega)) (And.intro (And.intro rfl wka) True.intro) (And.intro (And.intro rfl (Exists.intro _ (And.intro rfl wkc))) True.intro) rfl rfl rfl rfl) rfl rfl rfl ?_
    refine sP (opp_mv (v := .tup _) rfl rfl) rfl rfl ?_
    refine sP (opp_extract rfl rfl rfl) rfl rfl ?_
    refine sP (opp_extract rfl rfl rfl) rfl rfl ?_
    refine sP (opp_nilCheckP rfl rfl) rfl rfl ?_
    refine sR0 (opr_store (v := .int _ _) (trn := (.agg [_, _, _, _, _, _])) rfl rfl rfl rfl bi rfl rfl rfl rfl fr2 ty3 (fun _ _ h => h)) rfl rfl rfl ?_
    refine awp_region rfl ?_
    refine sP (opp_arith rfl rfl rfl (.inl ⟨rfl, w64 (by omega)⟩)) rfl rfl ?_
    refine sP (opp_mv (v := .int _ _) rfl rfl) rfl rfl ?_
    refine Exists.intro (1) (And.intro (And.intro (by omega) (by first | omega | (dsimp only; omega))) (by
     refine imp_over [] rfl rfl (by kernel_rfl) ?_ ?_
     ·iterate 13 refine And.intro wkv ?_
      exact True.intro
     ·refine And.intro (And.intro rfl (And.intro rfl (Exists.intro _ (And.intro rfl wkc)))) ?_
      refine And.intro (And.intro rfl (And.intro rfl (Exists.intro _ (And.intro rfl wkc)))) ?_
      exact True.intro
     ))
   ·(try simp only [cmpI, errD_nil, qa, qb, qc, qd] at ht43)
    exfalso; simp [cmpI] at ht43
  ·skip
   refine awp_seq (awp_region rfl ?_)
   refine sP (opp_cmp rfl rfl rfl rfl) rfl rfl ?_
   refine awp_seq ?_
   refine awp_cond _ rfl (fun ht43 => ?_) (fun ht43 => ?_)
   ·(try simp only [cmpI, errD_nil, qa, qb, qc, qd] at ht43)
    refine awp_skip (awp_seq (awp_block (awp_seq (awp_region rfl ?_))))
    refine sP (opp_indexOsl0 rfl rfl rfl el147 (by omega) (by omega)) rfl rfl ?_
    refine sP (opp_loadP rfl rfl rfl rfl bi rfl ty146) rfl rfl ?_
    refine sP (opp_as (v := .ptr _ _ _) rfl rfl) rfl rfl ?_
    refine awp_region rfl ?_
    refine sP (opp_mv (v := .ptr _ _ _) rfl rfl) rfl rfl ?_
    refine sP (opp_mv (v := .ptr _ _ _) rfl rfl) rfl rfl ?_
    refine sR (opr_callG (rl := [(1, 13)]) (r1 := .tup [.int _ _, .err _]) (H1 := [(13, some (.agg [.sl _ _ _ _, .int _ _, .int _ _]))]) (n1 := []) rfl rfl ent56 (cg56c b false 65 b.length (by omega) (by omega) (by omega)) (And.intro (And.intro rfl wka) True.intro) (And.intro (And.intro rfl (Exists.intro _ (And.intro rfl wkc))) True.intro) rfl rfl rfl rfl) rfl rfl rfl ?_
    refine sP (opp_mv (v := .tup _) rfl rfl) rfl rfl ?_
    refine sP (opp_extract rfl rfl rfl) rfl rfl ?_
    refine sP (opp_extract rfl rfl rfl) rfl rfl ?_
    refine sP (opp_nilCheckP rfl rfl) rfl rfl ?_
    refine sR0 (opr_store (v := .int _ _) (trn := (.agg [_, _, _, _, _, _])) rfl rfl rfl rfl bi rfl rfl rfl rfl fr2 ty3 (fun _ _ h => h)) rfl rfl rfl ?_
    refine awp_region rfl ?_
    refine sP (opp_arith rfl rfl rfl (.inl ⟨rfl, w64 (by omega)⟩)) rfl rfl ?_
    refine sP (opp_mv (v := .int _ _) rfl rfl) rfl rfl ?_
    refine Exists.intro (2) (And.intro (And.intro (by omega) (by first | omega | (dsimp only; omega))) (by
     refine imp_over [] rfl rfl (by kernel_rfl) ?_ ?_
     ·iterate 13 refine And.intro wkv ?_
      exact True.intro
     ·refine And.intro (And.intro rfl (And.intro rfl (Exists.intro _ (And.intro rfl wkc)))) ?_
      refine And.intro (And.intro rfl (And.intro rfl (Exists.intro _ (And.intro rfl wkc)))) ?_
      exact True.intro
     ))
   ·(try simp only [cmpI, errD_nil, qa, qb, qc, qd] at ht43)
    exfalso; simp [cmpI] at ht43
  ·skip
   refine awp_seq (awp_region rfl ?_)
   refine sP (opp_cmp rfl rfl rfl rfl) rfl rfl ?_
   refine awp_seq ?_
   refine awp_cond _ rfl (fun ht43 => ?_) (fun ht43 => ?_)
   ·(try simp only [cmpI, errD_nil, qa, qb, qc, qd] at ht43)
    refine awp_skip (awp_seq (awp_block (awp_seq (awp_region rfl ?_))))
    refine sP (opp_indexOsl0 rfl rfl rfl el147 (by omega) (by omega)) rfl rfl ?_
    refine sP (opp_loadP rfl rfl rfl rfl bi rfl ty146) rfl rfl ?_
    refine sP (opp_as (v := .ptr _ _ _) rfl rfl) rfl rfl ?_
    refine awp_region rfl ?_
    refine sP (opp_mv (v := .ptr _ _ _) rfl rfl) rfl rfl ?_
    refine sP (opp_mv (v := .ptr _ _ _) rfl rfl) rfl rfl ?_
    refine sR (opr_callG (rl := [(1, 13)]) (r1 := .tup [.int _ _, .err _]) (H1 := [(13, some (.agg [.sl _ _ _ _, .int _ _, .int _ _]))]) (n1 := []) rfl rfl ent56 (cg56c b false 66 b.length (by omega) (by omega) (by omega)) (And.intro (And.intro rfl wka) True.intro) (And.intro (And.intro rfl (Exists.intro _ (And.intro rfl wkc))) True.intro) rfl rfl rfl rfl) rfl rfl rfl ?_
    refine sP (opp_mv (v := .tup _) rfl rfl) rfl rfl ?_
    refine sP (opp_extract rfl rfl rfl) rfl rfl ?_
    refine sP (opp_extract rfl rfl rfl) rfl rfl ?_
    refine sP (opp_nilCheckP rfl rfl) rfl rfl ?_
    refine sR0 (opr_store (v := .int _ _) (trn := (.agg [_, _, _, _, _, _])) rfl rfl rfl rfl bi rfl rfl rfl rfl fr2 ty3 (fun _ _ h => h)) rfl rfl rfl ?_
    refine awp_region rfl ?_
    refine sP (opp_arith rfl rfl rfl (.inl ⟨rfl, w64 (by omega)⟩)) rfl rfl ?_
    refine sP (opp_mv (v := .int _ _) rfl rfl) rfl rfl ?_
    refine Exists.intro (3) (And.intro (And.intro (by omega) (by first | omega | (dsimp only; omega))) (by
     refine imp_over [] rfl rfl (by kernel_rfl) ?_ ?_
     ·iterate 13 refine And.intro wkv ?_
      exact True.intro
     ·refine And.intro (And.intro rfl (And.intro rfl (Exists.intro _ (And.intro rfl wkc)))) ?_
      refine And.intro (And.intro rfl (And.intro rfl (Exists.intro _ (And.intro rfl wkc)))) ?_
      exact True.intro
     ))
   ·(try simp only [cmpI, errD_nil, qa, qb, qc, qd] at ht43)
    exfalso; simp [cmpI] at ht43
  ·skip
   refine awp_seq (awp_region rfl ?_)
   refine sP (opp_cmp rfl rfl rfl rfl) rfl rfl ?_
   refine awp_seq ?_
   refine awp_cond _ rfl (fun ht43 => ?_) (fun ht43 => ?_)
   ·(try simp only [cmpI, errD_nil, qa, qb, qc, qd] at ht43)
    refine awp_skip (awp_seq (awp_block (awp_seq (awp_region rfl ?_))))
    refine sP (opp_indexOsl0 rfl rfl rfl el147 (by omega) (by omega)) rfl rfl ?_
    refine sP (opp_loadP rfl rfl rfl rfl bi rfl ty146) rfl rfl ?_
    refine sP (opp_as (v := .ptr _ _ _) rfl rfl) rfl rfl ?_
    refine awp_region rfl ?_
    refine sP (opp_mv (v := .ptr _ _ _) rfl rfl) rfl rfl ?_
    refine sP (opp_mv (v := .ptr _ _ _) rfl rfl) rfl rfl ?_
    refine sR (opr_callG (rl := [(1, 13)]) (r1 := .tup [.int _ _, .err _]) (H1 := [(13, some (.agg [.sl _ _ _ _, .int _ _, .int _ _]))]) (n1 := []) rfl rfl ent56 (cg56c b false 67 b.length (by omega) (by omega) (by omega)) (And.intro (And.intro rfl wka) True.intro) (And.intro (And.intro rfl (Exists.intro _ (And.intro rfl wkc))) True.intro) rfl rfl rfl rfl) rfl rfl rfl ?_
    refine sP (opp_mv (v := .tup _) rfl rfl) rfl rfl ?_
    refine sP (opp_extract rfl rfl rfl) rfl rfl ?_
    refine sP (opp_extract rfl rfl rfl) rfl rfl ?_
    refine sP (opp_nilCheckP rfl rfl) rfl rfl ?_
    refine sR0 (opr_store (v := .int _ _) (trn := (.agg [_, _, _, _, _, _])) rfl rfl rfl rfl bi rfl rfl rfl rfl fr2 ty3 (fun _ _ h => h)) rfl rfl rfl ?_
    refine awp_region rfl ?_
    refine sP (opp_arith rfl rfl rfl (.inl ⟨rfl, w64 (by omega)⟩)) rfl rfl ?_
    refine sP (opp_mv (v := .int _ _) rfl rfl) rfl rfl ?_
    refine Exists.intro (4) (And.intro (And.intro (by omega) (by first | omega | (dsimp only; omega))) (by
     refine imp_over [] rfl rfl (by kernel_rfl) ?_ ?_
     ·iterate 13 refine And.intro wkv ?_
      exact True.intro
     ·refine And.intro (And.intro rfl (And.intro rfl (Exists.intro _ (And.intro rfl wkc)))) ?_
      refine And.intro (And.intro rfl (And.intro rfl (Exists.intro _ (And.intro rfl wkc)))) ?_
      exact True.intro
     ))
   ·(try simp only [cmpI, errD_nil, qa, qb, qc, qd] at ht43)
    exfalso; simp [cmpI] at ht43
  ·skip
   refine awp_seq (awp_region rfl ?_)
   refine sP (opp_cmp rfl rfl rfl rfl) rfl rfl ?_
   refine awp_seq ?_
   refine awp_cond _ rfl (fun ht43 => ?_) (fun ht43 => ?_)
   ·(try simp only [cmpI, errD_nil, qa, qb, qc, qd] at ht43)
    exfalso; simp [cmpI] at ht43
   ·(try simp only [cmpI, errD_nil, qa, qb, qc, qd] at ht43)
    refine awp_exit (awp_seq (awp_region rfl ?_))
    refine sP (opp_loadP rfl rfl rfl rfl bi rfl ty116) rfl rfl ?_
    refine sR0 (opr_store (v := .agg _) (trn := (.agg _)) rfl rfl rfl rfl bi rfl rfl rfl rfl fr2 ty116 (fun _ _ h => h)) rfl rfl rfl ?_
    refine awp_ret ?_
    repeat (first | refine athen_ret ?_ | refine ain_ret ?_)
    refine apost_ret (aend1 (r0 := .agg _) (.cell rfl rfl rfl (by exact True.intro) rfl ty116 .nil) (.noN rfl rfl) ⟨Wk.v ?_, rfl, rfl⟩)
    exact .agg (.cons (.arr (fun j hj => by unfold regAt; rw [if_pos (by omega)])) (.cons .refl (.cons .refl (.cons .refl (.cons .refl (.cons .refl .nil))))))
end
end Go.Proofs.YtpmgdmbcdohgcaaDoor
/- The engine, 29: calls that are told a part of a struct that is handed over (my own text; any program). -/
set_option linter.unusedSimpArgs false
namespace Go.Fy
open Go.RowKit
section
variable {C : Ctx} {o : Oper} {ρ : Operand → AV} {η : Nat → Option AV}
end
end Go.Fy
/- The engine, 30: rows over arrays, copy (my own text; any program). -/
set_option linter.unusedSimpArgs false
namespace Go.Fy
open Go.RowKit
theorem bound_run {E : RE} {ρ : Operand → AV} {ε : Operand → Value} {d : Int} {lo : Option Operand} {l : Int} (hr : ∀ x, lo = some x → RelV E (ρ x) (ε x)) (hlo : bound d (lo.map ρ) = some l) :
    lo.map ε = none ∧ l = d ∨ ∃ k, lo.map ε = some (.int k l) := by
  cases lo with
  | none => simp [bound] at hlo; left; exact ⟨rfl, hlo.symm⟩
  | some y =>
    have e := hr y rfl
    simp only [Option.map_some] at hlo ⊢
    cases hy : ρ y <;> simp only [hy, bound] at hlo <;> first | (cases hlo; done) | skip
    rw [hy] at e; simp only [RelV] at e
    right; simp only [Option.some.injEq] at hlo; subst hlo; exact ⟨_, by rw [e]⟩
section
variable {V : Env} {o : Oper} {ρ : Operand → AV} {η : Nat → Option AV}
/-- a[l:h] of an array that lies in an own block. -/
theorem opp_sliceArrP {x : Operand} {lo hi : Option Operand} {t : TypeId} {z n b off q : Nat} {p : List Nat} {f : Nat → AV} {tr : AV} {l h : Int} {g : Bool} (ho : o.op = .slice t x lo hi none)
    (hx : ρ x = .ptr b p off) (hH : η b = some tr) (hg : getP p tr = some (.arr z n f)) (hin : inP p tr) (hoff : offP p tr = off) (hq : q * z = off) (hlo : bound 0 (lo.map ρ) = some l) (hhi : bound n (hi.map ρ) = some h) (ht : arrOf V.P t = some (n, z, g))
    (h0 : 0 ≤ l) (h1 : l ≤ h) (h2 : h ≤ n) : OpP V o ρ η (.osl b z (q + l.toNat) (h - l).toNat (n - l.toNat)) :=
  opp_val fun E ε _ _ hr hη => by
    have e1 := hr x (by simp [ho, Op.operands])
    rw [hx] at e1
    simp only [RelV, Rel, List.cons.injEq, and_true] at e1
    obtain ⟨hm, ha⟩ := e1
    have e2 := bound_run (fun y hy => hr y (by simp [ho, Op.operands, hy])) hlo
    have e3 := bound_run (fun y hy => hr y (by simp [ho, Op.operands, hy])) hhi
    obtain ⟨e, hu, hz, -⟩ := arrOf_spec ht
    obtain ⟨hbm, c, ty, fr, cs, rest, g1, g2, g3, g4⟩ := hη b tr hH
    obtain ⟨k1, k2⟩ := rel_getP p tr cs _ g3 hg hin
    rw [hoff] at k2
    have hsz : (AV.arr z n f).sz = n * z := by simp [AV.sz]
    rw [hsz] at k2
    have hcl : cs.length ≤ c.size := by rw [← Array.length_toList, g2]; simp
    refine ⟨.slice (some (if n = l.toNat then ⟨E.σ b, off, none⟩ else (⟨E.σ b, off, none⟩ : Addr).add (l.toNat * z))) (h.toNat - l.toNat) (n - l.toNat), ?_, ?_⟩
    · simp only [execOp, ho, ha, Option.map_none, Instr.sliceAt, Sem.run_bind, run_underlying hu, Result.andThen, Sem.run_pure, Instr.sureAddr,
        sliceBounds_run false n n _ _ l h e2 e3 h0 h1 h2, hz]
    · simp only [RelV, Rel, List.cons.injEq, and_true, Value.slice.injEq]
      refine ⟨hm, by omega, if n = l.toNat then off else off + l.toNat * z, n - l.toNat, ⟨?_, by omega, rfl⟩, Nat.le_refl _, fun hpos => ?_, c, ty, fr, g1, ?_⟩
      · split
        · rfl
        · rw [add_eq rfl]
      · rw [if_neg (by omega), Nat.add_mul, hq]
      · have e5 : q + l.toNat + (n - l.toNat) = q + n := by omega
        rw [e5, Nat.add_mul, hq]; omega
end
theorem arr_drop {E : RE} {z n m : Nat} {f : Nat → AV} {as1 : List Value} (h : Rel E (.arr z m f) as1) (hn : n ≤ m) : Rel E (.arr z (m - n) fun j => f (n + j)) (as1.drop (n * z)) := by
  simp only [Rel] at *
  refine ⟨by rw [List.length_drop, h.1, Nat.sub_mul], fun j hj => ?_⟩
  have := h.2 (n + j) (by omega)
  rw [List.drop_drop, ← Nat.add_mul]; exact this
section
variable {C : Ctx} {o : Oper} {ρ : Operand → AV} {η : Nat → Option AV}
/-- copy(s, x): s an own row (from element q of what lies there on), x any row. -/
theorem opr_copy {s x : Operand} {t t2 e : TypeId} {z by_ i q nd c m k : Nat} {p : List Nat} {tr trn : AV} {f g : Nat → AV} {j? : Option Nat} (ho : o.op = .call { callee := .builtin .copy, args := #[s, x], argTypes := #[t, t2] })
    (hs : ρ s = .osl i z q nd c) (hH : η i = some tr) (hg : getP p tr = some (.arr z m f)) (hin : inP p tr) (hoff : offP p tr = q * z) (hnm : nd ≤ m) (hx : RowV η (ρ x) z k g j?) (ht : elB C.V.P t = some (e, z, by_))
    (htr : ∀ (E : RE) cs, Rel E (setP p tr (.arr z m fun j => if j < min k nd then g j else f j)) cs → Rel E trn cs) : OpR C o ρ η ⟨.int .i64 (min k nd : Nat), [(i, some trn)], []⟩ := by
  intro hd S hρ hη hn a w ⟨σ, hc⟩
  have e1 := hρ s (by simp [ho, Op.operands, Call.operands]) _ _ rfl (ev_rel hc s)
  have e2 := hρ x (by simp [ho, Op.operands, Call.operands]) _ _ rfl (ev_rel hc x)
  rw [hs] at e1
  have hi := hη i tr hH
  obtain ⟨ax, capx, news, e2, hkc, hsome, hnone, hh, hr⟩ := hx.cells (fun i y hi => ⟨(hc.blk i y (hη i y hi)).1, (hc.blk i y (hη i y hi)).2.2.2⟩) e2
  simp only [RelV, Rel, List.cons.injEq, and_true] at e1
  obtain ⟨-, hndc, of, capd, e1, hcc, hof, cb, tb, fb, hheap, hcsz⟩ := e1
  have hheap' : w.heap[σ i]? = some (.cells cb tb fb) := hheap
  have hl : news.length = k * z := by simp only [Rel] at hr; exact hr.1
  obtain ⟨c1, ty, fr, cs, rest, b1, b2, b3, b4⟩ := (hc.blk i tr hi).2.2.2
  have b1' : w.heap[σ i]? = some (.cells c1 ty fr) := b1
  obtain ⟨g1, g2⟩ := rel_getP p tr cs _ b3 hg hin
  have hsz : (AV.arr z m f).sz = m * z := by simp [AV.sz]
  rw [hsz] at g1 g2
  rw [hoff] at g1 g2
  have hcl : cs.length ≤ c1.size := by rw [← Array.length_toList, b2]; simp
  obtain ⟨M, hM⟩ : ∃ M, min k nd * z = M := ⟨_, rfl⟩
  let ds := news.take M
  have hkz : M ≤ k * z := hM ▸ Nat.mul_le_mul_right _ (Nat.min_le_left _ _)
  have hmz : M ≤ m * z := hM ▸ Nat.mul_le_mul_right _ (Nat.le_trans (Nat.min_le_right _ _) hnm)
  have hdl : ds.length = M := by simp only [ds, List.length_take, hl]; omega
  have hrt : Rel (C.RE S w σ) (.arr z (min k nd) g) ds := by
    have := Rel.le (RE.bare_le _) _ _ (arr_take hr (Nat.min_le_left k nd))
    rw [hM] at this; exact this
  obtain ⟨hu, i', hi', hz1, hz2⟩ := elB_spec ht
  have hfc : (Builtin.firstCells z (min k nd) (.slice ax k capx)).run C.V.P w = .ok ds.toArray w := by
    cases ax with
    | none =>
      have hk0 := (hnone rfl).1
      have : ds = [] := List.length_eq_zero_iff.1 (by rw [hdl, ← hM, hk0]; simp)
      rw [this]
      exact run_firstCells_none w _ _ _ _
    | some b =>
      refine run_firstCells_some w z (min k nd) b k capx ds (hdl.trans hM.symm) fun j v hj => ?_
      have hjl := (List.getElem?_eq_some_iff.1 hj).1
      have hk : 0 < k := by
        rcases Nat.eq_zero_or_pos k with h | h
        · subst h; simp at hkz; omega
        · exact h
      obtain ⟨b', q1, q2, -⟩ := hsome hk
      cases q1
      rw [add_eq q2]
      have := hh b rfl j v (by
        simp only [ds] at hj
        rw [List.getElem?_take_of_lt (by omega)] at hj; exact hj)
      rwa [Nat.zero_add] at this
  have hst : (storeCells ⟨σ i, of, none⟩ ds).run C.V.P w = .ok () (w.setCells (σ i) (q * z) ds) := by
    rcases Nat.eq_zero_or_pos nd with h0 | h0
    · have : ds = [] := List.length_eq_zero_iff.1 (by rw [hdl, ← hM, h0]; simp)
      rw [this]; rfl
    · have hof' := hof (by omega)
      subst hof'
      have := run_storeCells_cells (P := C.V.P) (σ i) (q * z) ds 0 w (fun j hj => by
          simp only [World.cell?, b1', Option.isSome_none, Bool.false_eq_true, if_false, Nat.add_zero]
          rw [Array.getElem?_eq_getElem (by omega)]; rfl)
        (fun j hj => b4 _ (by omega)) (Rel.cells _ _ hrt)
      simpa using this
  have hrun : (execOp a.eval o).run C.V.P w = .ok (.value (.int .i64 (min k nd : Nat))) (w.setCells (σ i) (q * z) ds) := by
    have h5 : (Builtin.copy_ #[t, t2] o.type #[.slice (some ⟨σ i, of, none⟩) nd capd, .slice ax k capx]).run C.V.P w = .ok (goInt (min k nd : Nat)) (w.setCells (σ i) (q * z) ds) := by
      have hz3 : i'.size = z := hz1
      have h6 : Nat.min k nd = min k nd := rfl
      simp [Builtin.copy_, run_underlying hu, Builtin.lenOf, sizeOf, typeInfo, hi', hz3, h6, hfc, hst, Result.andThen]
    have e1' : a.eval s = .slice (some ⟨σ i, of, none⟩) nd capd := e1
    simp [execOp, ho, resolve, invoke, builtin, e1', e2, h5, Result.andThen, goInt]
  unfold Oper.wp
  rw [hrun]
  have hw := hc.write i tr trn hi (q * z) ds (fun c' t' fr' hc' => by
      rw [b1'] at hc'; simp only [Option.some.injEq, Obj.cells.injEq] at hc'; obtain ⟨rfl, -, -⟩ := hc'; rw [hdl]; omega)
    (fun E hE cs' rest' hr' _ => by
      obtain ⟨k1, k2⟩ := rel_getP p tr cs' _ hr' hg hin
      rw [hsz] at k1 k2
      rw [hoff] at k1 k2
      have hd2 : ds.length ≤ ((cs'.drop (q * z)).take (m * z)).length := by rw [hdl, List.length_take, List.length_drop]; omega
      have hnew : Rel E (.arr z m fun j => if j < min k nd then g j else f j) (ds ++ ((cs'.drop (q * z)).take (m * z)).drop M) := by
        have h7 := arr_append (Rel.le hE _ _ hrt) (arr_drop (n := min k nd) k1 (by have := Nat.min_le_right k nd; omega))
        rw [hM] at h7
        have e6 : min k nd + (m - min k nd) = m := by have := Nat.min_le_right k nd; omega
        rw [e6] at h7
        exact h7.arr_congr fun j hj => by
          by_cases hlt : j < min k nd
          · rw [if_pos hlt, if_pos hlt]
          · rw [if_neg hlt, if_neg hlt]; congr 1; omega
      have h8 := rel_setP p tr cs' _ (.arr z m fun j => if j < min k nd then g j else f j) _ hr' hg hin hnew (by simp [AV.sz]) (fun _ => rfl)
      rw [hoff] at h8
      have e7 : splice cs' (q * z) (ds ++ ((cs'.drop (q * z)).take (m * z)).drop M) = splice cs' (q * z) ds := by
        apply List.ext_getElem?
        intro j
        have hll : (ds ++ ((cs'.drop (q * z)).take (m * z)).drop M).length = m * z := by
          rw [List.length_append, hdl, List.length_drop, List.length_take, List.length_drop]; omega
        rw [splice_getElem? (by rw [hll]; exact k2), splice_getElem? (by rw [hdl]; omega), hll, hdl]
        by_cases c1 : q * z ≤ j ∧ j < q * z + m * z
        · rw [if_pos c1]
          by_cases c2 : j < q * z + M
          · rw [if_pos ⟨c1.1, c2⟩, List.getElem?_append_left (by rw [hdl]; omega)]
          · rw [if_neg (by omega), List.getElem?_append_right (by rw [hdl]; omega), List.getElem?_drop, List.getElem?_take_of_lt (by omega), List.getElem?_drop]
            congr 1; omega
        · rw [if_neg c1, if_neg (by omega)]
      rw [e7] at h8
      exact ⟨_, rest', splice_append_left (by rw [hdl]; omega), htr E _ h8⟩)
  exact ⟨σ, hw.put o.dst _ _ hd (by simp [RelV])⟩
end
end Go.Fy
/- Layer 16: a record put to a state (walks over this dump). -/
namespace Go.Proofs.YtpmgdmbcdohgcaaDoor
attribute [local irreducible] Tryd.prog
open Go.Fy
set_option linter.unusedSimpArgs false
set_option linter.unusedVariables false
theorem tms_len (b : List UInt8) : (Sp.timersOf b).length = b.length / 5 := by simp [Sp.timersOf]
theorem tms_get (b : List UInt8) (j : Nat) (h : j < b.length / 5) : tmAt (Sp.timersOf b) j = .agg [.int .i64 (Sp.fld b (5 * j) 1 : Nat), .int .i64 (Sp.fld b (5 * j + 1) 4 : Nat)] := by
  simp [tmAt, Sp.timersOf, List.getD_eq_getElem?_getD, h]
theorem snoc_lt {α : Type} (l : List α) (x d : α) (j : Nat) (h : j < l.length) : (l ++ [x]).getD j d = l.getD j d := by
  simp only [List.getD_eq_getElem?_getD, List.getElem?_append, if_pos h]
theorem snoc_eq {α : Type} (l : List α) (x d : α) (j : Nat) (h : j = l.length) : (l ++ [x]).getD j d = x := by
  subst h; simp [List.getD_eq_getElem?_getD, List.getElem?_append]
section
variable {ea : Nat → Addr} {cds : List Nat} {gl : Nat → Option AV}
theorem cg26a (b : List UInt8) (h0 : b.length = 8) (v : Nat → Value) (x y : Int) : AGen (V ea cds gl) 26 [.ptr 1 [] 0, rcAV ⟨1, false, b⟩] [(1, some (.agg [.val (v 0), .int .i64 x, .int .i64 y, .val (v 3), .val (v 4), .val (v 5), .val (v 6), .val (v 7), .val (v 8), .val (v 9)]))]
  (.tup []) [(1, some (.agg [.val (v 0), .int .i64 (Sp.fld b 0 4 : Nat), .int .i64 (Sp.fld b 4 4 : Nat), .val (v 3), .val (v 4), .val (v 5), .val (v 6), .val (v 7), .val (v 8), .val (v 9)]))] := by
 unfold rcAV
 refine agen_of_body (N := 163) Tryd.func26 rfl rfl (Nat.le_of_ble_eq_true rfl) fun C hV hN hM hO => ?_
 obtain ⟨_, _, w0, G0, σ0, _, own0⟩ := C; dsimp only at hV hN hM hO; subst hV; subst hN; subst hM
 refine awp_seq (awp_region rfl ?_)
 refine sR (opr_box (y := .agg _) (n := 3) rfl rfl rfl) rfl rfl rfl ?_
 refine awp_seq (awp_region rfl ?_)
 refine sP (opp_fieldP rfl rfl fld40_1 rfl) rfl rfl ?_
 refine sP (opp_loadP rfl rfl rfl rfl bi rfl ty38) rfl rfl ?_
 refine sR (opr_callO (rl := [(8, 16)]) (r1 := .ptr _ _ _) (H1 := [(16, some (.agg [.sl _ _ _ _, .int _ _, .int _ _]))]) (n1 := [16]) rfl rfl ent45 rfl (co45 b (by omega)) (AViews.refl _ rfl) rfl rfl rfl rfl) rfl rfl rfl ?_
 refine sP (opp_as (v := .ptr _ _ _) rfl rfl) rfl rfl ?_
 refine awp_seq (awp_region rfl ?_)
 refine sP (opp_fieldP rfl rfl fld40_0 rfl) rfl rfl ?_
 refine sP (opp_loadP rfl rfl rfl rfl bi rfl ty3) rfl rfl ?_
 refine awp_block (awp_seq (awp_region rfl ?_))
 refine sP (opp_cmp rfl rfl rfl rfl) rfl rfl ?_
 refine sP (opp_as (v := .bool _) rfl rfl) rfl rfl ?_
 refine awp_cond _ rfl (fun ht19 => ?_) (fun ht19 => ?_)
 ·(try simp only [cmpI, errD_nil, qa, qb, qc, qd] at ht19)
  refine awp_seq (awp_region rfl ?_)
  refine sP (opp_mv (v := .ptr _ _ _) rfl rfl) rfl rfl ?_
  refine sP (opp_mv (v := .ptr _ _ _) rfl rfl) rfl rfl ?_
  refine sR (opr_callG (rl := [(1, 16)]) (r1 := .tup [.int _ _, .err _]) (H1 := [(16, some (.agg [.sl _ _ _ _, .int _ _, .int _ _]))]) (n1 := []) rfl rfl ent47 (cg47c b false 0 b.length (by omega) (by omega) (by omega)) (And.intro (And.intro rfl wka) True.intro) (And.intro (And.intro rfl (Exists.intro _ (And.intro rfl wkc))) True.intro) rfl rfl rfl rfl) rfl rfl rfl ?_
  refine sP (opp_mv (v := .tup _) rfl rfl) rfl rfl ?_
  refine sP (opp_extract rfl rfl rfl) rfl rfl ?_
  refine sP (opp_extract rfl rfl rfl) rfl rfl ?_
  refine sP (opp_nilCheckP rfl rfl) rfl rfl ?_
  refine sP (opp_fieldP rfl rfl fld33_1 rfl) rfl rfl ?_
  refine sR0 (opr_store (v := .int _ _) (trn := (.agg [_, .int _ _, _, _, _, _, _, _, _, _])) rfl rfl rfl rfl bi rfl rfl rfl rfl fr2 ty3 (fun _ _ h => h)) rfl rfl rfl ?_
  refine awp_region rfl ?_
  refine sP (opp_mv (v := .ptr _ _ _) rfl rfl) rfl rfl ?_
  refine sP (opp_mv (v := .ptr _ _ _) rfl rfl) rfl rfl ?_
  refine sR (opr_callG (rl := [(1, 16)]) (r1 := .tup [.int _ _, .err _]) (H1 := [(16, some (.agg [.sl _ _ _ _, .int _ _, .int _ _]))]) (n1 := []) rfl rfl ent47 (cg47c b false 4 b.length (by omega) (by omega) (by omega)) (And.intro (And.intro rfl wka) True.intro) (And.intro (And.intro rfl (Exists.intro _ (And.intro rfl wkc))) True.intro) rfl rfl rfl rfl) rfl rfl rfl ?_
  refine sP (opp_mv (v := .tup _) rfl rfl) rfl rfl ?_
  refine sP (opp_extract rfl rfl rfl) rfl rfl ?_
  refine sP (opp_extract rfl rfl rfl) rfl rfl ?_
  refine sP (opp_nilCheckP rfl rfl) rfl rfl ?_
  refine sP (opp_fieldP rfl rfl fld33_2 rfl) rfl rfl ?_
  refine sR0 (opr_store (v := .int _ _) (trn := (.agg [_, _, .int _ _, _, _, _, _, _, _, _])) rfl rfl rfl rfl bi rfl rfl rfl rfl fr2 ty3 (fun _ _ h => h)) rfl rfl rfl ?_
  repeat (first | refine athen_ret ?_ | refine ain_ret ?_)
  refine gpost_ret (gends (l := []) true .nil (fun h => by cases h) .nil rfl .refl rfl (And.intro (Exists.intro _ (Exists.intro _ (And.intro rfl (And.intro shut (And.intro (fun h => by cases h) (And.intro ?_ rfl)))))) True.intro))
  ·exact .refl
 ·(try simp only [cmpI, errD_nil, qa, qb, qc, qd] at ht19)
  exfalso; first | omega | (simp at ht19; done)
theorem cg26b (b : List UInt8) (h0 : b.length = 68) (v : Nat → Value) (l : List Pr) (hl : l.length ≤ 4294967296) : AGen (V ea cds gl) 26 [.ptr 1 [] 0, rcAV ⟨3, false, b⟩] [(1, some (.agg [.val (v 0), .val (v 1), .val (v 2), .osl 2 21 0 l.length l.length, .val (v 4), .val (v 5), .val (v 6), .val (v 7), .val (v 8), .val (v 9)])), (2, some (.arr 21 l.length (prAt l)))]
  (.tup []) [(1, some (.agg [.val (v 0), .val (v 1), .val (v 2), .osl 48 21 0 (l.length + 1) (l.length + 1), .val (v 4), .val (v 5), .val (v 6), .val (v 7), .val (v 8), .val (v 9)])), (2, none), (48, some (.arr 21 (l.length + 1) (prAt (l ++ [Sp.proc b]))))] := by
 unfold rcAV
 refine agen_of_body (N := 163) Tryd.func26 rfl rfl (Nat.le_of_ble_eq_true rfl) fun C hV hN hM hO => ?_
 obtain ⟨_, _, w0, G0, σ0, _, own0⟩ := C; dsimp only at hV hN hM hO; subst hV; subst hN; subst hM
 refine awp_seq (awp_region rfl ?_)
 refine sR (opr_box (y := .agg _) (n := 3) rfl rfl rfl) rfl rfl rfl ?_
 refine awp_seq (awp_region rfl ?_)
 refine sP (opp_fieldP rfl rfl fld40_1 rfl) rfl rfl ?_
 refine sP (opp_loadP rfl rfl rfl rfl bi rfl ty38) rfl rfl ?_
 refine sR (opr_callO (rl := [(8, 16)]) (r1 := .ptr _ _ _) (H1 := [(16, some (.agg [.sl _ _ _ _, .int _ _, .int _ _]))]) (n1 := [16]) rfl rfl ent45 rfl (co45 b (by omega)) (AViews.refl _ rfl) rfl rfl rfl rfl) rfl rfl rfl ?_
 refine sP (opp_as (v := .ptr _ _ _) rfl rfl) rfl rfl ?_
 refine awp_seq (awp_region rfl ?_)
 refine sP (opp_fieldP rfl rfl fld40_0 rfl) rfl rfl ?_
 refine sP (opp_loadP rfl rfl rfl rfl bi rfl ty3) rfl rfl ?_
 refine awp_block (awp_seq (awp_region rfl ?_))
 refine sP (opp_cmp rfl rfl rfl rfl) rfl rfl ?_
 refine sP (opp_as (v := .bool _) rfl rfl) rfl rfl ?_
 refine awp_cond _ rfl (fun ht19 => ?_) (fun ht19 => ?_)
 ·(try simp only [cmpI, errD_nil, qa, qb, qc, qd] at ht19)
  exfalso; first | omega | (simp at ht19; done)
 ·(try simp only [cmpI, errD_nil, qa, qb, qc, qd] at ht19)
  refine awp_seq (awp_region rfl ?_)
  refine sP (opp_cmp rfl rfl rfl rfl) rfl rfl ?_
  refine sP (opp_as (v := .bool _) rfl rfl) rfl rfl ?_
  refine awp_cond _ rfl (fun ht37 => ?_) (fun ht37 => ?_)
  ·(try simp only [cmpI, errD_nil, qa, qb, qc, qd] at ht37)
   refine awp_draw hmix rfl (by kernel_rfl) ?_
   refine dP (fun _ => false) (opp_mv (v := .ptr _ _ _) rfl rfl) rfl rfl ?_
   refine dP (fun _ => false) (opp_mv (v := .ptr _ _ _) rfl rfl) rfl rfl ?_
   refine dP (fun _ => false) (opp_nilCheckP rfl rfl) rfl rfl ?_
   refine dP (fun _ => false) (opp_fieldP rfl rfl fld33_3 rfl) rfl rfl ?_
   refine dP (fun n => Nat.beq n 1) (opp_loadP rfl rfl rfl rfl bi rfl ty26) rfl rfl ?_
   refine dP (fun _ => false) (opp_fieldP rfl rfl fld40_1 rfl) rfl rfl ?_
   refine dP (fun n => Nat.beq n 3) (opp_loadP rfl rfl rfl rfl bi rfl ty38) rfl rfl ?_
   refine dR (fun n => !([] : List Nat).contains n) (opr_call rfl rfl ent53 rfl (c53 b h0) (AViews.refl _ rfl)) rfl rfl rfl ?_ -- d=46 t=116 a=45
   refine dR (fun _ => false) (opr_buildSlice (n := 47) (g := fun j => if j = 0 then .agg _ else .agg [.arr 1 16 (fun _ => .int .u32 0), .int .u32 0, .int .i64 0, .int .i64 0, .int .i64 0, .int .i64 0]) rfl eb26 z116 (by decide) rfl rfl) rfl rfl rfl ?_
   refine dR (fun n => !([] : List Nat).contains n) (opr_append (d := 48) rfl rfl rfl (by omega) (.osl0 rfl (by omega)) eb26 z116 (by omega) (by omega)) rfl rfl rfl ?_
   refine dP (fun _ => false) (opp_nilCheckP rfl rfl) rfl rfl ?_
   refine dP (fun _ => false) (opp_fieldP rfl rfl fld33_3 rfl) rfl rfl ?_
   refine dR0 (fun n => Nat.beq n 1) (opr_store (v := .osl _ _ _ _ _) (trn := (.agg [_, _, _, .osl _ _ _ _ _, _, _, _, _, _, _])) rfl rfl rfl rfl bi rfl rfl rfl rfl fr2 ty26 (fun _ _ h => h)) rfl rfl rfl ?_
   refine And.intro (by kernel_rfl) ?_
   repeat (first | refine athen_ret ?_ | refine ain_ret ?_)
   refine gpost_ret (gends (l := []) false .nil (fun h => by cases h) .nil rfl .refl rfl (And.intro (Exists.intro _ (Exists.intro _ (And.intro rfl (And.intro shut (And.intro (fun h => by cases h) (And.intro ?_ rfl)))))) (And.intro (Exists.intro _ (Exists.intro _ (And.intro rfl (And.intro shut (And.intro (fun h => by cases h) (And.intro ?_ rfl)))))) True.intro)))
   ·exact .refl
   ·exact .arr (fun j hj => by by_cases h : j < l.length; rw [if_pos h, prAt, prAt, snoc_lt _ _ _ _ h]; rw [if_neg h, if_pos (by omega), prAt, snoc_eq _ _ _ _ (by omega)]; rfl)
  ·(try simp only [cmpI, errD_nil, qa, qb, qc, qd] at ht37)
   exfalso; first | omega | (simp at ht37; done)
theorem cg26c (b : List UInt8) (h0 : b.length = 68) (v : Nat → Value) (f : Nat → AV) : AGen (V ea cds gl) 26 [.ptr 1 [] 0, rcAV ⟨3, false, b⟩] [(1, some (.agg [.val (v 0), .val (v 1), .val (v 2), .sl 21 true 0 f, .val (v 4), .val (v 5), .val (v 6), .val (v 7), .val (v 8), .val (v 9)]))]
  (.tup []) [(1, some (.agg [.val (v 0), .val (v 1), .val (v 2), .osl 48 21 0 1 1, .val (v 4), .val (v 5), .val (v 6), .val (v 7), .val (v 8), .val (v 9)])), (48, some (.arr 21 1 (prAt [Sp.proc b])))] := by
 unfold rcAV
 refine agen_of_body (N := 163) Tryd.func26 rfl rfl (Nat.le_of_ble_eq_true rfl) fun C hV hN hM hO => ?_
 obtain ⟨_, _, w0, G0, σ0, _, own0⟩ := C; dsimp only at hV hN hM hO; subst hV; subst hN; subst hM
 refine awp_seq (awp_region rfl ?_)
 refine sR (opr_box (y := .agg _) (n := 3) rfl rfl rfl) rfl rfl rfl ?_
 refine awp_seq (awp_region rfl ?_)
 refine sP (opp_fieldP rfl rfl fld40_1 rfl) rfl rfl ?_
 refine sP (opp_loadP rfl rfl rfl rfl bi rfl ty38) rfl rfl ?_
 refine sR (opr_callO (rl := [(8, 16)]) (r1 := .ptr _ _ _) (H1 := [(16, some (.agg [.sl _ _ _ _, .int _ _, .int _ _]))]) (n1 := [16]) rfl rfl ent45 rfl (co45 b (by omega)) (AViews.refl _ rfl) rfl rfl rfl rfl) rfl rfl rfl ?_
 refine sP (opp_as (v := .ptr _ _ _) rfl rfl) rfl rfl ?_
 refine awp_seq (awp_region rfl ?_)
 refine sP (opp_fieldP rfl rfl fld40_0 rfl) rfl rfl ?_
 refine sP (opp_loadP rfl rfl rfl rfl bi rfl ty3) rfl rfl ?_
 refine awp_block (awp_seq (awp_region rfl ?_))
 refine sP (opp_cmp rfl rfl rfl rfl) rfl rfl ?_
 refine sP (opp_as (v := .bool _) rfl rfl) rfl rfl ?_
 refine awp_cond _ rfl (fun ht19 => ?_) (fun ht19 => ?_)
 ·(try simp only [cmpI, errD_nil, qa, qb, qc, qd] at ht19)
  exfalso; first | omega | (simp at ht19; done)
 ·(try simp only [cmpI, errD_nil, qa, qb, qc, qd] at ht19)
  refine awp_seq (awp_region rfl ?_)
  refine sP (opp_cmp rfl rfl rfl rfl) rfl rfl ?_
  refine sP (opp_as (v := .bool _) rfl rfl) rfl rfl ?_
  refine awp_cond _ rfl (fun ht37 => ?_) (fun ht37 => ?_)
  ·(try simp only [cmpI, errD_nil, qa, qb, qc, qd] at ht37)
   refine awp_draw hmix rfl (by kernel_rfl) ?_
   refine dP (fun _ => false) (opp_mv (v := .ptr _ _ _) rfl rfl) rfl rfl ?_
   refine dP (fun _ => false) (opp_mv (v := .ptr _ _ _) rfl rfl) rfl rfl ?_
   refine dP (fun _ => false) (opp_nilCheckP rfl rfl) rfl rfl ?_
   refine dP (fun _ => false) (opp_fieldP rfl rfl fld33_3 rfl) rfl rfl ?_
   refine dP (fun n => Nat.beq n 1) (opp_loadP rfl rfl rfl rfl bi rfl ty26) rfl rfl ?_
   refine dP (fun _ => false) (opp_fieldP rfl rfl fld40_1 rfl) rfl rfl ?_
   refine dP (fun n => Nat.beq n 3) (opp_loadP rfl rfl rfl rfl bi rfl ty38) rfl rfl ?_
   refine dR (fun n => !([] : List Nat).contains n) (opr_call rfl rfl ent53 rfl (c53 b h0) (AViews.refl _ rfl)) rfl rfl rfl ?_ -- d=46 t=116 a=45
   refine dR (fun _ => false) (opr_buildSlice (n := 47) (g := fun j => if j = 0 then .agg _ else .agg [.arr 1 16 (fun _ => .int .u32 0), .int .u32 0, .int .i64 0, .int .i64 0, .int .i64 0, .int .i64 0]) rfl eb26 z116 (by decide) rfl rfl) rfl rfl rfl ?_
   refine dR (fun n => !([] : List Nat).contains n) (opr_appendNil (d := 48) rfl rfl (.osl0 rfl (by omega)) eb26 z116 (by omega) (by omega) (by omega)) rfl rfl rfl ?_
   refine dP (fun _ => false) (opp_nilCheckP rfl rfl) rfl rfl ?_
   refine dP (fun _ => false) (opp_fieldP rfl rfl fld33_3 rfl) rfl rfl ?_
   refine dR0 (fun n => Nat.beq n 1) (opr_store (v := .osl _ _ _ _ _) (trn := (.agg [_, _, _, .osl _ _ _ _ _, _, _, _, _, _, _])) rfl rfl rfl rfl bi rfl rfl rfl rfl fr2 ty26 (fun _ _ h => h)) rfl rfl rfl ?_
   refine And.intro (by kernel_rfl) ?_
   repeat (first | refine athen_ret ?_ | refine ain_ret ?_)
   refine gpost_ret (gends (l := []) true .nil (fun h => by cases h) .nil rfl .refl rfl (And.intro (Exists.intro _ (Exists.intro _ (And.intro rfl (And.intro shut (And.intro (fun h => by cases h) (And.intro ?_ rfl)))))) (And.intro (Exists.intro _ (Exists.intro _ (And.intro rfl (And.intro shut (And.intro (fun h => by cases h) (And.intro ?_ rfl)))))) True.intro)))
   ·exact .refl
   ·exact .arr (fun j hj => by rw [show j = 0 by omega]; rfl)
  ·(try simp only [cmpI, errD_nil, qa, qb, qc, qd] at ht37)
   exfalso; first | omega | (simp at ht37; done)
theorem cg26d (b : List UInt8) (h0 : b.length ≤ 4294967296) (v : Nat → Value) (nn : Bool) (n : Nat) (f : Nat → AV) : AGen (V ea cds gl) 26 [.ptr 1 [] 0, rcAV ⟨4, false, b⟩] [(1, some (.agg [.val (v 0), .val (v 1), .val (v 2), .val (v 3), .sl 1 nn n f, .val (v 5), .val (v 6), .val (v 7), .val (v 8), .val (v 9)]))]
  (.tup []) [(1, some (.agg [.val (v 0), .val (v 1), .val (v 2), .val (v 3), rowV 1 (Sp.nums b).length (natAt (Sp.nums b)), .val (v 5), .val (v 6), .val (v 7), .val (v 8), .val (v 9)]))] := by
 unfold rcAV
 refine agen_of_body (N := 163) Tryd.func26 rfl rfl (Nat.le_of_ble_eq_true rfl) fun C hV hN hM hO => ?_
 obtain ⟨_, _, w0, G0, σ0, _, own0⟩ := C; dsimp only at hV hN hM hO; subst hV; subst hN; subst hM
 refine awp_seq (awp_region rfl ?_)
 refine sR (opr_box (y := .agg _) (n := 3) rfl rfl rfl) rfl rfl rfl ?_
 refine awp_seq (awp_region rfl ?_)
 refine sP (opp_fieldP rfl rfl fld40_1 rfl) rfl rfl ?_
 refine sP (opp_loadP rfl rfl rfl rfl bi rfl ty38) rfl rfl ?_
 refine sR (opr_callO (rl := [(8, 16)]) (r1 := .ptr _ _ _) (H1 := [(16, some (.agg [.sl _ _ _ _, .int _ _, .int _ _]))]) (n1 := [16]) rfl rfl ent45 rfl (co45 b (by omega)) (AViews.refl _ rfl) rfl rfl rfl rfl) rfl rfl rfl ?_
 refine sP (opp_as (v := .ptr _ _ _) rfl rfl) rfl rfl ?_
 refine awp_seq (awp_region rfl ?_)
 refine sP (opp_fieldP rfl rfl fld40_0 rfl) rfl rfl ?_
 refine sP (opp_loadP rfl rfl rfl rfl bi rfl ty3) rfl rfl ?_
 refine awp_block (awp_seq (awp_region rfl ?_))
 refine sP (opp_cmp rfl rfl rfl rfl) rfl rfl ?_
 refine sP (opp_as (v := .bool _) rfl rfl) rfl rfl ?_
 refine awp_cond _ rfl (fun ht19 => ?_) (fun ht19 => ?_)
 ·(try simp only [cmpI, errD_nil, qa, qb, qc, qd] at ht19)
  exfalso; first | omega | (simp at ht19; done)
 ·(try simp only [cmpI, errD_nil, qa, qb, qc, qd] at ht19)
  refine awp_seq (awp_region rfl ?_)
  refine sP (opp_cmp rfl rfl rfl rfl) rfl rfl ?_
  refine sP (opp_as (v := .bool _) rfl rfl) rfl rfl ?_
  refine awp_cond _ rfl (fun ht37 => ?_) (fun ht37 => ?_)
  ·(try simp only [cmpI, errD_nil, qa, qb, qc, qd] at ht37)
   exfalso; first | omega | (simp at ht37; done)
  ·(try simp only [cmpI, errD_nil, qa, qb, qc, qd] at ht37)
   refine awp_seq (awp_region rfl ?_)
   refine sP (opp_cmp rfl rfl rfl rfl) rfl rfl ?_
   refine sP (opp_as (v := .bool _) rfl rfl) rfl rfl ?_
   refine awp_cond _ rfl (fun ht51 => ?_) (fun ht51 => ?_)
   ·(try simp only [cmpI, errD_nil, qa, qb, qc, qd] at ht51)
    refine awp_region rfl ?_
    refine sP (opp_mv (v := .ptr _ _ _) rfl rfl) rfl rfl ?_
    refine sP (opp_fieldP rfl rfl fld40_1 rfl) rfl rfl ?_
    refine sP (opp_loadP rfl rfl rfl rfl bi rfl ty38) rfl rfl ?_
    refine sR (opr_call rfl rfl ent54 rfl (c54 b false (by omega)) (AViews.refl _ rfl)) rfl rfl rfl ?_ -- d=56 t=27 a=55
    refine sP (opp_nilCheckP rfl rfl) rfl rfl ?_
    refine sP (opp_fieldP rfl rfl fld33_4 rfl) rfl rfl ?_
    refine sR0 (opr_store (v := .sl _ _ _ _) (trn := (.agg [_, _, _, _, .sl _ _ _ _, _, _, _, _, _])) rfl rfl rfl rfl bi rfl rfl rfl rfl fr2 ty27 (fun _ _ h => h)) rfl rfl rfl ?_
    repeat (first | refine athen_ret ?_ | refine ain_ret ?_)
    refine gpost_ret (gends (l := []) true .nil (fun h => by cases h) .nil rfl .refl rfl (And.intro (Exists.intro _ (Exists.intro _ (And.intro rfl (And.intro shut (And.intro (fun h => by cases h) (And.intro ?_ rfl)))))) True.intro))
    ·exact .refl
   ·(try simp only [cmpI, errD_nil, qa, qb, qc, qd] at ht51)
    exfalso; first | omega | (simp at ht51; done)
theorem cg26e (b : List UInt8) (h0 : b.length ≤ 4294967296) (v : Nat → Value) (nn : Bool) (n : Nat) (f : Nat → AV) : AGen (V ea cds gl) 26 [.ptr 1 [] 0, rcAV ⟨7, false, b⟩] [(1, some (.agg [.val (v 0), .val (v 1), .val (v 2), .val (v 3), .val (v 4), .val (v 5), .val (v 6), .sl 1 nn n f, .val (v 8), .val (v 9)]))]
  (.tup []) [(1, some (.agg [.val (v 0), .val (v 1), .val (v 2), .val (v 3), .val (v 4), .val (v 5), .val (v 6), rowV 1 (Sp.nums b).length (natAt (Sp.nums b)), .val (v 8), .val (v 9)]))] := by
 unfold rcAV
 refine agen_of_body (N := 163) Tryd.func26 rfl rfl (Nat.le_of_ble_eq_true rfl) fun C hV hN hM hO => ?_
 obtain ⟨_, _, w0, G0, σ0, _, own0⟩ := C; dsimp only at hV hN hM hO; subst hV; subst hN; subst hM
 refine awp_seq (awp_region rfl ?_)
 refine sR (opr_box (y := .agg _) (n := 3) rfl rfl rfl) rfl rfl rfl ?_
 refine awp_seq (awp_region rfl ?_)
 refine sP (opp_fieldP rfl rfl fld40_1 rfl) rfl rfl ?_
 refine sP (opp_loadP rfl rfl rfl rfl bi rfl ty38) rfl rfl ?_
 refine sR (opr_callO (rl := [(8, 16)]) (r1 := .ptr _ _ _) (H1 := [(16, some (.agg [.sl _ _ _ _, .int _ _, .int _ _]))]) (n1 := [16]) rfl rfl ent45 rfl (co45 b (by omega)) (AViews.refl _ rfl) rfl rfl rfl rfl) rfl rfl rfl ?_
 refine sP (opp_as (v := .ptr _ _ _) rfl rfl) rfl rfl ?_
 refine awp_seq (awp_region rfl ?_)
 refine sP (opp_fieldP rfl rfl fld40_0 rfl) rfl rfl ?_
 refine sP (opp_loadP rfl rfl rfl rfl bi rfl ty3) rfl rfl ?_
 refine awp_block (awp_seq (awp_region rfl ?_))
 refine sP (opp_cmp rfl rfl rfl rfl) rfl rfl ?_
 refine sP (opp_as (v := .bool _) rfl rfl) rfl rfl ?_
 refine awp_cond _ rfl (fun ht19 => ?_) (fun ht19 => ?_)
 ·(try simp only [cmpI, errD_nil, qa, qb, qc, qd] at ht19)
  exfalso; first | omega | (simp at ht19; done)
 ·(try simp only [cmpI, errD_nil, qa, qb, qc, qd] at ht19)
  refine awp_seq (awp_region rfl ?_)
  refine sP (opp_cmp rfl rfl rfl rfl) rfl rfl ?_
  refine sP (opp_as (v := .bool _) rfl rfl) rfl rfl ?_
  refine awp_cond _ rfl (fun ht37 => ?_) (fun ht37 => ?_)
  ·(try simp only [cmpI, errD_nil, qa, qb, qc, qd] at ht37)
   exfalso; first | omega | (simp at ht37; done)
  ·(try simp only [cmpI, errD_nil, qa, qb, qc, qd] at ht37)
   refine awp_seq (awp_region rfl ?_)
   refine sP (opp_cmp rfl rfl rfl rfl) rfl rfl ?_
   refine sP (opp_as (v := .bool _) rfl rfl) rfl rfl ?_
   refine awp_cond _ rfl (fun ht51 => ?_) (fun ht51 => ?_)
   ·(try simp only [cmpI, errD_nil, qa, qb, qc, qd] at ht51)
    exfalso; first | omega | (simp at ht51; done)
   ·(try simp only [cmpI, errD_nil, qa, qb, qc, qd] at ht51)
    refine awp_seq (awp_region rfl ?_)
    refine sP (opp_cmp rfl rfl rfl rfl) rfl rfl ?_
    refine sP (opp_as (v := .bool _) rfl rfl) rfl rfl ?_
    refine awp_cond _ rfl (fun ht59 => ?_) (fun ht59 => ?_)
    ·(try simp only [cmpI, errD_nil, qa, qb, qc, qd] at ht59)
     exfalso; first | omega | (simp at ht59; done)
    ·(try simp only [cmpI, errD_nil, qa, qb, qc, qd] at ht59)
     refine awp_seq (awp_region rfl ?_)
     refine sP (opp_cmp rfl rfl rfl rfl) rfl rfl ?_
     refine sP (opp_as (v := .bool _) rfl rfl) rfl rfl ?_
     refine awp_cond _ rfl (fun ht89 => ?_) (fun ht89 => ?_)
     ·(try simp only [cmpI, errD_nil, qa, qb, qc, qd] at ht89)
      exfalso; first | omega | (simp at ht89; done)
     ·(try simp only [cmpI, errD_nil, qa, qb, qc, qd] at ht89)
      refine awp_seq (awp_region rfl ?_)
      refine sP (opp_cmp rfl rfl rfl rfl) rfl rfl ?_
      refine sP (opp_as (v := .bool _) rfl rfl) rfl rfl ?_
      refine awp_cond _ rfl (fun ht113 => ?_) (fun ht113 => ?_)
      ·(try simp only [cmpI, errD_nil, qa, qb, qc, qd] at ht113)
       refine awp_region rfl ?_
       refine sP (opp_mv (v := .ptr _ _ _) rfl rfl) rfl rfl ?_
       refine sP (opp_fieldP rfl rfl fld40_1 rfl) rfl rfl ?_
       refine sP (opp_loadP rfl rfl rfl rfl bi rfl ty38) rfl rfl ?_
       refine sR (opr_call rfl rfl ent54 rfl (c54 b false (by omega)) (AViews.refl _ rfl)) rfl rfl rfl ?_ -- d=118 t=27 a=117
       refine sP (opp_nilCheckP rfl rfl) rfl rfl ?_
       refine sP (opp_fieldP rfl rfl fld33_7 rfl) rfl rfl ?_
       refine sR0 (opr_store (v := .sl _ _ _ _) (trn := (.agg [_, _, _, _, _, _, _, .sl _ _ _ _, _, _])) rfl rfl rfl rfl bi rfl rfl rfl rfl fr2 ty27 (fun _ _ h => h)) rfl rfl rfl ?_
       repeat (first | refine athen_ret ?_ | refine ain_ret ?_)
       refine gpost_ret (gends (l := []) true .nil (fun h => by cases h) .nil rfl .refl rfl (And.intro (Exists.intro _ (Exists.intro _ (And.intro rfl (And.intro shut (And.intro (fun h => by cases h) (And.intro ?_ rfl)))))) True.intro))
       ·exact .refl
      ·(try simp only [cmpI, errD_nil, qa, qb, qc, qd] at ht113)
       exfalso; first | omega | (simp at ht113; done)
theorem cg26f (b : List UInt8) (h0 : b.length ≤ 4294967296) (h5 : b.length % 5 = 0) (v : Nat → Value) (nn : Bool) (n : Nat) (f : Nat → AV) : AGen (V ea cds gl) 26 [.ptr 1 [] 0, rcAV ⟨5, false, b⟩] [(1, some (.agg [.val (v 0), .val (v 1), .val (v 2), .val (v 3), .val (v 4), .sl 2 nn n f, .val (v 6), .val (v 7), .val (v 8), .val (v 9)]))]
  (.tup []) [(1, some (.agg [.val (v 0), .val (v 1), .val (v 2), .val (v 3), .val (v 4), rowV 2 (Sp.timersOf b).length (tmAt (Sp.timersOf b)), .val (v 6), .val (v 7), .val (v 8), .val (v 9)]))] := by
 unfold rcAV
 refine agen_of_body (N := 163) Tryd.func26 rfl rfl (Nat.le_of_ble_eq_true rfl) fun C hV hN hM hO => ?_
 obtain ⟨_, _, w0, G0, σ0, _, own0⟩ := C; dsimp only at hV hN hM hO; subst hV; subst hN; subst hM
 refine awp_seq (awp_region rfl ?_)
 refine sR (opr_box (y := .agg _) (n := 3) rfl rfl rfl) rfl rfl rfl ?_
 refine awp_seq (awp_region rfl ?_)
 refine sP (opp_fieldP rfl rfl fld40_1 rfl) rfl rfl ?_
 refine sP (opp_loadP rfl rfl rfl rfl bi rfl ty38) rfl rfl ?_
 refine sR (opr_callO (rl := [(8, 16)]) (r1 := .ptr _ _ _) (H1 := [(16, some (.agg [.sl _ _ _ _, .int _ _, .int _ _]))]) (n1 := [16]) rfl rfl ent45 rfl (co45 b (by omega)) (AViews.refl _ rfl) rfl rfl rfl rfl) rfl rfl rfl ?_
 refine sP (opp_as (v := .ptr _ _ _) rfl rfl) rfl rfl ?_
 refine awp_seq (awp_region rfl ?_)
 refine sP (opp_fieldP rfl rfl fld40_0 rfl) rfl rfl ?_
 refine sP (opp_loadP rfl rfl rfl rfl bi rfl ty3) rfl rfl ?_
 refine awp_block (awp_seq (awp_region rfl ?_))
 refine sP (opp_cmp rfl rfl rfl rfl) rfl rfl ?_
 refine sP (opp_as (v := .bool _) rfl rfl) rfl rfl ?_
 refine awp_cond _ rfl (fun ht19 => ?_) (fun ht19 => ?_)
 ·(try simp only [cmpI, errD_nil, qa, qb, qc, qd] at ht19)
  exfalso; first | omega | (simp at ht19; done)
 ·(try simp only [cmpI, errD_nil, qa, qb, qc, qd] at ht19)
  refine awp_seq (awp_region rfl ?_)
  refine sP (opp_cmp rfl rfl rfl rfl) rfl rfl ?_
  refine sP (opp_as (v := .bool _) rfl rfl) rfl rfl ?_
  refine awp_cond _ rfl (fun ht37 => ?_) (fun ht37 => ?_)
  ·(try simp only [cmpI, errD_nil, qa, qb, qc, qd] at ht37)
   exfalso; first | omega | (simp at ht37; done)
  ·(try simp only [cmpI, errD_nil, qa, qb, qc, qd] at ht37)
   refine awp_seq (awp_region rfl ?_)
   refine sP (opp_cmp rfl rfl rfl rfl) rfl rfl ?_
   refine sP (opp_as (v := .bool _) rfl rfl) rfl rfl ?_
   refine awp_cond _ rfl (fun ht51 => ?_) (fun ht51 => ?_)
   ·(try simp only [cmpI, errD_nil, qa, qb, qc, qd] at ht51)
    exfalso; first | omega | (simp at ht51; done)
   ·(try simp only [cmpI, errD_nil, qa, qb, qc, qd] at ht51)
    refine awp_seq (awp_region rfl ?_)
    refine sP (opp_cmp rfl rfl rfl rfl) rfl rfl ?_
    refine sP (opp_as (v := .bool _) rfl rfl) rfl rfl ?_
    refine awp_cond _ rfl (fun ht59 => ?_) (fun ht59 => ?_)
    ·(try simp only [cmpI, errD_nil, qa, qb, qc, qd] at ht59)
     refine awp_seq (awp_region rfl ?_)
     refine sP (opp_mv (v := .ptr _ _ _) rfl rfl) rfl rfl ?_
     refine sP (opp_nilCheckP rfl rfl) rfl rfl ?_
     refine sP (opp_fieldP rfl rfl fld33_5 rfl) rfl rfl ?_
     refine sR0 (opr_store (v := .sl _ _ _ _) (trn := (.agg [_, _, _, _, _, .sl _ _ _ _, _, _, _, _])) rfl rfl rfl rfl bi rfl rfl rfl rfl fr2 ty28 (fun _ _ h => h)) rfl rfl rfl ?_
     refine awp_block ?_
     refine awp_loopK (ι := Nat × Bool) (fun p => 5 * p.1 ≤ b.length ∧ (p.2 = true ↔ p.1 = 0)) (fun p => [(5, .top), (6, .top), (7, .top), (8, .top), (64, .top), (65, .top), (66, .top), (67, .top), (68, .top), (69, .top), (70, .top), (71, .top), (72, .top), (73, .top), (74, .top), (75, .top), (76, .top), (77, .top), (78, .top), (79, .top), (80, .top), (81, .top), (82, .top), (83, .top), (84, .top), (85, .top), (86, .top), (87, .top), (88, .top)]) (fun p => [(16, some (.agg [.sl 1 false b.length (bAt b), .int .i64 ((5 * p.1 : Nat) : Int), .int .i64 (b.length : Int)])), (1, some (.agg [.val (v 0), .val (v 1), .val (v 2), .val (v 3), .val (v 4), cond p.2 (.sl 1 true 0 (fun _ => .top)) (.osl 1004 2 0 p.1 p.1), .val (v 6), .val (v 7), .val (v 8), .val (v 9)])), (1004, cond p.2 none (some (.arr 2 p.1 (tmAt (Sp.timersOf b)))))]) [1004] (fun p => b.length - p.1) ((0, true)) (⟨Nat.zero_le _, by simp⟩) (by
      refine imp_over [] rfl rfl (by kernel_rfl) ?_ ?_
      ·iterate 29 refine And.intro wkv ?_
       exact True.intro
      ·refine And.intro (And.intro rfl (And.intro rfl (Exists.intro _ (And.intro rfl wkc)))) ?_
       refine And.intro (And.intro rfl (And.intro rfl (Exists.intro _ (And.intro rfl wkc)))) ?_
       exact True.intro
      ) ?_
     intro p hi1; obtain ⟨i, e⟩ := p; rcases e with _ | _
     ·dsimp only [cond] at hi1 ⊢
      refine awp_seq (awp_seq (awp_region rfl ?_))
      refine sP (opp_mv (v := .ptr _ _ _) rfl rfl) rfl rfl ?_
      refine sR (opr_callG (rl := [(1, 16)]) (r1 := .int _ _) (H1 := [(16, some (.agg [.sl _ _ _ _, .int _ _, .int _ _]))]) (n1 := []) rfl rfl ent55 (cg55c b false (5 * i) b.length (by omega) (by omega)) (And.intro (And.intro rfl wka) True.intro) (And.intro (And.intro rfl (Exists.intro _ (And.intro rfl wkc))) True.intro) rfl rfl rfl rfl) rfl rfl rfl ?_
      refine sP (opp_cmp rfl rfl rfl rfl) rfl rfl ?_
      refine awp_cond _ rfl (fun ht66 => ?_) (fun ht66 => ?_)
      ·(try simp only [cmpI, errD_nil, qa, qb, qc, qd] at ht66)
       refine awp_skip (awp_block (awp_seq (awp_region rfl ?_)))
       refine sP (opp_mv (v := .ptr _ _ _) rfl rfl) rfl rfl ?_
       refine sR (opr_callG (rl := [(1, 16)]) (r1 := .tup [.int _ _, .err _]) (H1 := [(16, some (.agg [.sl _ _ _ _, .int _ _, .int _ _]))]) (n1 := []) rfl rfl ent56 (cg56c b false (5 * i) b.length (by omega) (by omega) (by omega)) (And.intro (And.intro rfl wka) True.intro) (And.intro (And.intro rfl (Exists.intro _ (And.intro rfl wkc))) True.intro) rfl rfl rfl rfl) rfl rfl rfl ?_
       refine sP (opp_mv (v := .tup _) rfl rfl) rfl rfl ?_
       refine sP (opp_extract rfl rfl rfl) rfl rfl ?_
       refine sP (opp_extract rfl rfl rfl) rfl rfl ?_
       refine sP (opp_as (v := .int _ _) rfl rfl) rfl rfl ?_
       refine sP (opp_as (v := .err _) rfl rfl) rfl rfl ?_
       refine awp_seq (awp_region rfl ?_)
       refine sP (opp_mv (v := .ptr _ _ _) rfl rfl) rfl rfl ?_
       refine sR (opr_callG (rl := [(1, 16)]) (r1 := .tup [.int _ _, .err _]) (H1 := [(16, some (.agg [.sl _ _ _ _, .int _ _, .int _ _]))]) (n1 := []) rfl rfl ent47 (cg47c b false (5 * i + 1) b.length (by omega) (by omega) (by omega)) (And.intro (And.intro rfl wka) True.intro) (And.intro (And.intro rfl (Exists.intro _ (And.intro rfl wkc))) True.intro) rfl rfl rfl rfl) rfl rfl rfl ?_
       refine sP (opp_mv (v := .tup _) rfl rfl) rfl rfl ?_
       refine sP (opp_extract rfl rfl rfl) rfl rfl ?_
       refine sP (opp_extract rfl rfl rfl) rfl rfl ?_
       refine sP (opp_as (v := .int _ _) rfl rfl) rfl rfl ?_
       refine sP (opp_as (v := .err _) rfl rfl) rfl rfl ?_
       refine awp_region rfl ?_
       refine sP (opp_mv (v := .ptr _ _ _) rfl rfl) rfl rfl ?_
       refine sP (opp_mv (v := .ptr _ _ _) rfl rfl) rfl rfl ?_
       refine sP (opp_nilCheckP rfl rfl) rfl rfl ?_
       refine sP (opp_fieldP rfl rfl fld33_5 rfl) rfl rfl ?_
       refine sP (opp_loadP rfl rfl rfl rfl bi rfl ty28) rfl rfl ?_
       refine sP (opp_mv (v := .int _ _) rfl rfl) rfl rfl ?_
       refine sP (opp_mv (v := .int _ _) rfl rfl) rfl rfl ?_
       refine sP (opp_build rfl z121 bld121 rfl [.int _ _, .int _ _] rfl) rfl rfl ?_
       refine sR (opr_buildSlice (n := 85) (g := fun j => if j = 0 then .agg _ else .agg [.int .i64 0, .int .i64 0]) rfl eb28 z121 (by decide) rfl rfl) rfl rfl rfl ?_
       refine sR (opr_append (d := 86) rfl rfl rfl (by omega) (.osl0 rfl (by omega)) eb28 z121 (by omega) (by omega)) rfl rfl rfl ?_
       refine sP (opp_nilCheckP rfl rfl) rfl rfl ?_
       refine sP (opp_fieldP rfl rfl fld33_5 rfl) rfl rfl ?_
       refine sR0 (opr_store (v := .osl _ _ _ _ _) (trn := (.agg [_, _, _, _, _, .osl _ _ _ _ _, _, _, _, _])) rfl rfl rfl rfl bi rfl rfl rfl rfl fr2 ty28 (fun _ _ h => h)) rfl rfl rfl ?_
       refine Exists.intro ((i + 1, false)) (And.intro (And.intro (And.intro (by show 5 * (i + 1) ≤ _; omega) (by simp)) (by first | omega | (dsimp only; omega))) (by
        refine imp_over [(1004, 86)] rfl rfl (by kernel_rfl) ?_ ?_
        ·iterate 29 refine And.intro wkv ?_
         exact True.intro
        ·refine And.intro (And.intro rfl (And.intro rfl (Exists.intro _ (And.intro rfl (by exact WkC.of (by show AV.agg [_, AV.int .i64 _, _] = AV.agg [_, AV.int .i64 _, _]; rw [show 5 * i + 1 + 4 = 5 * (i + 1) by omega]; rfl)))))) ?_
         refine And.intro (And.intro rfl (And.intro rfl (Exists.intro _ (And.intro rfl wkc)))) ?_
         refine And.intro (And.intro rfl (And.intro rfl (Exists.intro _ (And.intro rfl (by show WkC (AV.arr 2 _ _) (AV.arr 2 _ _); exact WkC.arr (fun j hj => by by_cases h : j < i; rw [if_pos h]; rw [if_neg h, show j = i by omega, if_pos (by omega), tms_get b i (by omega)])))))) ?_
         exact True.intro
        ))
      ·(try simp only [cmpI, errD_nil, qa, qb, qc, qd] at ht66)
       refine awp_exit ?_
       repeat (first | refine athen_ret ?_ | refine ain_ret ?_)
       refine gpost_ret (gends (l := []) true .nil (fun h => by cases h) .nil rfl .refl rfl (And.intro (Exists.intro _ (Exists.intro _ (And.intro rfl (And.intro shut (And.intro (fun h => by cases h) (And.intro ?_ rfl)))))) True.intro))
       ·have hie : i = b.length / 5 := by omega
        have hne : (Sp.timersOf b).length ≠ 0 := by rw [tms_len]; intro h; have h1 : i = 0 := (by omega); simp [h1] at hi1
        rw [rowV, tms_len, ← hie, show decide (i = 0) = false by rw [decide_eq_false_iff_not]; rw [tms_len] at hne; omega]; exact .refl
     ·dsimp only [cond] at hi1 ⊢
      refine awp_seq (awp_seq (awp_region rfl ?_))
      refine sP (opp_mv (v := .ptr _ _ _) rfl rfl) rfl rfl ?_
      refine sR (opr_callG (rl := [(1, 16)]) (r1 := .int _ _) (H1 := [(16, some (.agg [.sl _ _ _ _, .int _ _, .int _ _]))]) (n1 := []) rfl rfl ent55 (cg55c b false (5 * i) b.length (by omega) (by omega)) (And.intro (And.intro rfl wka) True.intro) (And.intro (And.intro rfl (Exists.intro _ (And.intro rfl wkc))) True.intro) rfl rfl rfl rfl) rfl rfl rfl ?_
      refine sP (opp_cmp rfl rfl rfl rfl) rfl rfl ?_
      refine awp_cond _ rfl (fun ht66 => ?_) (fun ht66 => ?_)
      ·(try simp only [cmpI, errD_nil, qa, qb, qc, qd] at ht66)
       refine awp_skip (awp_block (awp_seq (awp_region rfl ?_)))
       refine sP (opp_mv (v := .ptr _ _ _) rfl rfl) rfl rfl ?_
       refine sR (opr_callG (rl := [(1, 16)]) (r1 := .tup [.int _ _, .err _]) (H1 := [(16, some (.agg [.sl _ _ _ _, .int _ _, .int _ _]))]) (n1 := []) rfl rfl ent56 (cg56c b false (5 * i) b.length (by omega) (by omega) (by omega)) (And.intro (And.intro rfl wka) True.intro) (And.intro (And.intro rfl (Exists.intro _ (And.intro rfl wkc))) True.intro) rfl rfl rfl rfl) rfl rfl rfl ?_
       refine sP (opp_mv (v := .tup _) rfl rfl) rfl rfl ?_
       refine sP (opp_extract rfl rfl rfl) rfl rfl ?_
       refine sP (opp_extract rfl rfl rfl) rfl rfl ?_
       refine sP (opp_as (v := .int _ _) rfl rfl) rfl rfl ?_
       refine sP (opp_as (v := .err _) rfl rfl) rfl rfl ?_
       refine awp_seq (awp_region rfl ?_)
       refine sP (opp_mv (v := .ptr _ _ _) rfl rfl) rfl rfl ?_
       refine sR (opr_callG (rl := [(1, 16)]) (r1 := .tup [.int _ _, .err _]) (H1 := [(16, some (.agg [.sl _ _ _ _, .int _ _, .int _ _]))]) (n1 := []) rfl rfl ent47 (cg47c b false (5 * i + 1) b.length (by omega) (by omega) (by omega)) (And.intro (And.intro rfl wka) True.intro) (And.intro (And.intro rfl (Exists.intro _ (And.intro rfl wkc))) True.intro) rfl rfl rfl rfl) rfl rfl rfl ?_
       refine sP (opp_mv (v := .tup _) rfl rfl) rfl rfl ?_
       refine sP (opp_extract rfl rfl rfl) rfl rfl ?_
       refine sP (opp_extract rfl rfl rfl) rfl rfl ?_
       refine sP (opp_as (v := .int _ _) rfl rfl) rfl rfl ?_
       refine sP (opp_as (v := .err _) rfl rfl) rfl rfl ?_
       refine awp_region rfl ?_
       refine sP (opp_mv (v := .ptr _ _ _) rfl rfl) rfl rfl ?_
       refine sP (opp_mv (v := .ptr _ _ _) rfl rfl) rfl rfl ?_
       refine sP (opp_nilCheckP rfl rfl) rfl rfl ?_
       refine sP (opp_fieldP rfl rfl fld33_5 rfl) rfl rfl ?_
       refine sP (opp_loadP rfl rfl rfl rfl bi rfl ty28) rfl rfl ?_
       refine sP (opp_mv (v := .int _ _) rfl rfl) rfl rfl ?_
       refine sP (opp_mv (v := .int _ _) rfl rfl) rfl rfl ?_
       refine sP (opp_build rfl z121 bld121 rfl [.int _ _, .int _ _] rfl) rfl rfl ?_
       refine sR (opr_buildSlice (n := 85) (g := fun j => if j = 0 then .agg _ else .agg [.int .i64 0, .int .i64 0]) rfl eb28 z121 (by decide) rfl rfl) rfl rfl rfl ?_
       refine sR (opr_appendNil (d := 86) rfl rfl (.osl0 rfl (by omega)) eb28 z121 (by omega) (by omega) (by omega)) rfl rfl rfl ?_
       refine sP (opp_nilCheckP rfl rfl) rfl rfl ?_
       refine sP (opp_fieldP rfl rfl fld33_5 rfl) rfl rfl ?_
       refine sR0 (opr_store (v := .osl _ _ _ _ _) (trn := (.agg [_, _, _, _, _, .osl _ _ _ _ _, _, _, _, _])) rfl rfl rfl rfl bi rfl rfl rfl rfl fr2 ty28 (fun _ _ h => h)) rfl rfl rfl ?_
       have hi0 : i = 0 := hi1.2.1 rfl
       refine Exists.intro ((i + 1, false)) (And.intro (And.intro (And.intro (by show 5 * (i + 1) ≤ _; omega) (by simp)) (by first | omega | (dsimp only; omega))) (by
        refine imp_over [(1004, 86)] rfl rfl (by kernel_rfl) ?_ ?_
        ·iterate 29 refine And.intro wkv ?_
         exact True.intro
        ·refine And.intro (And.intro rfl (And.intro rfl (Exists.intro _ (And.intro rfl (by exact WkC.of (by show AV.agg [_, AV.int .i64 _, _] = AV.agg [_, AV.int .i64 _, _]; rw [show 5 * i + 1 + 4 = 5 * (i + 1) by omega]; rfl)))))) ?_
         refine And.intro (And.intro rfl (And.intro rfl (Exists.intro _ (And.intro rfl (by subst hi0; exact WkC.refl _))))) ?_
         refine And.intro (And.intro rfl (And.intro rfl (Exists.intro _ (And.intro rfl (by show WkC (AV.arr 2 _ _) (AV.arr 2 _ _); subst hi0; exact WkC.arr (fun j hj => by rw [show j = 0 by omega, tms_get b 0 (by omega)]; rfl)))))) ?_
         exact True.intro
        ))
      ·(try simp only [cmpI, errD_nil, qa, qb, qc, qd] at ht66)
       refine awp_exit ?_
       repeat (first | refine athen_ret ?_ | refine ain_ret ?_)
       refine gpost_ret (gends (l := []) true .nil (fun h => by cases h) .nil rfl .refl rfl (And.intro (Exists.intro _ (Exists.intro _ (And.intro rfl (And.intro shut (And.intro (fun h => by cases h) (And.intro ?_ rfl)))))) True.intro))
       ·have hi0 : i = 0 := hi1.2.1 rfl
        have hie : b.length / 5 = 0 := by omega
        rw [rowV, tms_len, hie]; exact .agg (.cons .refl (.cons .refl (.cons .refl (.cons .refl (.cons .refl (.cons .sl0 (.cons .refl (.cons .refl (.cons .refl (.cons .refl .nil))))))))))
    ·(try simp only [cmpI, errD_nil, qa, qb, qc, qd] at ht59)
     exfalso; first | omega | (simp at ht59; done)
end
end Go.Proofs.YtpmgdmbcdohgcaaDoor
/- Layer 16: a record put to a state, the other tags (walks over this dump). -/
namespace Go.Proofs.YtpmgdmbcdohgcaaDoor
attribute [local irreducible] Tryd.prog
open Go.Fy
set_option linter.unusedSimpArgs false
set_option linter.unusedVariables false
def ups (b : List UInt8) : List Bool := b.map fun c => decide (c.toNat = 1)
theorem ups_len (b : List UInt8) : (ups b).length = b.length := by simp [ups]
theorem ups_get (b : List UInt8) (j : Nat) (h : j < b.length) : boolAt (ups b) j = .bool (decide (((b.getD j 0).toNat : Int) = 1)) := by
  simp only [boolAt, ups, List.getD_eq_getElem?_getD, List.getElem?_map, List.getElem?_eq_getElem h, Option.map_some, Option.getD_some]
  congr 1; rw [decide_eq_decide]; omega
theorem pg_eq (b : List UInt8) (h : b.length = 65) : AV.agg [.int .i64 0, .bool (cmpI .eql ((b.getD (Int.toNat 0) 0).toNat : Int) 1), .arr 1 64 fun j => if j < min ((b.length : Int) - 1).toNat (((64 : Nat) : Int) - 0).toNat then bAt b (Int.toNat 1 + j) else .int .u8 0] = pgAV (Sp.page b) := by
  have e1 : cmpI .eql ((b.getD (Int.toNat 0) 0).toNat : Int) 1 = (Sp.page b).dirty := by
    show decide _ = decide _
    rw [decide_eq_decide]; show ((b.getD 0 0).toNat : Int) = 1 ↔ _; omega
  have e2 : (fun j => if j < min ((b.length : Int) - 1).toNat (((64 : Nat) : Int) - 0).toNat then bAt b (Int.toNat 1 + j) else AV.int .u8 0) = bAt (Sp.page b).data := by
    funext j
    by_cases hj : j < 64
    · rw [if_pos (by omega)]; exact (bAt_drop b 1 j).symm
    · rw [if_neg (by omega)]; simp only [bAt, Sp.page, List.getD_eq_getElem?_getD]; rw [List.getElem?_eq_none (by rw [List.length_drop]; omega)]; rfl
  rw [e1, e2]; rfl
section
variable {ea : Nat → Addr} {cds : List Nat} {gl : Nat → Option AV}
theorem cg26g (b : List UInt8) (h0 : b.length ≤ 4294967296) (v : Nat → Value) (nn : Bool) (n : Nat) (f : Nat → AV) : AGen (V ea cds gl) 26 [.ptr 1 [] 0, rcAV ⟨6, false, b⟩] [(1, some (.agg [.val (v 0), .val (v 1), .val (v 2), .val (v 3), .val (v 4), .val (v 5), .sl 1 nn n f, .val (v 7), .val (v 8), .val (v 9)]))]
  (.tup []) [(1, some (.agg [.val (v 0), .val (v 1), .val (v 2), .val (v 3), .val (v 4), .val (v 5), rowV 1 (ups b).length (boolAt (ups b)), .val (v 7), .val (v 8), .val (v 9)]))] := by
 unfold rcAV; dsimp only
 refine agen_of_body (N := 163) Tryd.func26 rfl rfl (Nat.le_of_ble_eq_true rfl) fun C hV hN hM hO => ?_
 obtain ⟨_, _, w0, G0, σ0, _, own0⟩ := C; dsimp only at hV hN hM hO; subst hV; subst hN; subst hM
 refine awp_seq (awp_region rfl ?_)
 refine sR (opr_box (y := .agg _) (n := 3) rfl rfl rfl) rfl rfl rfl ?_
 refine awp_seq (awp_region rfl ?_)
 refine sP (opp_fieldP rfl rfl fld40_1 rfl) rfl rfl ?_
 refine sP (opp_loadP rfl rfl rfl rfl bi rfl ty38) rfl rfl ?_
 refine sR (opr_callO (rl := [(8, 16)]) (r1 := .ptr _ _ _) (H1 := [(16, some (.agg [.sl _ _ _ _, .int _ _, .int _ _]))]) (n1 := [16]) rfl rfl ent45 rfl (co45 b (by omega)) (AViews.refl _ rfl) rfl rfl rfl rfl) rfl rfl rfl ?_
 refine sP (opp_as (v := .ptr _ _ _) rfl rfl) rfl rfl ?_
 refine awp_seq (awp_region rfl ?_)
 refine sP (opp_fieldP rfl rfl fld40_0 rfl) rfl rfl ?_
 refine sP (opp_loadP rfl rfl rfl rfl bi rfl ty3) rfl rfl ?_
 refine awp_block (awp_seq (awp_region rfl ?_))
 refine sP (opp_cmp rfl rfl rfl rfl) rfl rfl ?_
 refine sP (opp_as (v := .bool _) rfl rfl) rfl rfl ?_
 refine awp_cond _ rfl (fun ht19 => ?_) (fun ht19 => ?_)
 ·(try simp only [cmpI, errD_nil, qa, qb, qc, qd] at ht19)
  exfalso; first | omega | (simp at ht19; done)
 ·(try simp only [cmpI, errD_nil, qa, qb, qc, qd] at ht19)
  refine awp_seq (awp_region rfl ?_)
  refine sP (opp_cmp rfl rfl rfl rfl) rfl rfl ?_
  refine sP (opp_as (v := .bool _) rfl rfl) rfl rfl ?_
  refine awp_cond _ rfl (fun ht37 => ?_) (fun ht37 => ?_)
  ·(try simp only [cmpI, errD_nil, qa, qb, qc, qd] at ht37)
   exfalso; first | omega | (simp at ht37; done)
  ·(try simp only [cmpI, errD_nil, qa, qb, qc, qd] at ht37)
   refine awp_seq (awp_region rfl ?_)
   refine sP (opp_cmp rfl rfl rfl rfl) rfl rfl ?_
   refine sP (opp_as (v := .bool _) rfl rfl) rfl rfl ?_
   refine awp_cond _ rfl (fun ht51 => ?_) (fun ht51 => ?_)
   ·(try simp only [cmpI, errD_nil, qa, qb, qc, qd] at ht51)
    exfalso; first | omega | (simp at ht51; done)
   ·(try simp only [cmpI, errD_nil, qa, qb, qc, qd] at ht51)
    refine awp_seq (awp_region rfl ?_)
    refine sP (opp_cmp rfl rfl rfl rfl) rfl rfl ?_
    refine sP (opp_as (v := .bool _) rfl rfl) rfl rfl ?_
    refine awp_cond _ rfl (fun ht59 => ?_) (fun ht59 => ?_)
    ·(try simp only [cmpI, errD_nil, qa, qb, qc, qd] at ht59)
     exfalso; first | omega | (simp at ht59; done)
    ·(try simp only [cmpI, errD_nil, qa, qb, qc, qd] at ht59)
     refine awp_seq (awp_region rfl ?_)
     refine sP (opp_cmp rfl rfl rfl rfl) rfl rfl ?_
     refine sP (opp_as (v := .bool _) rfl rfl) rfl rfl ?_
     refine awp_cond _ rfl (fun ht89 => ?_) (fun ht89 => ?_)
     ·(try simp only [cmpI, errD_nil, qa, qb, qc, qd] at ht89)
      refine awp_seq (awp_region rfl ?_)
      refine sP (opp_mv (v := .ptr _ _ _) rfl rfl) rfl rfl ?_
      refine sP (opp_nilCheckP rfl rfl) rfl rfl ?_
      refine sP (opp_fieldP rfl rfl fld33_6 rfl) rfl rfl ?_
      refine sR0 (opr_store (v := .sl _ _ _ _) (trn := (.agg [_, _, _, _, _, _, .sl _ _ _ _, _, _, _])) rfl rfl rfl rfl bi rfl rfl rfl rfl fr2 ty29 (fun _ _ h => h)) rfl rfl rfl ?_
      refine awp_seq (awp_region rfl ?_)
      refine sP (opp_fieldP rfl rfl fld40_1 rfl) rfl rfl ?_
      refine sP (opp_loadP rfl rfl rfl rfl bi rfl ty38) rfl rfl ?_
      refine sP (opp_lenSl rfl rfl un38) rfl rfl ?_
      refine sP (opp_mv (v := .int _ _) rfl rfl) rfl rfl ?_
      refine awp_block ?_
      refine awp_loopK (ι := Nat × Bool) (fun p => p.1 ≤ b.length ∧ (p.2 = true ↔ p.1 = 0)) (fun p => [(10, .top), (97, .int .i64 (p.1 : Int)), (98, .top), (99, .top), (100, .top), (101, .top), (102, .top), (103, .top), (104, .top), (105, .top), (106, .top), (107, .top), (108, .top), (109, .top), (110, .top), (111, .top), (112, .top)]) (fun p => [(1, some (.agg [.val (v 0), .val (v 1), .val (v 2), .val (v 3), .val (v 4), .val (v 5), cond p.2 (.sl 1 true 0 (fun _ => .top)) (.osl 1004 1 0 p.1 p.1), .val (v 7), .val (v 8), .val (v 9)])), (1004, cond p.2 none (some (.arr 1 p.1 (boolAt (ups b)))))]) [1004] (fun p => b.length - p.1) ((0, true)) (⟨Nat.zero_le _, by simp⟩) (by
       refine imp_over [] rfl rfl (by kernel_rfl) ?_ ?_
       ·iterate 17 refine And.intro wkv ?_
        exact True.intro
       ·refine And.intro (And.intro rfl (And.intro rfl (Exists.intro _ (And.intro rfl wkc)))) ?_
        exact True.intro
       ) ?_
      intro p hi1; obtain ⟨i, e⟩ := p; rcases e with _ | _
      ·dsimp only [cond] at hi1 ⊢
       refine awp_seq (awp_region rfl ?_)
       refine sP (opp_cmp rfl rfl rfl rfl) rfl rfl ?_
       refine awp_seq ?_
       refine awp_cond _ rfl (fun ht98 => ?_) (fun ht98 => ?_)
       ·(try simp only [cmpI, errD_nil, qa, qb, qc, qd] at ht98)
        refine awp_skip (awp_seq (awp_block (awp_seq ?_)))
        have hby := (b.getD i 0).toNat_lt
        refine awp_region rfl ?_
        refine sP (opp_indexSl rfl rfl rfl el38 (by omega) (by omega)) rfl rfl ?_
        refine sP (opp_loadF rfl rfl ty5) rfl rfl ?_
        refine sP (opp_as (v := .int _ _) rfl rfl) rfl rfl ?_
        refine awp_region rfl ?_
        refine sP (opp_mv (v := .ptr _ _ _) rfl rfl) rfl rfl ?_
        refine sP (opp_mv (v := .ptr _ _ _) rfl rfl) rfl rfl ?_
        refine sP (opp_nilCheckP rfl rfl) rfl rfl ?_
        refine sP (opp_fieldP rfl rfl fld33_6 rfl) rfl rfl ?_
        refine sP (opp_loadP rfl rfl rfl rfl bi rfl ty29) rfl rfl ?_
        refine sP (opp_mv (v := .int _ _) rfl rfl) rfl rfl ?_
        refine sP (opp_cmp rfl rfl rfl rfl) rfl rfl ?_
        refine sR (opr_buildSlice (n := 108) (g := fun j => if j = 0 then .bool _ else .bool false) rfl eb29 z4 (by decide) rfl rfl) rfl rfl rfl ?_
        refine sR (opr_append (d := 109) rfl rfl rfl (by omega) (.osl0 rfl (by omega)) eb29 z4 (by omega) (by omega)) rfl rfl rfl ?_
        refine sP (opp_nilCheckP rfl rfl) rfl rfl ?_
        refine sP (opp_fieldP rfl rfl fld33_6 rfl) rfl rfl ?_
        refine sR0 (opr_store (v := .osl _ _ _ _ _) (trn := (.agg [_, _, _, _, _, _, .osl _ _ _ _ _, _, _, _])) rfl rfl rfl rfl bi rfl rfl rfl rfl fr2 ty29 (fun _ _ h => h)) rfl rfl rfl ?_
        refine awp_region rfl ?_
        refine sP (opp_arith rfl rfl rfl (.inl ⟨rfl, w64 (by omega)⟩)) rfl rfl ?_
        refine sP (opp_mv (v := .int _ _) rfl rfl) rfl rfl ?_
        refine Exists.intro ((i + 1, false)) (And.intro (And.intro (And.intro (by show i + 1 ≤ _; omega) (by simp)) (by first | omega | (dsimp only; omega))) (by
         refine imp_over [(1004, 109)] rfl rfl (by kernel_rfl) ?_ ?_
         ·iterate 17 refine And.intro wkv ?_
          exact True.intro
         ·refine And.intro (And.intro rfl (And.intro rfl (Exists.intro _ (And.intro rfl wkc)))) ?_
          refine And.intro (And.intro rfl (And.intro rfl (Exists.intro _ (And.intro rfl (by show WkC (AV.arr 1 _ _) (AV.arr 1 _ _); exact WkC.arr (fun j hj => by by_cases h : j < i; rw [if_pos h]; rw [if_neg h, show j = i by omega, if_pos (by omega), ups_get b i (by omega)]; rfl)))))) ?_
          exact True.intro
         ))
       ·(try simp only [cmpI, errD_nil, qa, qb, qc, qd] at ht98)
        refine awp_exit ?_
        repeat (first | refine athen_ret ?_ | refine ain_ret ?_)
        refine gpost_ret (gends (l := []) true .nil (fun h => by cases h) .nil rfl .refl rfl (And.intro (Exists.intro _ (Exists.intro _ (And.intro rfl (And.intro shut (And.intro (fun h => by cases h) (And.intro ?_ rfl)))))) True.intro))
        ·have hie : i = b.length := by omega
         have hne : i ≠ 0 := by intro h; simp [h] at hi1
         rw [rowV, ups_len, ← hie, show decide (i = 0) = false by rw [decide_eq_false_iff_not]; exact hne]; exact .refl
      ·dsimp only [cond] at hi1 ⊢
       refine awp_seq (awp_region rfl ?_)
       refine sP (opp_cmp rfl rfl rfl rfl) rfl rfl ?_
       refine awp_seq ?_
       refine awp_cond _ rfl (fun ht98 => ?_) (fun ht98 => ?_)
       ·(try simp only [cmpI, errD_nil, qa, qb, qc, qd] at ht98)
        refine awp_skip (awp_seq (awp_block (awp_seq ?_)))
        have hby := (b.getD i 0).toNat_lt
        refine awp_region rfl ?_
        refine sP (opp_indexSl rfl rfl rfl el38 (by omega) (by omega)) rfl rfl ?_
        refine sP (opp_loadF rfl rfl ty5) rfl rfl ?_
        refine sP (opp_as (v := .int _ _) rfl rfl) rfl rfl ?_
        refine awp_region rfl ?_
        refine sP (opp_mv (v := .ptr _ _ _) rfl rfl) rfl rfl ?_
        refine sP (opp_mv (v := .ptr _ _ _) rfl rfl) rfl rfl ?_
        refine sP (opp_nilCheckP rfl rfl) rfl rfl ?_
        refine sP (opp_fieldP rfl rfl fld33_6 rfl) rfl rfl ?_
        refine sP (opp_loadP rfl rfl rfl rfl bi rfl ty29) rfl rfl ?_
        refine sP (opp_mv (v := .int _ _) rfl rfl) rfl rfl ?_
        refine sP (opp_cmp rfl rfl rfl rfl) rfl rfl ?_
        refine sR (opr_buildSlice (n := 108) (g := fun j => if j = 0 then .bool _ else .bool false) rfl eb29 z4 (by decide) rfl rfl) rfl rfl rfl ?_
        refine sR (opr_appendNil (d := 109) rfl rfl (.osl0 rfl (by omega)) eb29 z4 (by omega) (by omega) (by omega)) rfl rfl rfl ?_
        refine sP (opp_nilCheckP rfl rfl) rfl rfl ?_
        refine sP (opp_fieldP rfl rfl fld33_6 rfl) rfl rfl ?_
        refine sR0 (opr_store (v := .osl _ _ _ _ _) (trn := (.agg [_, _, _, _, _, _, .osl _ _ _ _ _, _, _, _])) rfl rfl rfl rfl bi rfl rfl rfl rfl fr2 ty29 (fun _ _ h => h)) rfl rfl rfl ?_
        refine awp_region rfl ?_
        refine sP (opp_arith rfl rfl rfl (.inl ⟨rfl, w64 (by omega)⟩)) rfl rfl ?_
        refine sP (opp_mv (v := .int _ _) rfl rfl) rfl rfl ?_
        have hi0 : i = 0 := hi1.2.1 rfl
        refine Exists.intro ((i + 1, false)) (And.intro (And.intro (And.intro (by show i + 1 ≤ _; omega) (by simp)) (by first | omega | (dsimp only; omega))) (by
         refine imp_over [(1004, 109)] rfl rfl (by kernel_rfl) ?_ ?_
         ·iterate 17 refine And.intro wkv ?_
          exact True.intro
         ·refine And.intro (And.intro rfl (And.intro rfl (Exists.intro _ (And.intro rfl (by subst hi0; exact WkC.refl _))))) ?_
          refine And.intro (And.intro rfl (And.intro rfl (Exists.intro _ (And.intro rfl (by show WkC (AV.arr 1 _ _) (AV.arr 1 _ _); subst hi0; exact WkC.arr (fun j hj => by rw [show j = 0 by omega, ups_get b 0 (by omega)]; rfl)))))) ?_
          exact True.intro
         ))
       ·(try simp only [cmpI, errD_nil, qa, qb, qc, qd] at ht98)
        refine awp_exit ?_
        repeat (first | refine athen_ret ?_ | refine ain_ret ?_)
        refine gpost_ret (gends (l := []) true .nil (fun h => by cases h) .nil rfl .refl rfl (And.intro (Exists.intro _ (Exists.intro _ (And.intro rfl (And.intro shut (And.intro (fun h => by cases h) (And.intro ?_ rfl)))))) True.intro))
        ·have hi0 : i = 0 := hi1.2.1 rfl
         have hie : b.length = 0 := by omega
         rw [rowV, ups_len, hie]; exact .agg (.cons .refl (.cons .refl (.cons .refl (.cons .refl (.cons .refl (.cons .refl (.cons .sl0 (.cons .refl (.cons .refl (.cons .refl .nil))))))))))
     ·(try simp only [cmpI, errD_nil, qa, qb, qc, qd] at ht89)
      exfalso; first | omega | (simp at ht89; done)
theorem cg26h (b : List UInt8) (h0 : b.length ≤ 4294967296) (v : Nat → Value) (l : List Pt) (hl : l.length ≤ 4294967296) (hG2 : gl 2 = some (.err (.code 1))) (hG3 : gl 3 = some (.err (.code 2))) :
  AGen (V ea cds gl) 26 [.ptr 1 [] 0, rcAV ⟨8, false, b⟩] [(1, some (.agg [.val (v 0), .val (v 1), .val (v 2), .val (v 3), .val (v 4), .val (v 5), .val (v 6), .val (v 7), .osl 2 2 0 l.length l.length, .val (v 9)])), (2, some (.arr 2 l.length (ptAt l)))]
  (.tup []) [(1, some (.agg [.val (v 0), .val (v 1), .val (v 2), .val (v 3), .val (v 4), .val (v 5), .val (v 6), .val (v 7), .osl 136 2 0 (l.length + 1) (l.length + 1), .val (v 9)])), (2, none), (136, some (.arr 2 (l.length + 1) (ptAt (l ++ [(Sp.portQ b).1]))))] := by
 unfold rcAV; dsimp only
 refine agen_of_body (N := 163) Tryd.func26 rfl rfl (Nat.le_of_ble_eq_true rfl) fun C hV hN hM hO => ?_
 obtain ⟨_, _, w0, G0, σ0, _, own0⟩ := C; dsimp only at hV hN hM hO; subst hV; subst hN; subst hM
 refine awp_seq (awp_region rfl ?_)
 refine sR (opr_box (y := .agg _) (n := 3) rfl rfl rfl) rfl rfl rfl ?_
 refine awp_seq (awp_region rfl ?_)
 refine sP (opp_fieldP rfl rfl fld40_1 rfl) rfl rfl ?_
 refine sP (opp_loadP rfl rfl rfl rfl bi rfl ty38) rfl rfl ?_
 refine sR (opr_callO (rl := [(8, 16)]) (r1 := .ptr _ _ _) (H1 := [(16, some (.agg [.sl _ _ _ _, .int _ _, .int _ _]))]) (n1 := [16]) rfl rfl ent45 rfl (co45 b (by omega)) (AViews.refl _ rfl) rfl rfl rfl rfl) rfl rfl rfl ?_
 refine sP (opp_as (v := .ptr _ _ _) rfl rfl) rfl rfl ?_
 refine awp_seq (awp_region rfl ?_)
 refine sP (opp_fieldP rfl rfl fld40_0 rfl) rfl rfl ?_
 refine sP (opp_loadP rfl rfl rfl rfl bi rfl ty3) rfl rfl ?_
 refine awp_block (awp_seq (awp_region rfl ?_))
 refine sP (opp_cmp rfl rfl rfl rfl) rfl rfl ?_
 refine sP (opp_as (v := .bool _) rfl rfl) rfl rfl ?_
 refine awp_cond _ rfl (fun ht19 => ?_) (fun ht19 => ?_)
 ·(try simp only [cmpI, errD_nil, qa, qb, qc, qd] at ht19)
  exfalso; first | omega | (simp at ht19; done)
 ·(try simp only [cmpI, errD_nil, qa, qb, qc, qd] at ht19)
  refine awp_seq (awp_region rfl ?_)
  refine sP (opp_cmp rfl rfl rfl rfl) rfl rfl ?_
  refine sP (opp_as (v := .bool _) rfl rfl) rfl rfl ?_
  refine awp_cond _ rfl (fun ht37 => ?_) (fun ht37 => ?_)
  ·(try simp only [cmpI, errD_nil, qa, qb, qc, qd] at ht37)
   exfalso; first | omega | (simp at ht37; done)
  ·(try simp only [cmpI, errD_nil, qa, qb, qc, qd] at ht37)
   refine awp_seq (awp_region rfl ?_)
   refine sP (opp_cmp rfl rfl rfl rfl) rfl rfl ?_
   refine sP (opp_as (v := .bool _) rfl rfl) rfl rfl ?_
   refine awp_cond _ rfl (fun ht51 => ?_) (fun ht51 => ?_)
   ·(try simp only [cmpI, errD_nil, qa, qb, qc, qd] at ht51)
    exfalso; first | omega | (simp at ht51; done)
   ·(try simp only [cmpI, errD_nil, qa, qb, qc, qd] at ht51)
    refine awp_seq (awp_region rfl ?_)
    refine sP (opp_cmp rfl rfl rfl rfl) rfl rfl ?_
    refine sP (opp_as (v := .bool _) rfl rfl) rfl rfl ?_
    refine awp_cond _ rfl (fun ht59 => ?_) (fun ht59 => ?_)
    ·(try simp only [cmpI, errD_nil, qa, qb, qc, qd] at ht59)
     exfalso; first | omega | (simp at ht59; done)
    ·(try simp only [cmpI, errD_nil, qa, qb, qc, qd] at ht59)
     refine awp_seq (awp_region rfl ?_)
     refine sP (opp_cmp rfl rfl rfl rfl) rfl rfl ?_
     refine sP (opp_as (v := .bool _) rfl rfl) rfl rfl ?_
     refine awp_cond _ rfl (fun ht89 => ?_) (fun ht89 => ?_)
     ·(try simp only [cmpI, errD_nil, qa, qb, qc, qd] at ht89)
      exfalso; first | omega | (simp at ht89; done)
     ·(try simp only [cmpI, errD_nil, qa, qb, qc, qd] at ht89)
      refine awp_seq (awp_region rfl ?_)
      refine sP (opp_cmp rfl rfl rfl rfl) rfl rfl ?_
      refine sP (opp_as (v := .bool _) rfl rfl) rfl rfl ?_
      refine awp_cond _ rfl (fun ht113 => ?_) (fun ht113 => ?_)
      ·(try simp only [cmpI, errD_nil, qa, qb, qc, qd] at ht113)
       exfalso; first | omega | (simp at ht113; done)
      ·(try simp only [cmpI, errD_nil, qa, qb, qc, qd] at ht113)
       refine awp_seq (awp_region rfl ?_)
       refine sP (opp_cmp rfl rfl rfl rfl) rfl rfl ?_
       refine sP (opp_as (v := .bool _) rfl rfl) rfl rfl ?_
       refine awp_cond _ rfl (fun ht121 => ?_) (fun ht121 => ?_)
       ·(try simp only [cmpI, errD_nil, qa, qb, qc, qd] at ht121)
        refine awp_seq (awp_region rfl ?_)
        refine sP (opp_fieldP rfl rfl fld40_1 rfl) rfl rfl ?_
        refine sP (opp_loadP rfl rfl rfl rfl bi rfl ty38) rfl rfl ?_
        refine sR (opr_call rfl rfl ent52 rfl (c52 b (by omega) hG2 hG3) (AViews.refl _ rfl)) rfl rfl rfl ?_ -- d=126 t=109 a=125
        refine sP (opp_mv (v := .tup _) rfl rfl) rfl rfl ?_
        refine sP (opp_extract rfl rfl rfl) rfl rfl ?_
        refine sP (opp_extract rfl rfl rfl) rfl rfl ?_
        refine sR (opr_alloc (n := 11) rfl z70) rfl rfl rfl ?_
        refine sR0 (opr_store (v := .agg _) (trn := (.agg _)) rfl rfl rfl rfl bi rfl rfl rfl rfl fr2 ty70 (fun _ _ h => h)) rfl rfl rfl ?_
        refine sP (opp_as (v := .bool _) rfl rfl) rfl rfl ?_
        refine awp_draw hmix rfl (by kernel_rfl) ?_
        refine dP (fun _ => false) (opp_mv (v := .ptr _ _ _) rfl rfl) rfl rfl ?_
        refine dP (fun _ => false) (opp_mv (v := .ptr _ _ _) rfl rfl) rfl rfl ?_
        refine dP (fun _ => false) (opp_nilCheckP rfl rfl) rfl rfl ?_
        refine dP (fun _ => false) (opp_fieldP rfl rfl fld33_8 rfl) rfl rfl ?_
        refine dP (fun n => Nat.beq n 1) (opp_loadP rfl rfl rfl rfl bi rfl ty30) rfl rfl ?_
        refine dP (fun n => Nat.beq n 11) (opp_loadP rfl rfl rfl rfl bi rfl ty70) rfl rfl ?_
        refine dR (fun _ => false) (opr_buildSlice (n := 135) (g := fun j => if j = 0 then .agg _ else .agg [.sl 1 true 0 (fun _ => .top), .int .i64 0]) rfl eb30 z70 (by decide) rfl rfl) rfl rfl rfl ?_
        refine dR (fun n => !([] : List Nat).contains n) (opr_append (d := 136) rfl rfl rfl (by omega) (.osl0 rfl (by omega)) eb30 z70 (by omega) (by omega)) rfl rfl rfl ?_
        refine dP (fun _ => false) (opp_nilCheckP rfl rfl) rfl rfl ?_
        refine dP (fun _ => false) (opp_fieldP rfl rfl fld33_8 rfl) rfl rfl ?_
        refine dR0 (fun n => Nat.beq n 1) (opr_store (v := .osl _ _ _ _ _) (trn := (.agg [_, _, _, _, _, _, _, _, .osl _ _ _ _ _, _])) rfl rfl rfl rfl bi rfl rfl rfl rfl fr2 ty30 (fun _ _ h => h)) rfl rfl rfl ?_
        refine And.intro (by kernel_rfl) ?_
        repeat (first | refine athen_ret ?_ | refine ain_ret ?_)
        refine gpost_ret (gends (l := []) false .nil (fun h => by cases h) .nil rfl .refl rfl (And.intro (Exists.intro _ (Exists.intro _ (And.intro rfl (And.intro shut (And.intro (fun h => by cases h) (And.intro ?_ rfl)))))) (And.intro (Exists.intro _ (Exists.intro _ (And.intro rfl (And.intro shut (And.intro (fun h => by cases h) (And.intro ?_ rfl)))))) True.intro)))
        ·exact .refl
        ·exact .arr (fun j hj => by by_cases h : j < l.length; rw [if_pos h, ptAt, ptAt, snoc_lt _ _ _ _ h]; rw [if_neg h, if_pos (by omega), ptAt, snoc_eq _ _ _ _ (by omega)]; rfl)
       ·(try simp only [cmpI, errD_nil, qa, qb, qc, qd] at ht121)
        exfalso; first | omega | (simp at ht121; done)
theorem cg26i (b : List UInt8) (h0 : b.length ≤ 4294967296) (v : Nat → Value) (f : Nat → AV) (hG2 : gl 2 = some (.err (.code 1))) (hG3 : gl 3 = some (.err (.code 2))) :
  AGen (V ea cds gl) 26 [.ptr 1 [] 0, rcAV ⟨8, false, b⟩] [(1, some (.agg [.val (v 0), .val (v 1), .val (v 2), .val (v 3), .val (v 4), .val (v 5), .val (v 6), .val (v 7), .sl 2 true 0 f, .val (v 9)]))]
  (.tup []) [(1, some (.agg [.val (v 0), .val (v 1), .val (v 2), .val (v 3), .val (v 4), .val (v 5), .val (v 6), .val (v 7), .osl 136 2 0 1 1, .val (v 9)])), (136, some (.arr 2 1 (ptAt [(Sp.portQ b).1])))] := by
 unfold rcAV; dsimp only
 refine agen_of_body (N := 163) Tryd.func26 rfl rfl (Nat.le_of_ble_eq_true rfl) fun C hV hN hM hO => ?_
 obtain ⟨_, _, w0, G0, σ0, _, own0⟩ := C; dsimp only at hV hN hM hO; subst hV; subst hN; subst hM
 refine awp_seq (awp_region rfl ?_)
 refine sR (opr_box (y := .agg _) (n := 3) rfl rfl rfl) rfl rfl rfl ?_
 refine awp_seq (awp_region rfl ?_)
 refine sP (opp_fieldP rfl rfl fld40_1 rfl) rfl rfl ?_
 refine sP (opp_loadP rfl rfl rfl rfl bi rfl ty38) rfl rfl ?_
 refine sR (opr_callO (rl := [(8, 16)]) (r1 := .ptr _ _ _) (H1 := [(16, some (.agg [.sl _ _ _ _, .int _ _, .int _ _]))]) (n1 := [16]) rfl rfl ent45 rfl (co45 b (by omega)) (AViews.refl _ rfl) rfl rfl rfl rfl) rfl rfl rfl ?_
 refine sP (opp_as (v := .ptr _ _ _) rfl rfl) rfl rfl ?_
 refine awp_seq (awp_region rfl ?_)
 refine sP (opp_fieldP rfl rfl fld40_0 rfl) rfl rfl ?_
 refine sP (opp_loadP rfl rfl rfl rfl bi rfl ty3) rfl rfl ?_
 refine awp_block (awp_seq (awp_region rfl ?_))
 refine sP (opp_cmp rfl rfl rfl rfl) rfl rfl ?_
 refine sP (opp_as (v := .bool _) rfl rfl) rfl rfl ?_
 refine awp_cond _ rfl (fun ht19 => ?_) (fun ht19 => ?_)
 ·(try simp only [cmpI, errD_nil, qa, qb, qc, qd] at ht19)
  exfalso; first | omega | (simp at ht19; done)
 ·(try simp only [cmpI, errD_nil, qa, qb, qc, qd] at ht19)
  refine awp_seq (awp_region rfl ?_)
  refine sP (opp_cmp rfl rfl rfl rfl) rfl rfl ?_
  refine sP (opp_as (v := .bool _) rfl rfl) rfl rfl ?_
  refine awp_cond _ rfl (fun ht37 => ?_) (fun ht37 => ?_)
  ·(try simp only [cmpI, errD_nil, qa, qb, qc, qd] at ht37)
   exfalso; first | omega | (simp at ht37; done)
  ·(try simp only [cmpI, errD_nil, qa, qb, qc, qd] at ht37)
   refine awp_seq (awp_region rfl ?_)
   refine sP (opp_cmp rfl rfl rfl rfl) rfl rfl ?_
   refine sP (opp_as (v := .bool _) rfl rfl) rfl rfl ?_
   refine awp_cond _ rfl (fun ht51 => ?_) (fun ht51 => ?_)
   ·(try simp only [cmpI, errD_nil, qa, qb, qc, qd] at ht51)
    exfalso; first | omega | (simp at ht51; done)
   ·(try simp only [cmpI, errD_nil, qa, qb, qc, qd] at ht51)
    refine awp_seq (awp_region rfl ?_)
    refine sP (opp_cmp rfl rfl rfl rfl) rfl rfl ?_
    refine sP (opp_as (v := .bool _) rfl rfl) rfl rfl ?_
    refine awp_cond _ rfl (fun ht59 => ?_) (fun ht59 => ?_)
    ·(try simp only [cmpI, errD_nil, qa, qb, qc, qd] at ht59)
     exfalso; first | omega | (simp at ht59; done)
    ·(try simp only [cmpI, errD_nil, qa, qb, qc, qd] at ht59)
     refine awp_seq (awp_region rfl ?_)
     refine sP (opp_cmp rfl rfl rfl rfl) rfl rfl ?_
     refine sP (opp_as (v := .bool _) rfl rfl) rfl rfl ?_
     refine awp_cond _ rfl (fun ht89 => ?_) (fun ht89 => ?_)
     ·(try simp only [cmpI, errD_nil, qa, qb, qc, qd] at ht89)
      exfalso; first | omega | (simp at ht89; done)
     ·(try simp only [cmpI, errD_nil, qa, qb, qc, qd] at ht89)
      refine awp_seq (awp_region rfl ?_)
      refine sP (opp_cmp rfl rfl rfl rfl) rfl rfl ?_
      refine sP (opp_as (v := .bool _) rfl rfl) rfl rfl ?_
      refine awp_cond _ rfl (fun ht113 => ?_) (fun ht113 => ?_)
      ·(try simp only [cmpI, errD_nil, qa, qb, qc, qd] at ht113)
       exfalso; first | omega | (simp at ht113; done)
      ·(try simp only [cmpI, errD_nil, qa, qb, qc, qd] at ht113)
       refine awp_seq (awp_region rfl ?_)
       refine sP (opp_cmp rfl rfl rfl rfl) rfl rfl ?_
       refine sP (opp_as (v := .bool _) rfl rfl) rfl rfl ?_
       refine awp_cond _ rfl (fun ht121 => ?_) (fun ht121 => ?_)
       ·(try simp only [cmpI, errD_nil, qa, qb, qc, qd] at ht121)
        refine awp_seq (awp_region rfl ?_)
        refine sP (opp_fieldP rfl rfl fld40_1 rfl) rfl rfl ?_
        refine sP (opp_loadP rfl rfl rfl rfl bi rfl ty38) rfl rfl ?_
        refine sR (opr_call rfl rfl ent52 rfl (c52 b (by omega) hG2 hG3) (AViews.refl _ rfl)) rfl rfl rfl ?_ -- d=126 t=109 a=125
        refine sP (opp_mv (v := .tup _) rfl rfl) rfl rfl ?_
        refine sP (opp_extract rfl rfl rfl) rfl rfl ?_
        refine sP (opp_extract rfl rfl rfl) rfl rfl ?_
        refine sR (opr_alloc (n := 11) rfl z70) rfl rfl rfl ?_
        refine sR0 (opr_store (v := .agg _) (trn := (.agg _)) rfl rfl rfl rfl bi rfl rfl rfl rfl fr2 ty70 (fun _ _ h => h)) rfl rfl rfl ?_
        refine sP (opp_as (v := .bool _) rfl rfl) rfl rfl ?_
        refine awp_draw hmix rfl (by kernel_rfl) ?_
        refine dP (fun _ => false) (opp_mv (v := .ptr _ _ _) rfl rfl) rfl rfl ?_
        refine dP (fun _ => false) (opp_mv (v := .ptr _ _ _) rfl rfl) rfl rfl ?_
        refine dP (fun _ => false) (opp_nilCheckP rfl rfl) rfl rfl ?_
        refine dP (fun _ => false) (opp_fieldP rfl rfl fld33_8 rfl) rfl rfl ?_
        refine dP (fun n => Nat.beq n 1) (opp_loadP rfl rfl rfl rfl bi rfl ty30) rfl rfl ?_
        refine dP (fun n => Nat.beq n 11) (opp_loadP rfl rfl rfl rfl bi rfl ty70) rfl rfl ?_
        refine dR (fun _ => false) (opr_buildSlice (n := 135) (g := fun j => if j = 0 then .agg _ else .agg [.sl 1 true 0 (fun _ => .top), .int .i64 0]) rfl eb30 z70 (by decide) rfl rfl) rfl rfl rfl ?_
        refine dR (fun n => !([] : List Nat).contains n) (opr_appendNil (d := 136) rfl rfl (.osl0 rfl (by omega)) eb30 z70 (by omega) (by omega) (by omega)) rfl rfl rfl ?_
        refine dP (fun _ => false) (opp_nilCheckP rfl rfl) rfl rfl ?_
        refine dP (fun _ => false) (opp_fieldP rfl rfl fld33_8 rfl) rfl rfl ?_
        refine dR0 (fun n => Nat.beq n 1) (opr_store (v := .osl _ _ _ _ _) (trn := (.agg [_, _, _, _, _, _, _, _, .osl _ _ _ _ _, _])) rfl rfl rfl rfl bi rfl rfl rfl rfl fr2 ty30 (fun _ _ h => h)) rfl rfl rfl ?_
        refine And.intro (by kernel_rfl) ?_
        repeat (first | refine athen_ret ?_ | refine ain_ret ?_)
        refine gpost_ret (gends (l := []) true .nil (fun h => by cases h) .nil rfl .refl rfl (And.intro (Exists.intro _ (Exists.intro _ (And.intro rfl (And.intro shut (And.intro (fun h => by cases h) (And.intro ?_ rfl)))))) (And.intro (Exists.intro _ (Exists.intro _ (And.intro rfl (And.intro shut (And.intro (fun h => by cases h) (And.intro ?_ rfl)))))) True.intro)))
        ·exact .refl
        ·exact .arr (fun j hj => by rw [show j = 0 by omega]; rfl)
       ·(try simp only [cmpI, errD_nil, qa, qb, qc, qd] at ht121)
        exfalso; first | omega | (simp at ht121; done)
theorem cg26j (b : List UInt8) (h0 : b.length = 65) (v : Nat → Value) (l : List Pg) (hl : l.length ≤ 4294967296) : AGen (V ea cds gl) 26 [.ptr 1 [] 0, rcAV ⟨9, false, b⟩] [(1, some (.agg [.val (v 0), .val (v 1), .val (v 2), .val (v 3), .val (v 4), .val (v 5), .val (v 6), .val (v 7), .val (v 8), .osl 2 66 0 l.length l.length])), (2, some (.arr 66 l.length (pgAt l)))]
  (.tup []) [(1, some (.agg [.val (v 0), .val (v 1), .val (v 2), .val (v 3), .val (v 4), .val (v 5), .val (v 6), .val (v 7), .val (v 8), .osl 160 66 0 (l.length + 1) (l.length + 1)])), (2, none), (160, some (.arr 66 (l.length + 1) (pgAt (l ++ [Sp.page b]))))] := by
 unfold rcAV; dsimp only
 refine agen_of_body (N := 163) Tryd.func26 rfl rfl (Nat.le_of_ble_eq_true rfl) fun C hV hN hM hO => ?_
 obtain ⟨_, _, w0, G0, σ0, _, own0⟩ := C; dsimp only at hV hN hM hO; subst hV; subst hN; subst hM
 refine awp_seq (awp_region rfl ?_)
 refine sR (opr_box (y := .agg _) (n := 3) rfl rfl rfl) rfl rfl rfl ?_
 refine awp_seq (awp_region rfl ?_)
 refine sP (opp_fieldP rfl rfl fld40_1 rfl) rfl rfl ?_
 refine sP (opp_loadP rfl rfl rfl rfl bi rfl ty38) rfl rfl ?_
 refine sR (opr_callO (rl := [(8, 16)]) (r1 := .ptr _ _ _) (H1 := [(16, some (.agg [.sl _ _ _ _, .int _ _, .int _ _]))]) (n1 := [16]) rfl rfl ent45 rfl (co45 b (by omega)) (AViews.refl _ rfl) rfl rfl rfl rfl) rfl rfl rfl ?_
 refine sP (opp_as (v := .ptr _ _ _) rfl rfl) rfl rfl ?_
 refine awp_seq (awp_region rfl ?_)
 refine sP (opp_fieldP rfl rfl fld40_0 rfl) rfl rfl ?_
 refine sP (opp_loadP rfl rfl rfl rfl bi rfl ty3) rfl rfl ?_
 refine awp_block (awp_seq (awp_region rfl ?_))
 refine sP (opp_cmp rfl rfl rfl rfl) rfl rfl ?_
 refine sP (opp_as (v := .bool _) rfl rfl) rfl rfl ?_
 refine awp_cond _ rfl (fun ht19 => ?_) (fun ht19 => ?_)
 ·(try simp only [cmpI, errD_nil, qa, qb, qc, qd] at ht19)
  exfalso; first | omega | (simp at ht19; done)
 ·(try simp only [cmpI, errD_nil, qa, qb, qc, qd] at ht19)
  refine awp_seq (awp_region rfl ?_)
  refine sP (opp_cmp rfl rfl rfl rfl) rfl rfl ?_
  refine sP (opp_as (v := .bool _) rfl rfl) rfl rfl ?_
  refine awp_cond _ rfl (fun ht37 => ?_) (fun ht37 => ?_)
  ·(try simp only [cmpI, errD_nil, qa, qb, qc, qd] at ht37)
   exfalso; first | omega | (simp at ht37; done)
  ·(try simp only [cmpI, errD_nil, qa, qb, qc, qd] at ht37)
   refine awp_seq (awp_region rfl ?_)
   refine sP (opp_cmp rfl rfl rfl rfl) rfl rfl ?_
   refine sP (opp_as (v := .bool _) rfl rfl) rfl rfl ?_
   refine awp_cond _ rfl (fun ht51 => ?_) (fun ht51 => ?_)
   ·(try simp only [cmpI, errD_nil, qa, qb, qc, qd] at ht51)
    exfalso; first | omega | (simp at ht51; done)
   ·(try simp only [cmpI, errD_nil, qa, qb, qc, qd] at ht51)
    refine awp_seq (awp_region rfl ?_)
    refine sP (opp_cmp rfl rfl rfl rfl) rfl rfl ?_
    refine sP (opp_as (v := .bool _) rfl rfl) rfl rfl ?_
    refine awp_cond _ rfl (fun ht59 => ?_) (fun ht59 => ?_)
    ·(try simp only [cmpI, errD_nil, qa, qb, qc, qd] at ht59)
     exfalso; first | omega | (simp at ht59; done)
    ·(try simp only [cmpI, errD_nil, qa, qb, qc, qd] at ht59)
     refine awp_seq (awp_region rfl ?_)
     refine sP (opp_cmp rfl rfl rfl rfl) rfl rfl ?_
     refine sP (opp_as (v := .bool _) rfl rfl) rfl rfl ?_
     refine awp_cond _ rfl (fun ht89 => ?_) (fun ht89 => ?_)
     ·(try simp only [cmpI, errD_nil, qa, qb, qc, qd] at ht89)
      exfalso; first | omega | (simp at ht89; done)
     ·(try simp only [cmpI, errD_nil, qa, qb, qc, qd] at ht89)
      refine awp_seq (awp_region rfl ?_)
      refine sP (opp_cmp rfl rfl rfl rfl) rfl rfl ?_
      refine sP (opp_as (v := .bool _) rfl rfl) rfl rfl ?_
      refine awp_cond _ rfl (fun ht113 => ?_) (fun ht113 => ?_)
      ·(try simp only [cmpI, errD_nil, qa, qb, qc, qd] at ht113)
       exfalso; first | omega | (simp at ht113; done)
      ·(try simp only [cmpI, errD_nil, qa, qb, qc, qd] at ht113)
       refine awp_seq (awp_region rfl ?_)
       refine sP (opp_cmp rfl rfl rfl rfl) rfl rfl ?_
       refine sP (opp_as (v := .bool _) rfl rfl) rfl rfl ?_
       refine awp_cond _ rfl (fun ht121 => ?_) (fun ht121 => ?_)
       ·(try simp only [cmpI, errD_nil, qa, qb, qc, qd] at ht121)
        exfalso; first | omega | (simp at ht121; done)
       ·(try simp only [cmpI, errD_nil, qa, qb, qc, qd] at ht121)
        refine awp_seq (awp_region rfl ?_)
        refine sP (opp_cmp rfl rfl rfl rfl) rfl rfl ?_
        refine sP (opp_as (v := .bool _) rfl rfl) rfl rfl ?_
        refine awp_cond _ rfl (fun ht139 => ?_) (fun ht139 => ?_)
        ·(try simp only [cmpI, errD_nil, qa, qb, qc, qd] at ht139)
         refine awp_seq (awp_region rfl ?_)
         refine sP (opp_fieldP rfl rfl fld40_1 rfl) rfl rfl ?_
         refine sP (opp_loadP rfl rfl rfl rfl bi rfl ty38) rfl rfl ?_
         refine sP (opp_indexSl rfl rfl rfl el38 (by omega) (by omega)) rfl rfl ?_
         refine sP (opp_loadF rfl rfl ty5) rfl rfl ?_
         refine sP (opp_cmp rfl rfl rfl rfl) rfl rfl ?_
         refine sP (opp_build rfl z80 bld80 rfl [.int .i64 0, .bool _, .arr 1 64 (fun _ => .int .u8 0)] rfl) rfl rfl ?_
         refine sR (opr_alloc (n := 13) rfl z80) rfl rfl rfl ?_
         refine sR0 (opr_store (v := .agg _) (trn := (.agg _)) rfl rfl rfl rfl bi rfl rfl rfl rfl fr2 ty80 (fun _ _ h => h)) rfl rfl rfl ?_
         refine awp_seq ?_
         refine awp_draw hmix rfl (by kernel_rfl) ?_
         refine dP (fun _ => false) (opp_fieldP rfl rfl fld80_2 rfl) rfl rfl ?_
         refine dP (fun n => !([] : List Nat).contains n) (opp_sliceArrP rfl rfl rfl rfl bi rfl (Nat.mul_one _) rfl rfl arr78 (by omega) (by omega) (by omega)) rfl rfl ?_
         refine dP (fun _ => false) (opp_fieldP rfl rfl fld40_1 rfl) rfl rfl ?_
         refine dP (fun n => Nat.beq n 3) (opp_loadP rfl rfl rfl rfl bi rfl ty38) rfl rfl ?_
         refine dP (fun _ => false) (opp_sliceSl rfl rfl rfl rfl el38 (by omega) (by omega) (by omega)) rfl rfl ?_
         refine dR (fun n => !([] : List Nat).contains n) (opr_copy (p := [2]) (trn := (.agg [_, _, .arr _ _ _])) rfl rfl rfl rfl bi (by first | rfl | (simp [offP]; done)) (by omega) .sl eb38 (fun _ _ h => h)) rfl rfl rfl ?_
         refine And.intro (by kernel_rfl) ?_
         refine awp_draw hmix rfl (by kernel_rfl) ?_
         refine dP (fun _ => false) (opp_mv (v := .ptr _ _ _) rfl rfl) rfl rfl ?_
         refine dP (fun _ => false) (opp_mv (v := .ptr _ _ _) rfl rfl) rfl rfl ?_
         refine dP (fun _ => false) (opp_nilCheckP rfl rfl) rfl rfl ?_
         refine dP (fun _ => false) (opp_fieldP rfl rfl fld33_9 rfl) rfl rfl ?_
         refine dP (fun n => Nat.beq n 1) (opp_loadP rfl rfl rfl rfl bi rfl ty31) rfl rfl ?_
         refine dP (fun n => Nat.beq n 13) (opp_loadP rfl rfl rfl rfl bi rfl ty80) rfl rfl ?_
         refine dR (fun _ => false) (opr_buildSlice (n := 159) (g := fun j => if j = 0 then .agg _ else .agg [.int .i64 0, .bool false, .arr 1 64 (fun _ => .int .u8 0)]) rfl eb31 z80 (by decide) rfl rfl) rfl rfl rfl ?_
         refine dR (fun n => !([] : List Nat).contains n) (opr_append (d := 160) rfl rfl rfl (by omega) (.osl0 rfl (by omega)) eb31 z80 (by omega) (by omega)) rfl rfl rfl ?_
         refine dP (fun _ => false) (opp_nilCheckP rfl rfl) rfl rfl ?_
         refine dP (fun _ => false) (opp_fieldP rfl rfl fld33_9 rfl) rfl rfl ?_
         refine dR0 (fun n => Nat.beq n 1) (opr_store (v := .osl _ _ _ _ _) (trn := (.agg [_, _, _, _, _, _, _, _, _, .osl _ _ _ _ _])) rfl rfl rfl rfl bi rfl rfl rfl rfl fr2 ty31 (fun _ _ h => h)) rfl rfl rfl ?_
         refine And.intro (by kernel_rfl) ?_
         repeat (first | refine athen_ret ?_ | refine ain_ret ?_)
         refine gpost_ret (gends (l := []) false .nil (fun h => by cases h) .nil rfl .refl rfl (And.intro (Exists.intro _ (Exists.intro _ (And.intro rfl (And.intro shut (And.intro (fun h => by cases h) (And.intro ?_ rfl)))))) (And.intro (Exists.intro _ (Exists.intro _ (And.intro rfl (And.intro shut (And.intro (fun h => by cases h) (And.intro ?_ rfl)))))) True.intro)))
         ·exact .refl
         ·exact .arr (fun j hj => by by_cases h : j < l.length; rw [if_pos h, pgAt, pgAt, snoc_lt _ _ _ _ h]; rw [if_neg h, if_pos (by omega), pgAt, snoc_eq _ _ _ _ (by omega)]; exact pg_eq b h0)
        ·(try simp only [cmpI, errD_nil, qa, qb, qc, qd] at ht139)
         exfalso; first | omega | (simp at ht139; done)
theorem cg26k (b : List UInt8) (h0 : b.length = 65) (v : Nat → Value) (f : Nat → AV) : AGen (V ea cds gl) 26 [.ptr 1 [] 0, rcAV ⟨9, false, b⟩] [(1, some (.agg [.val (v 0), .val (v 1), .val (v 2), .val (v 3), .val (v 4), .val (v 5), .val (v 6), .val (v 7), .val (v 8), .sl 66 true 0 f]))]
  (.tup []) [(1, some (.agg [.val (v 0), .val (v 1), .val (v 2), .val (v 3), .val (v 4), .val (v 5), .val (v 6), .val (v 7), .val (v 8), .osl 160 66 0 1 1])), (160, some (.arr 66 1 (pgAt [Sp.page b])))] := by
 unfold rcAV; dsimp only
 refine agen_of_body (N := 163) Tryd.func26 rfl rfl (Nat.le_of_ble_eq_true rfl) fun C hV hN hM hO => ?_
 obtain ⟨_, _, w0, G0, σ0, _, own0⟩ := C; dsimp only at hV hN hM hO; subst hV; subst hN; subst hM
 refine awp_seq (awp_region rfl ?_)
 refine sR (opr_box (y := .agg _) (n := 3) rfl rfl rfl) rfl rfl rfl ?_
 refine awp_seq (awp_region rfl ?_)
 refine sP (opp_fieldP rfl rfl fld40_1 rfl) rfl rfl ?_
 refine sP (opp_loadP rfl rfl rfl rfl bi rfl ty38) rfl rfl ?_
 refine sR (opr_callO (rl := [(8, 16)]) (r1 := .ptr _ _ _) (H1 := [(16, some (.agg [.sl _ _ _ _, .int _ _, .int _ _]))]) (n1 := [16]) rfl rfl ent45 rfl (co45 b (by omega)) (AViews.refl _ rfl) rfl rfl rfl rfl) rfl rfl rfl ?_
 refine sP (opp_as (v := .ptr _ _ _) rfl rfl) rfl rfl ?_
 refine awp_seq (awp_region rfl ?_)
 refine sP (opp_fieldP rfl rfl fld40_0 rfl) rfl rfl ?_
 refine sP (opp_loadP rfl rfl rfl rfl bi rfl ty3) rfl rfl ?_
 refine awp_block (awp_seq (awp_region rfl ?_))
 refine sP (opp_cmp rfl rfl rfl rfl) rfl rfl ?_
 refine sP (opp_as (v := .bool _) rfl rfl) rfl rfl ?_
 refine awp_cond _ rfl (fun ht19 => ?_) (fun ht19 => ?_)
 ·(try simp only [cmpI, errD_nil, qa, qb, qc, qd] at ht19)
  exfalso; first | omega | (simp at ht19; done)
 ·(try simp only [cmpI, errD_nil, qa, qb, qc, qd] at ht19)
  refine awp_seq (awp_region rfl ?_)
  refine sP (opp_cmp rfl rfl rfl rfl) rfl rfl ?_
  refine sP (opp_as (v := .bool _) rfl rfl) rfl rfl ?_
  refine awp_cond _ rfl (fun ht37 => ?_) (fun ht37 => ?_)
  ·(try simp only [cmpI, errD_nil, qa, qb, qc, qd] at ht37)
   exfalso; first | omega | (simp at ht37; done)
  ·(try simp only [cmpI, errD_nil, qa, qb, qc, qd] at ht37)
   refine awp_seq (awp_region rfl ?_)
   refine sP (opp_cmp rfl rfl rfl rfl) rfl rfl ?_
   refine sP (opp_as (v := .bool _) rfl rfl) rfl rfl ?_
   refine awp_cond _ rfl (fun ht51 => ?_) (fun ht51 => ?_)
   ·(try simp only [cmpI, errD_nil, qa, qb, qc, qd] at ht51)
    exfalso; first | omega | (simp at ht51; done)
   ·(try simp only [cmpI, errD_nil, qa, qb, qc, qd] at ht51)
    refine awp_seq (awp_region rfl ?_)
    refine sP (opp_cmp rfl rfl rfl rfl) rfl rfl ?_
    refine sP (opp_as (v := .bool _) rfl rfl) rfl rfl ?_
    refine awp_cond _ rfl (fun ht59 => ?_) (fun ht59 => ?_)
    ·(try simp only [cmpI, errD_nil, qa, qb, qc, qd] at ht59)
     exfalso; first | omega | (simp at ht59; done)
    ·(try simp only [cmpI, errD_nil, qa, qb, qc, qd] at ht59)
     refine awp_seq (awp_region rfl ?_)
     refine sP (opp_cmp rfl rfl rfl rfl) rfl rfl ?_
     refine sP (opp_as (v := .bool _) rfl rfl) rfl rfl ?_
     refine awp_cond _ rfl (fun ht89 => ?_) (fun ht89 => ?_)
     ·(try simp only [cmpI, errD_nil, qa, qb, qc, qd] at ht89)
      exfalso; first | omega | (simp at ht89; done)
     ·(try simp only [cmpI, errD_nil, qa, qb, qc, qd] at ht89)
      refine awp_seq (awp_region rfl ?_)
      refine sP (opp_cmp rfl rfl rfl rfl) rfl rfl ?_
      refine sP (opp_as (v := .bool _) rfl rfl) rfl rfl ?_
      refine awp_cond _ rfl (fun ht113 => ?_) (fun ht113 => ?_)
      ·(try simp only [cmpI, errD_nil, qa, qb, qc, qd] at ht113)
       exfalso; first | omega | (simp at ht113; done)
      ·(try simp only [cmpI, errD_nil, qa, qb, qc, qd] at ht113)
       refine awp_seq (awp_region rfl ?_)
       refine sP (opp_cmp rfl rfl rfl rfl) rfl rfl ?_
       refine sP (opp_as (v := .bool _) rfl rfl) rfl rfl ?_
       refine awp_cond _ rfl (fun ht121 => ?_) (fun ht121 => ?_)
       ·(try simp only [cmpI, errD_nil, qa, qb, qc, qd] at ht121)
        exfalso; first | omega | (simp at ht121; done)
       ·(try simp only [cmpI, errD_nil, qa, qb, qc, qd] at ht121)
        refine awp_seq (awp_region rfl ?_)
        refine sP (opp_cmp rfl rfl rfl rfl) rfl rfl ?_
        refine sP (opp_as (v := .bool _) rfl rfl) rfl rfl ?_
        refine awp_cond _ rfl (fun ht139 => ?_) (fun ht139 => ?_)
        ·(try simp only [cmpI, errD_nil, qa, qb, qc, qd] at ht139)
         refine awp_seq (awp_region rfl ?_)
         refine sP (opp_fieldP rfl rfl fld40_1 rfl) rfl rfl ?_
         refine sP (opp_loadP rfl rfl rfl rfl bi rfl ty38) rfl rfl ?_
         refine sP (opp_indexSl rfl rfl rfl el38 (by omega) (by omega)) rfl rfl ?_
         refine sP (opp_loadF rfl rfl ty5) rfl rfl ?_
         refine sP (opp_cmp rfl rfl rfl rfl) rfl rfl ?_
         refine sP (opp_build rfl z80 bld80 rfl [.int .i64 0, .bool _, .arr 1 64 (fun _ => .int .u8 0)] rfl) rfl rfl ?_
         refine sR (opr_alloc (n := 13) rfl z80) rfl rfl rfl ?_
         refine sR0 (opr_store (v := .agg _) (trn := (.agg _)) rfl rfl rfl rfl bi rfl rfl rfl rfl fr2 ty80 (fun _ _ h => h)) rfl rfl rfl ?_
         refine awp_seq ?_
         refine awp_draw hmix rfl (by kernel_rfl) ?_
         refine dP (fun _ => false) (opp_fieldP rfl rfl fld80_2 rfl) rfl rfl ?_
         refine dP (fun n => !([] : List Nat).contains n) (opp_sliceArrP rfl rfl rfl rfl bi rfl (Nat.mul_one _) rfl rfl arr78 (by omega) (by omega) (by omega)) rfl rfl ?_
         refine dP (fun _ => false) (opp_fieldP rfl rfl fld40_1 rfl) rfl rfl ?_
         refine dP (fun n => Nat.beq n 3) (opp_loadP rfl rfl rfl rfl bi rfl ty38) rfl rfl ?_
         refine dP (fun _ => false) (opp_sliceSl rfl rfl rfl rfl el38 (by omega) (by omega) (by omega)) rfl rfl ?_
         refine dR (fun n => !([] : List Nat).contains n) (opr_copy (p := [2]) (trn := (.agg [_, _, .arr _ _ _])) rfl rfl rfl rfl bi (by first | rfl | (simp [offP]; done)) (by omega) .sl eb38 (fun _ _ h => h)) rfl rfl rfl ?_
         refine And.intro (by kernel_rfl) ?_
         refine awp_draw hmix rfl (by kernel_rfl) ?_
         refine dP (fun _ => false) (opp_mv (v := .ptr _ _ _) rfl rfl) rfl rfl ?_
         refine dP (fun _ => false) (opp_mv (v := .ptr _ _ _) rfl rfl) rfl rfl ?_
         refine dP (fun _ => false) (opp_nilCheckP rfl rfl) rfl rfl ?_
         refine dP (fun _ => false) (opp_fieldP rfl rfl fld33_9 rfl) rfl rfl ?_
         refine dP (fun n => Nat.beq n 1) (opp_loadP rfl rfl rfl rfl bi rfl ty31) rfl rfl ?_
         refine dP (fun n => Nat.beq n 13) (opp_loadP rfl rfl rfl rfl bi rfl ty80) rfl rfl ?_
         refine dR (fun _ => false) (opr_buildSlice (n := 159) (g := fun j => if j = 0 then .agg _ else .agg [.int .i64 0, .bool false, .arr 1 64 (fun _ => .int .u8 0)]) rfl eb31 z80 (by decide) rfl rfl) rfl rfl rfl ?_
         refine dR (fun n => !([] : List Nat).contains n) (opr_appendNil (d := 160) rfl rfl (.osl0 rfl (by omega)) eb31 z80 (by omega) (by omega) (by omega)) rfl rfl rfl ?_
         refine dP (fun _ => false) (opp_nilCheckP rfl rfl) rfl rfl ?_
         refine dP (fun _ => false) (opp_fieldP rfl rfl fld33_9 rfl) rfl rfl ?_
         refine dR0 (fun n => Nat.beq n 1) (opr_store (v := .osl _ _ _ _ _) (trn := (.agg [_, _, _, _, _, _, _, _, _, .osl _ _ _ _ _])) rfl rfl rfl rfl bi rfl rfl rfl rfl fr2 ty31 (fun _ _ h => h)) rfl rfl rfl ?_
         refine And.intro (by kernel_rfl) ?_
         repeat (first | refine athen_ret ?_ | refine ain_ret ?_)
         refine gpost_ret (gends (l := []) true .nil (fun h => by cases h) .nil rfl .refl rfl (And.intro (Exists.intro _ (Exists.intro _ (And.intro rfl (And.intro shut (And.intro (fun h => by cases h) (And.intro ?_ rfl)))))) (And.intro (Exists.intro _ (Exists.intro _ (And.intro rfl (And.intro shut (And.intro (fun h => by cases h) (And.intro ?_ rfl)))))) True.intro)))
         ·exact .refl
         ·exact .arr (fun j hj => by rw [if_pos (by omega), show j = 0 by omega]; exact pg_eq b h0)
        ·(try simp only [cmpI, errD_nil, qa, qb, qc, qd] at ht139)
         exfalso; first | omega | (simp at ht139; done)
theorem cg26l (t : Int) (b : List UInt8) (h0 : b.length ≤ 4294967296) (h1 : t ≠ 1) (h3 : t ≠ 3) (h4 : t ≠ 4) (h5 : t ≠ 5) (h6 : t ≠ 6) (h7 : t ≠ 7) (h8 : t ≠ 8) (h9 : t ≠ 9) (v : Nat → Value) : AGen (V ea cds gl) 26 [.ptr 1 [] 0, rcAV ⟨t, false, b⟩] [(1, some (.agg [.val (v 0), .val (v 1), .val (v 2), .val (v 3), .val (v 4), .val (v 5), .val (v 6), .val (v 7), .val (v 8), .val (v 9)]))]
  (.tup []) [(1, some (.agg [.val (v 0), .val (v 1), .val (v 2), .val (v 3), .val (v 4), .val (v 5), .val (v 6), .val (v 7), .val (v 8), .val (v 9)]))] := by
 unfold rcAV; dsimp only
 refine agen_of_body (N := 163) Tryd.func26 rfl rfl (Nat.le_of_ble_eq_true rfl) fun C hV hN hM hO => ?_
 obtain ⟨_, _, w0, G0, σ0, _, own0⟩ := C; dsimp only at hV hN hM hO; subst hV; subst hN; subst hM
 refine awp_seq (awp_region rfl ?_)
 refine sR (opr_box (y := .agg _) (n := 3) rfl rfl rfl) rfl rfl rfl ?_
 refine awp_seq (awp_region rfl ?_)
 refine sP (opp_fieldP rfl rfl fld40_1 rfl) rfl rfl ?_
 refine sP (opp_loadP rfl rfl rfl rfl bi rfl ty38) rfl rfl ?_
 refine sR (opr_callO (rl := [(8, 16)]) (r1 := .ptr _ _ _) (H1 := [(16, some (.agg [.sl _ _ _ _, .int _ _, .int _ _]))]) (n1 := [16]) rfl rfl ent45 rfl (co45 b (by omega)) (AViews.refl _ rfl) rfl rfl rfl rfl) rfl rfl rfl ?_
 refine sP (opp_as (v := .ptr _ _ _) rfl rfl) rfl rfl ?_
 refine awp_seq (awp_region rfl ?_)
 refine sP (opp_fieldP rfl rfl fld40_0 rfl) rfl rfl ?_
 refine sP (opp_loadP rfl rfl rfl rfl bi rfl ty3) rfl rfl ?_
 refine awp_block (awp_seq (awp_region rfl ?_))
 refine sP (opp_cmp rfl rfl rfl rfl) rfl rfl ?_
 refine sP (opp_as (v := .bool _) rfl rfl) rfl rfl ?_
 refine awp_cond _ rfl (fun ht19 => ?_) (fun ht19 => ?_)
 ·(try simp only [cmpI, errD_nil, qa, qb, qc, qd] at ht19)
  exfalso; omega
 ·(try simp only [cmpI, errD_nil, qa, qb, qc, qd] at ht19)
  refine awp_seq (awp_region rfl ?_)
  refine sP (opp_cmp rfl rfl rfl rfl) rfl rfl ?_
  refine sP (opp_as (v := .bool _) rfl rfl) rfl rfl ?_
  refine awp_cond _ rfl (fun ht37 => ?_) (fun ht37 => ?_)
  ·(try simp only [cmpI, errD_nil, qa, qb, qc, qd] at ht37)
   exfalso; omega
  ·(try simp only [cmpI, errD_nil, qa, qb, qc, qd] at ht37)
   refine awp_seq (awp_region rfl ?_)
   refine sP (opp_cmp rfl rfl rfl rfl) rfl rfl ?_
   refine sP (opp_as (v := .bool _) rfl rfl) rfl rfl ?_
   refine awp_cond _ rfl (fun ht51 => ?_) (fun ht51 => ?_)
   ·(try simp only [cmpI, errD_nil, qa, qb, qc, qd] at ht51)
    exfalso; omega
   ·(try simp only [cmpI, errD_nil, qa, qb, qc, qd] at ht51)
    refine awp_seq (awp_region rfl ?_)
    refine sP (opp_cmp rfl rfl rfl rfl) rfl rfl ?_
    refine sP (opp_as (v := .bool _) rfl rfl) rfl rfl ?_
    refine awp_cond _ rfl (fun ht59 => ?_) (fun ht59 => ?_)
    ·(try simp only [cmpI, errD_nil, qa, qb, qc, qd] at ht59)
     exfalso; omega
    ·(try simp only [cmpI, errD_nil, qa, qb, qc, qd] at ht59)
     refine awp_seq (awp_region rfl ?_)
     refine sP (opp_cmp rfl rfl rfl rfl) rfl rfl ?_
     refine sP (opp_as (v := .bool _) rfl rfl) rfl rfl ?_
     refine awp_cond _ rfl (fun ht89 => ?_) (fun ht89 => ?_)
     ·(try simp only [cmpI, errD_nil, qa, qb, qc, qd] at ht89)
      exfalso; omega
     ·(try simp only [cmpI, errD_nil, qa, qb, qc, qd] at ht89)
      refine awp_seq (awp_region rfl ?_)
      refine sP (opp_cmp rfl rfl rfl rfl) rfl rfl ?_
      refine sP (opp_as (v := .bool _) rfl rfl) rfl rfl ?_
      refine awp_cond _ rfl (fun ht113 => ?_) (fun ht113 => ?_)
      ·(try simp only [cmpI, errD_nil, qa, qb, qc, qd] at ht113)
       exfalso; omega
      ·(try simp only [cmpI, errD_nil, qa, qb, qc, qd] at ht113)
       refine awp_seq (awp_region rfl ?_)
       refine sP (opp_cmp rfl rfl rfl rfl) rfl rfl ?_
       refine sP (opp_as (v := .bool _) rfl rfl) rfl rfl ?_
       refine awp_cond _ rfl (fun ht121 => ?_) (fun ht121 => ?_)
       ·(try simp only [cmpI, errD_nil, qa, qb, qc, qd] at ht121)
        exfalso; omega
       ·(try simp only [cmpI, errD_nil, qa, qb, qc, qd] at ht121)
        refine awp_seq (awp_region rfl ?_)
        refine sP (opp_cmp rfl rfl rfl rfl) rfl rfl ?_
        refine sP (opp_as (v := .bool _) rfl rfl) rfl rfl ?_
        refine awp_cond _ rfl (fun ht139 => ?_) (fun ht139 => ?_)
        ·(try simp only [cmpI, errD_nil, qa, qb, qc, qd] at ht139)
         exfalso; omega
        ·(try simp only [cmpI, errD_nil, qa, qb, qc, qd] at ht139)
         refine awp_skip ?_
         repeat (first | refine athen_ret ?_ | refine ain_ret ?_)
         refine gpost_ret (gends (l := []) true .nil (fun h => by cases h) .nil rfl .refl rfl (And.intro (Exists.intro _ (Exists.intro _ (And.intro rfl (And.intro shut (And.intro (fun h => by cases h) (And.intro ?_ rfl)))))) True.intro))
         ·exact .refl
end
end Go.Proofs.YtpmgdmbcdohgcaaDoor
