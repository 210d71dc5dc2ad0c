/- My own texts, packed: L11x, KR3x, L12x, L13x, L14x, S19, FyA3, L15x, L16x, S18. -/
import Derived.Test.YtpmgdmbcdohgcaaDoorM6
/- Layer 2: records, written and read (walks over this dump). -/
namespace Go.Proofs.YtpmgdmbcdohgcaaDoor
attribute [local irreducible] Tryd.prog
open Go.Fy
set_option linter.unusedSimpArgs false
set_option linter.unusedVariables false
section
variable {ea : Nat → Addr} {cds : List Nat} {gl : Nat → Option AV}
theorem cg34r (l d : List UInt8) (t : Nat) (nn : Bool) (ht1 : 1 ≤ t) (ht2 : t ≤ 255) (hd : d.length ≤ 65535) (h0 : l.length ≤ 274877906944) : AGen (V ea cds gl) 34 [.ptr 1 [] 0, .int .i64 (t : Int), .sl 1 nn d.length (bAt d)]
  [(1, some (.agg [.osl 2 1 0 l.length l.length, .err .nil])), (2, some (.arr 1 l.length (bAt l)))]
  (.tup []) [(1, some (.agg [.osl 1004 1 0 (l ++ (Sp.be t 1 ++ (Sp.be d.length 2 ++ d))).length (l ++ (Sp.be t 1 ++ (Sp.be d.length 2 ++ d))).length, .err .nil])), (2, none), (1004, some (.arr 1 (l ++ (Sp.be t 1 ++ (Sp.be d.length 2 ++ d))).length (bAt (l ++ (Sp.be t 1 ++ (Sp.be d.length 2 ++ d))))))] := by
 refine agen_of_body (N := 34) Tryd.func34 rfl rfl (Nat.le_of_ble_eq_true rfl) fun C hV hN hM hO => ?_
 obtain ⟨_, _, w0, G0, σ0, _, own0⟩ := C; dsimp only at hV hN hM hO; subst hV; subst hN; subst hM
 refine awp_block (awp_seq (awp_region rfl ?_))
 refine sP (opp_mv (v := .int _ _) rfl rfl) rfl rfl ?_
 refine sP (opp_cmp rfl rfl rfl rfl) rfl rfl ?_
 refine sP (opp_mv (v := .bool _) rfl rfl) rfl rfl ?_
 refine sG _ rfl rfl rfl rfl (fun hg => (And.intro gi (True.intro))) (fun hg => opp_mv (v := .int _ _) rfl rfl) ?_
 refine sGR _ rfl rfl rfl rfl (fun hg => (And.intro gi (And.intro gi (True.intro)))) (fun hg => (opr_call rfl rfl ent62 rfl (c62 1 (by simp)) (AViews.refl _ rfl))) ?_
 refine sG _ rfl rfl rfl rfl (fun hg => (And.intro gi (And.intro gi (True.intro)))) (fun hg => opp_cmp rfl rfl rfl rfl) ?_
 refine sPick rfl rfl rfl rfl (by exact True.intro) rfl rfl (fun hg => gi) (fun hg => gi) ?_
 refine sP (opp_as (v := .bool _) rfl rfl) rfl rfl ?_
 refine awp_cond _ rfl (fun ht16 => ?_) (fun ht16 => ?_)
 ·(try simp only [cmpI, errD_nil, qa, qb, qc, qd] at ht16)
  exfalso; revert ht16; simp [cmpI]; omega
 ·(try simp only [cmpI, errD_nil, qa, qb, qc, qd] at ht16)
  refine awp_seq (awp_region rfl ?_)
  refine sP (opp_mv (v := .sl _ _ _ _) rfl rfl) rfl rfl ?_
  refine sP (opp_lenSl rfl rfl un38) rfl rfl ?_
  refine sP (opp_cmp rfl rfl rfl rfl) rfl rfl ?_
  refine sP (opp_as (v := .bool _) rfl rfl) rfl rfl ?_
  refine awp_cond _ rfl (fun ht27 => ?_) (fun ht27 => ?_)
  ·(try simp only [cmpI, errD_nil, qa, qb, qc, qd] at ht27)
   exfalso; revert ht27; simp [cmpI]; omega
  ·(try simp only [cmpI, errD_nil, qa, qb, qc, qd] at ht27)
   refine awp_seq (awp_region rfl ?_)
   refine sP (opp_mv (v := .ptr _ _ _) rfl rfl) rfl rfl ?_
   refine sP (opp_mv (v := .int _ _) rfl rfl) rfl rfl ?_
   refine sR (opr_callG (rl := [(1, 1), (2, 2), (1004, 2001)]) (r1 := .tup []) (H1 := [(1, some (.agg [.osl 2001 _ _ _ _, .err _])), (2, none), (2001, some (.arr _ _ _))]) (n1 := [2001]) rfl rfl ent61 (cg61r l t 1 (by simp) (by omega) (by omega)) (And.intro (And.intro rfl wka) (And.intro (And.intro rfl wka) (And.intro (And.intro rfl wka) True.intro))) (And.intro (And.intro rfl (Exists.intro _ (And.intro rfl wkc))) (And.intro (And.intro rfl (Exists.intro _ (And.intro rfl wkc))) True.intro)) rfl rfl rfl rfl) rfl rfl rfl ?_
   refine awp_seq (awp_region rfl ?_)
   refine sP (opp_mv (v := .ptr _ _ _) rfl rfl) rfl rfl ?_
   refine sP (opp_mv (v := .sl _ _ _ _) rfl rfl) rfl rfl ?_
   refine sP (opp_lenSl rfl rfl un38) rfl rfl ?_
   refine sR (opr_callG (rl := [(1, 1), (2, 2001), (1004, 2002)]) (r1 := .tup []) (H1 := [(1, some (.agg [.osl 2002 _ _ _ _, .err _])), (2001, none), (2002, some (.arr _ _ _))]) (n1 := [2002]) rfl rfl ent61 (cg61r (l ++ Sp.be t 1) d.length 2 (by simp) (by omega) (by rw [List.length_append, Sp.be_length]; omega)) (And.intro (And.intro rfl wka) (And.intro (And.intro rfl wka) (And.intro (And.intro rfl wka) True.intro))) (And.intro (And.intro rfl (Exists.intro _ (And.intro rfl wkc))) (And.intro (And.intro rfl (Exists.intro _ (And.intro rfl wkc))) True.intro)) rfl rfl rfl rfl) rfl rfl rfl ?_
   refine awp_region rfl ?_
   refine sP (opp_mv (v := .ptr _ _ _) rfl rfl) rfl rfl ?_
   refine sP (opp_mv (v := .sl _ _ _ _) rfl rfl) rfl rfl ?_
   refine sR (opr_callG (rl := [(1, 1), (2, 2002), (15, 1004)]) (r1 := .tup []) (H1 := [(1, some (.agg [.osl 1004 _ _ _ _, .err _])), (2002, none), (1004, some (.arr _ _ _))]) (n1 := [1004]) rfl rfl ent60 (cg60s ((l ++ Sp.be t 1) ++ Sp.be d.length 2).length d.length nn (bAt ((l ++ Sp.be t 1) ++ Sp.be d.length 2)) (bAt d) (by simp only [List.length_append, Sp.be_length]; omega) (by omega)) (And.intro (And.intro rfl wka) (And.intro (And.intro rfl wka) True.intro)) (And.intro (And.intro rfl (Exists.intro _ (And.intro rfl wkc))) (And.intro (And.intro rfl (Exists.intro _ (And.intro rfl wkc))) True.intro)) rfl rfl rfl rfl) rfl rfl rfl ?_
   repeat (first | refine athen_ret ?_ | refine ain_ret ?_)
   refine gpost_ret (gends (l := []) false .nil (fun h => by cases h) .nil rfl .refl rfl (And.intro (Exists.intro _ (Exists.intro _ (And.intro rfl (And.intro shut (And.intro (fun h => by cases h) (And.intro ?_ rfl)))))) (And.intro (Exists.intro _ (Exists.intro _ (And.intro rfl (And.intro shut (And.intro (fun h => by cases h) (And.intro ?_ rfl)))))) True.intro)))
   ·rw [show (l ++ (Sp.be t 1 ++ (Sp.be d.length 2 ++ d))).length = ((l ++ Sp.be t 1) ++ Sp.be d.length 2).length + d.length by simp only [List.length_append]; omega]; exact .refl
   ·rw [show l ++ (Sp.be t 1 ++ (Sp.be d.length 2 ++ d)) = ((l ++ Sp.be t 1) ++ Sp.be d.length 2) ++ d by simp only [List.append_assoc], show (((l ++ Sp.be t 1) ++ Sp.be d.length 2) ++ d).length = ((l ++ Sp.be t 1) ++ Sp.be d.length 2).length + d.length from List.length_append]; exact .arr (fun j hj => bAt_append _ d j)
theorem cg88c (l : List UInt8) (a b : Nat) (hb : a + 3 ≤ b) (hl : b ≤ l.length) (h0 : l.length ≤ 140737488355328) : AGen (V ea cds gl) 88 [.ptr 1 [] 0] [(1, some (.agg [.sl 1 false l.length (bAt l), .int .i64 (a : Int), .int .i64 (b : Int)]))]
  (.tup [.int .i64 (Sp.fld l a 1 : Nat), .int .i64 (Sp.fld l (a + 1) 2 : Nat), .err .nil]) [(1, some (.agg [.sl 1 false l.length (bAt l), .int .i64 (a : Int), .int .i64 (b : Int)]))] := by
 refine agen_of_body (N := 18) Tryd.func88 rfl rfl (Nat.le_of_ble_eq_true rfl) fun C hV hN hM hO => ?_
 obtain ⟨_, _, w0, G0, σ0, _, own0⟩ := C; dsimp only at hV hN hM hO; subst hV; subst hN; subst hM
 refine awp_seq (awp_region rfl ?_)
 refine sP (opp_as (v := .int _ _) rfl rfl) rfl rfl ?_
 refine sP (opp_as (v := .int _ _) rfl rfl) rfl rfl ?_
 refine sP (opp_as (v := .err _) rfl rfl) rfl rfl ?_
 refine awp_seq (awp_seq (awp_region rfl ?_))
 refine sP (opp_mv (v := .ptr _ _ _) rfl rfl) rfl rfl ?_
 refine sR (opr_callG (rl := [(1, 1)]) (r1 := .int _ _) (H1 := [(1, some (.agg [.sl _ _ _ _, .int _ _, .int _ _]))]) (n1 := []) rfl rfl ent55 (cg55c l false a b (by omega) (by omega)) (And.intro (And.intro rfl wka) True.intro) (And.intro (And.intro rfl (Exists.intro _ (And.intro rfl wkc))) True.intro) rfl rfl rfl rfl) rfl rfl rfl ?_
 refine sP (opp_cmp rfl rfl rfl rfl) rfl rfl ?_
 refine awp_cond _ rfl (fun ht7 => ?_) (fun ht7 => ?_)
 ·(try simp only [cmpI, errD_nil, qa, qb, qc, qd] at ht7)
  exfalso; revert ht7; simp [cmpI]; omega
 ·(try simp only [cmpI, errD_nil, qa, qb, qc, qd] at ht7)
  refine awp_skip (awp_seq (awp_region rfl ?_))
  refine sP (opp_mv (v := .ptr _ _ _) rfl rfl) rfl rfl ?_
  refine sR (opr_callG (rl := [(1, 1)]) (r1 := .int _ _) (H1 := [(1, some (.agg [.sl _ _ _ _, .int _ _, .int _ _]))]) (n1 := []) rfl rfl ent86 (cg86c l false a b 0 1 (by omega) (by omega) h0) (And.intro (And.intro rfl wka) (And.intro (And.intro rfl wka) (And.intro (And.intro rfl wka) True.intro))) (And.intro (And.intro rfl (Exists.intro _ (And.intro rfl wkc))) True.intro) rfl rfl rfl rfl) rfl rfl rfl ?_
  refine sP (opp_mv (v := .ptr _ _ _) rfl rfl) rfl rfl ?_
  refine sR (opr_callG (rl := [(1, 1)]) (r1 := .int _ _) (H1 := [(1, some (.agg [.sl _ _ _ _, .int _ _, .int _ _]))]) (n1 := []) rfl rfl ent86 (cg86c l false a b 1 2 (by omega) (by omega) h0) (And.intro (And.intro rfl wka) (And.intro (And.intro rfl wka) (And.intro (And.intro rfl wka) True.intro))) (And.intro (And.intro rfl (Exists.intro _ (And.intro rfl wkc))) True.intro) rfl rfl rfl rfl) rfl rfl rfl ?_
  refine sP (opp_as (v := .int _ _) rfl rfl) rfl rfl ?_
  refine sP (opp_as (v := .int _ _) rfl rfl) rfl rfl ?_
  refine sP (opp_as (v := .err _) rfl rfl) rfl rfl ?_
  refine awp_ret ?_
  repeat (first | refine athen_ret ?_ | refine ain_ret ?_)
  refine gpost_ret (gends (l := [.int _ _, .int _ _, .err _]) true (.tmp (.tmp (.tmp .nil))) (fun h => by cases h) (.cons shut (fun h => by cases h) (.cons shut (fun h => by cases h) (.cons shut (fun h => by cases h) .nil))) rfl ?_ rfl (And.intro (Exists.intro _ (Exists.intro _ (And.intro rfl (And.intro shut (And.intro (fun h => by cases h) (And.intro ?_ rfl)))))) True.intro))
  ·exact .refl
  ·exact .refl
theorem cg88s (l : List UInt8) (a b : Nat) (hab : a ≤ b) (hb : b < a + 3) (hl : b ≤ l.length) (h0 : l.length ≤ 140737488355328) (hG2 : gl 2 = some (.err (.code 1))) : AGen (V ea cds gl) 88 [.ptr 1 [] 0] [(1, some (.agg [.sl 1 false l.length (bAt l), .int .i64 (a : Int), .int .i64 (b : Int)]))]
  (.tup [.int .i64 0, .int .i64 0, .err (.at (a : Int) (.code 1))]) [(1, some (.agg [.sl 1 false l.length (bAt l), .int .i64 (a : Int), .int .i64 (b : Int)]))] := by
 refine agen_of_body (N := 18) Tryd.func88 rfl rfl (Nat.le_of_ble_eq_true rfl) fun C hV hN hM hO => ?_
 obtain ⟨_, _, w0, G0, σ0, _, own0⟩ := C; dsimp only at hV hN hM hO; subst hV; subst hN; subst hM
 refine awp_seq (awp_region rfl ?_)
 refine sP (opp_as (v := .int _ _) rfl rfl) rfl rfl ?_
 refine sP (opp_as (v := .int _ _) rfl rfl) rfl rfl ?_
 refine sP (opp_as (v := .err _) rfl rfl) rfl rfl ?_
 refine awp_seq (awp_seq (awp_region rfl ?_))
 refine sP (opp_mv (v := .ptr _ _ _) rfl rfl) rfl rfl ?_
 refine sR (opr_callG (rl := [(1, 1)]) (r1 := .int _ _) (H1 := [(1, some (.agg [.sl _ _ _ _, .int _ _, .int _ _]))]) (n1 := []) rfl rfl ent55 (cg55c l false a b (by omega) (by omega)) (And.intro (And.intro rfl wka) True.intro) (And.intro (And.intro rfl (Exists.intro _ (And.intro rfl wkc))) True.intro) rfl rfl rfl rfl) rfl rfl rfl ?_
 refine sP (opp_cmp rfl rfl rfl rfl) rfl rfl ?_
 refine awp_cond _ rfl (fun ht7 => ?_) (fun ht7 => ?_)
 ·(try simp only [cmpI, errD_nil, qa, qb, qc, qd] at ht7)
  refine awp_seq ?_
  refine awp_draw hmix rfl (by kernel_rfl) ?_
  refine dP (fun _ => false) (opp_mv (v := .ptr _ _ _) rfl rfl) rfl rfl ?_
  refine dP (fun _ => false) (opp_nilCheckP rfl rfl) rfl rfl ?_
  refine dP (fun _ => false) (opp_fieldP rfl rfl fld139_1 rfl) rfl rfl ?_
  refine dP (fun n => Nat.beq n 1) (opp_loadP rfl rfl rfl rfl bi rfl ty3) rfl rfl ?_
  refine dP (fun _ => false) (opp_loadF rfl (ev_glob hG2) ty35) rfl rfl ?_
  refine dR (fun n => !([] : List Nat).contains n) (opr_call rfl rfl ent78 rfl (c78 _ _) (AViews.refl _ rfl)) rfl rfl rfl ?_ -- d=13 t=35 a=11,12
  refine dP (fun _ => false) (opp_as (v := .int _ _) rfl rfl) rfl rfl ?_
  refine dP (fun _ => false) (opp_as (v := .int _ _) rfl rfl) rfl rfl ?_
  refine dP (fun _ => false) (opp_as (v := .err _) rfl rfl) rfl rfl ?_
  refine And.intro (by kernel_rfl) ?_
  refine awp_ret ?_
  repeat (first | refine athen_ret ?_ | refine ain_ret ?_)
  refine gpost_ret (gends (l := [.int _ _, .int _ _, .err _]) true (.tmp (.tmp (.tmp .nil))) (fun h => by cases h) (.cons shut (fun h => by cases h) (.cons shut (fun h => by cases h) (.cons shut (fun h => by cases h) .nil))) rfl ?_ rfl (And.intro (Exists.intro _ (Exists.intro _ (And.intro rfl (And.intro shut (And.intro (fun h => by cases h) (And.intro ?_ rfl)))))) True.intro))
  ·exact .refl
  ·exact .refl
 ·(try simp only [cmpI, errD_nil, qa, qb, qc, qd] at ht7)
  exfalso; revert ht7; simp [cmpI]; omega
theorem cg89c (l : List UInt8) (a b n : Nat) (hb : a + 3 + n ≤ b) (hl : b ≤ l.length) (h0 : l.length ≤ 140737488355328) : AGen (V ea cds gl) 89 [.ptr 1 [] 0, .int .i64 (n : Int)] [(1, some (.agg [.sl 1 false l.length (bAt l), .int .i64 (a : Int), .int .i64 (b : Int)]))]
  (.tup [.ptr 36 [] 0, .err .nil]) [(1, some (.agg [.sl 1 false l.length (bAt l), .int .i64 ((a + 3 + n : Nat) : Int), .int .i64 (b : Int)])), (36, some (.agg [.sl 1 false l.length (bAt l), .int .i64 ((a + 3 : Nat) : Int), .int .i64 ((a + 3 + n : Nat) : Int)]))] := by
 refine agen_of_body (N := 45) Tryd.func89 rfl rfl (Nat.le_of_ble_eq_true rfl) fun C hV hN hM hO => ?_
 obtain ⟨_, _, w0, G0, σ0, _, own0⟩ := C; dsimp only at hV hN hM hO; subst hV; subst hN; subst hM
 refine awp_seq (awp_region rfl ?_)
 refine sP (opp_as (v := .val _) rfl rfl) rfl rfl ?_
 refine sP (opp_as (v := .err _) rfl rfl) rfl rfl ?_
 refine awp_seq (awp_seq (awp_region rfl ?_))
 refine sP (opp_mv (v := .int _ _) rfl rfl) rfl rfl ?_
 refine sP (opp_mv (v := .ptr _ _ _) rfl rfl) rfl rfl ?_
 refine sR (opr_callG (rl := [(1, 1)]) (r1 := .int _ _) (H1 := [(1, some (.agg [.sl _ _ _ _, .int _ _, .int _ _]))]) (n1 := []) rfl rfl ent55 (cg55c l false a b (by omega) (by omega)) (And.intro (And.intro rfl wka) True.intro) (And.intro (And.intro rfl (Exists.intro _ (And.intro rfl wkc))) True.intro) rfl rfl rfl rfl) rfl rfl rfl ?_
 refine sP (opp_arith rfl rfl rfl (.inr <| .inl ⟨rfl, w64 (by omega)⟩)) rfl rfl ?_
 refine sP (opp_cmp rfl rfl rfl rfl) rfl rfl ?_
 refine awp_cond _ rfl (fun ht11 => ?_) (fun ht11 => ?_)
 ·(try simp only [cmpI, errD_nil, qa, qb, qc, qd] at ht11)
  exfalso; revert ht11; simp [cmpI]; omega
 ·(try simp only [cmpI, errD_nil, qa, qb, qc, qd] at ht11)
  refine awp_skip (awp_seq ?_)
  refine awp_draw hmix rfl (by kernel_rfl) ?_
  refine dP (fun _ => false) (opp_mv (v := .ptr _ _ _) rfl rfl) rfl rfl ?_
  refine dP (fun _ => false) (opp_nilCheckP rfl rfl) rfl rfl ?_
  refine dP (fun _ => false) (opp_fieldP rfl rfl fld139_0 rfl) rfl rfl ?_
  refine dP (fun n => Nat.beq n 1) (opp_loadP rfl rfl rfl rfl bi rfl ty38) rfl rfl ?_
  refine dP (fun _ => false) (opp_mv (v := .ptr _ _ _) rfl rfl) rfl rfl ?_
  refine dP (fun _ => false) (opp_nilCheckP rfl rfl) rfl rfl ?_
  refine dP (fun _ => false) (opp_fieldP rfl rfl fld139_1 rfl) rfl rfl ?_
  refine dP (fun n => Nat.beq n 1) (opp_loadP rfl rfl rfl rfl bi rfl ty3) rfl rfl ?_
  refine dP (fun _ => false) (opp_arith rfl rfl rfl (.inl ⟨rfl, w64 (by omega)⟩)) rfl rfl ?_
  refine dP (fun _ => false) (opp_mv (v := .ptr _ _ _) rfl rfl) rfl rfl ?_
  refine dP (fun _ => false) (opp_nilCheckP rfl rfl) rfl rfl ?_
  refine dP (fun _ => false) (opp_fieldP rfl rfl fld139_1 rfl) rfl rfl ?_
  refine dP (fun n => Nat.beq n 1) (opp_loadP rfl rfl rfl rfl bi rfl ty3) rfl rfl ?_
  refine dP (fun _ => false) (opp_arith rfl rfl rfl (.inl ⟨rfl, w64 (by omega)⟩)) rfl rfl ?_
  refine dP (fun _ => false) (opp_mv (v := .int _ _) rfl rfl) rfl rfl ?_
  refine dP (fun _ => false) (opp_arith rfl rfl rfl (.inl ⟨rfl, w64 (by omega)⟩)) rfl rfl ?_
  refine dP (fun _ => false) (opp_build rfl z139 bld139 rfl [.sl _ _ _ _, .int _ _, .int _ _] rfl) rfl rfl ?_
  refine dR (fun _ => false) (opr_box (y := .agg _) (n := 36) rfl rfl rfl) rfl rfl rfl ?_
  refine dP (fun _ => false) (opp_as (v := .ptr _ _ _) rfl rfl) rfl rfl ?_
  refine And.intro (by kernel_rfl) ?_
  refine awp_seq (awp_region rfl ?_)
  refine sP (opp_mv (v := .ptr _ _ _) rfl rfl) rfl rfl ?_
  refine sP (opp_mv (v := .ptr _ _ _) rfl rfl) rfl rfl ?_
  refine sP (opp_nilCheckP rfl rfl) rfl rfl ?_
  refine sP (opp_fieldP rfl rfl fld139_2 rfl) rfl rfl ?_
  refine sP (opp_loadP rfl rfl rfl rfl bi rfl ty3) rfl rfl ?_
  refine sP (opp_nilCheckP rfl rfl) rfl rfl ?_
  refine sP (opp_fieldP rfl rfl fld139_1 rfl) rfl rfl ?_
  refine sR0 (opr_store (v := .int _ _) (trn := (.agg [_, .int _ _, _])) rfl rfl rfl rfl bi rfl rfl rfl rfl fr2 ty3 (fun _ _ h => h)) rfl rfl rfl ?_
  refine awp_seq (awp_region rfl ?_)
  refine sP (opp_mv (v := .ptr _ _ _) rfl rfl) rfl rfl ?_
  refine sP (opp_as (v := .ptr _ _ _) rfl rfl) rfl rfl ?_
  refine sP (opp_as (v := .err _) rfl rfl) rfl rfl ?_
  refine awp_ret ?_
  repeat (first | refine athen_ret ?_ | refine ain_ret ?_)
  refine gpost_ret (gends (l := [.ptr _ _ _, .err _]) true (.tmp (.tmp .nil)) (fun h => by cases h) (.cons (Shut.refl sfr) (fun h => by cases h) (.cons (Shut.refl sfr) (fun h => by cases h) .nil)) rfl ?_ rfl (And.intro (Exists.intro _ (Exists.intro _ (And.intro rfl (And.intro shut (And.intro (fun h => by cases h) (And.intro ?_ rfl)))))) (And.intro (Exists.intro _ (Exists.intro _ (And.intro rfl (And.intro shut (And.intro (fun h => by cases h) (And.intro ?_ rfl)))))) True.intro)))
  ·exact .refl
  ·rw [show ((a + 3 + n : Nat) : Int) = (a : Int) + 3 + n by omega]; exact .refl
  ·rw [show ((a + 3 + n : Nat) : Int) = (a : Int) + 3 + n by omega, show ((a + 3 : Nat) : Int) = (a : Int) + 3 by omega]; exact .refl
theorem cg89s (l : List UInt8) (a b n : Nat) (hab : a + 3 ≤ b) (hb : b < a + 3 + n) (hn : n ≤ 65535) (hl : b ≤ l.length) (h0 : l.length ≤ 140737488355328) (hG0 : gl 0 = some (.err (.code 5))) : AGen (V ea cds gl) 89 [.ptr 1 [] 0, .int .i64 (n : Int)] [(1, some (.agg [.sl 1 false l.length (bAt l), .int .i64 (a : Int), .int .i64 (b : Int)]))]
  (.tup [.val (.pointer none), .err (.at ((a + 1 : Nat) : Int) (.code 5))]) [(1, some (.agg [.sl 1 false l.length (bAt l), .int .i64 (a : Int), .int .i64 (b : Int)]))] := by
 refine agen_of_body (N := 45) Tryd.func89 rfl rfl (Nat.le_of_ble_eq_true rfl) fun C hV hN hM hO => ?_
 obtain ⟨_, _, w0, G0, σ0, _, own0⟩ := C; dsimp only at hV hN hM hO; subst hV; subst hN; subst hM
 refine awp_seq (awp_region rfl ?_)
 refine sP (opp_as (v := .val _) rfl rfl) rfl rfl ?_
 refine sP (opp_as (v := .err _) rfl rfl) rfl rfl ?_
 refine awp_seq (awp_seq (awp_region rfl ?_))
 refine sP (opp_mv (v := .int _ _) rfl rfl) rfl rfl ?_
 refine sP (opp_mv (v := .ptr _ _ _) rfl rfl) rfl rfl ?_
 refine sR (opr_callG (rl := [(1, 1)]) (r1 := .int _ _) (H1 := [(1, some (.agg [.sl _ _ _ _, .int _ _, .int _ _]))]) (n1 := []) rfl rfl ent55 (cg55c l false a b (by omega) (by omega)) (And.intro (And.intro rfl wka) True.intro) (And.intro (And.intro rfl (Exists.intro _ (And.intro rfl wkc))) True.intro) rfl rfl rfl rfl) rfl rfl rfl ?_
 refine sP (opp_arith rfl rfl rfl (.inr <| .inl ⟨rfl, w64 (by omega)⟩)) rfl rfl ?_
 refine sP (opp_cmp rfl rfl rfl rfl) rfl rfl ?_
 refine awp_cond _ rfl (fun ht11 => ?_) (fun ht11 => ?_)
 ·(try simp only [cmpI, errD_nil, qa, qb, qc, qd] at ht11)
  refine awp_seq ?_
  refine awp_draw hmix rfl (by kernel_rfl) ?_
  refine dP (fun _ => false) (opp_mv (v := .ptr _ _ _) rfl rfl) rfl rfl ?_
  refine dP (fun _ => false) (opp_nilCheckP rfl rfl) rfl rfl ?_
  refine dP (fun _ => false) (opp_fieldP rfl rfl fld139_1 rfl) rfl rfl ?_
  refine dP (fun n => Nat.beq n 1) (opp_loadP rfl rfl rfl rfl bi rfl ty3) rfl rfl ?_
  refine dP (fun _ => false) (opp_arith rfl rfl rfl (.inl ⟨rfl, w64 (by omega)⟩)) rfl rfl ?_
  refine dP (fun _ => false) (opp_loadF rfl (ev_glob hG0) ty35) rfl rfl ?_
  refine dR (fun n => !([] : List Nat).contains n) (opr_call rfl rfl ent78 rfl (c78 _ _) (AViews.refl _ rfl)) rfl rfl rfl ?_ -- d=18 t=35 a=16,17
  refine dP (fun _ => false) (opp_as (v := .val _) rfl rfl) rfl rfl ?_
  refine dP (fun _ => false) (opp_as (v := .err _) rfl rfl) rfl rfl ?_
  refine And.intro (by kernel_rfl) ?_
  refine awp_ret ?_
  repeat (first | refine athen_ret ?_ | refine ain_ret ?_)
  refine gpost_ret (gends (l := [.val _, .err _]) true (.tmp (.tmp .nil)) (fun h => by cases h) (.cons shut (fun h => by cases h) (.cons shut (fun h => by cases h) .nil)) rfl ?_ rfl (And.intro (Exists.intro _ (Exists.intro _ (And.intro rfl (And.intro shut (And.intro (fun h => by cases h) (And.intro ?_ rfl)))))) True.intro))
  ·rw [show ((a + 1 : Nat) : Int) = (a : Int) + 1 by omega]; exact .refl
  ·exact .refl
 ·(try simp only [cmpI, errD_nil, qa, qb, qc, qd] at ht11)
  exfalso; revert ht11; simp [cmpI]; omega
/-- Where the next record isn't right. -/
def nextBad (l : List UInt8) (a b : Nat) : Er := if b < a + 3 then ⟨1, some a⟩ else if Sp.fld l a 1 = 0 then ⟨3, some a⟩ else if b < a + 3 + Sp.fld l (a + 1) 2 then ⟨5, some (a + 1)⟩ else ⟨0, none⟩
theorem cg79c (l : List UInt8) (a b : Nat) (hb : a + 3 + Sp.fld l (a + 1) 2 ≤ b) (ht : Sp.fld l a 1 ≠ 0) (hl : b ≤ l.length) (h0 : l.length ≤ 140737488355328) : AGen (V ea cds gl) 79 [.ptr 1 [] 0] [(1, some (.agg [.sl 1 false l.length (bAt l), .int .i64 (a : Int), .int .i64 (b : Int)]))]
  (.tup [.int .i64 (Sp.fld l a 1 : Nat), .ptr 2 [] 0, .err .nil]) [(1, some (.agg [.sl 1 false l.length (bAt l), .int .i64 ((a + 3 + Sp.fld l (a + 1) 2 : Nat) : Int), .int .i64 (b : Int)])), (2, some (.agg [.sl 1 false l.length (bAt l), .int .i64 ((a + 3 : Nat) : Int), .int .i64 ((a + 3 + Sp.fld l (a + 1) 2 : Nat) : Int)]))] := by
 refine agen_of_body (N := 37) Tryd.func79 rfl rfl (Nat.le_of_ble_eq_true rfl) fun C hV hN hM hO => ?_
 obtain ⟨_, _, w0, G0, σ0, _, own0⟩ := C; dsimp only at hV hN hM hO; subst hV; subst hN; subst hM
 refine awp_seq (awp_region rfl ?_)
 refine sP (opp_as (v := .int _ _) rfl rfl) rfl rfl ?_
 refine sP (opp_as (v := .val _) rfl rfl) rfl rfl ?_
 refine sP (opp_as (v := .err _) rfl rfl) rfl rfl ?_
 refine awp_seq (awp_region rfl ?_)
 refine sP (opp_mv (v := .ptr _ _ _) rfl rfl) rfl rfl ?_
 refine sR (opr_callG (rl := [(1, 1)]) (r1 := .tup [.int _ _, .int _ _, .err _]) (H1 := [(1, some (.agg [.sl _ _ _ _, .int _ _, .int _ _]))]) (n1 := []) rfl rfl ent88 (cg88c l a b (by omega) hl h0) (And.intro (And.intro rfl wka) True.intro) (And.intro (And.intro rfl (Exists.intro _ (And.intro rfl wkc))) True.intro) rfl rfl rfl rfl) rfl rfl rfl ?_
 refine sP (opp_mv (v := .tup _) rfl rfl) rfl rfl ?_
 refine sP (opp_extract rfl rfl rfl) rfl rfl ?_
 refine sP (opp_extract rfl rfl rfl) rfl rfl ?_
 refine sP (opp_extract rfl rfl rfl) rfl rfl ?_
 refine sP (opp_as (v := .int _ _) rfl rfl) rfl rfl ?_
 refine sP (opp_as (v := .int _ _) rfl rfl) rfl rfl ?_
 refine sP (opp_as (v := .err _) rfl rfl) rfl rfl ?_
 refine awp_seq (awp_seq (awp_region rfl ?_))
 refine sP (opp_mv (v := .err _) rfl rfl) rfl rfl ?_
 refine sP (opp_errNil rfl rfl rfl un35 (.inr ⟨rfl, rfl⟩)) rfl rfl ?_
 refine awp_cond _ rfl (fun ht16 => ?_) (fun ht16 => ?_)
 ·(try simp only [cmpI, errD_nil, qa, qb, qc, qd] at ht16)
  exfalso; revert ht16; simp [ErrD.isNil]
 ·(try simp only [cmpI, errD_nil, qa, qb, qc, qd] at ht16)
  refine awp_skip (awp_seq (awp_seq (awp_region rfl ?_)))
  refine sP (opp_mv (v := .int _ _) rfl rfl) rfl rfl ?_
  refine sP (opp_cmp rfl rfl rfl rfl) rfl rfl ?_
  refine awp_cond _ rfl (fun ht19 => ?_) (fun ht19 => ?_)
  ·(try simp only [cmpI, errD_nil, qa, qb, qc, qd] at ht19)
   exfalso; revert ht19; simp [cmpI]; omega
  ·(try simp only [cmpI, errD_nil, qa, qb, qc, qd] at ht19)
   refine awp_skip (awp_seq (awp_region rfl ?_))
   refine sP (opp_mv (v := .ptr _ _ _) rfl rfl) rfl rfl ?_
   refine sP (opp_mv (v := .int _ _) rfl rfl) rfl rfl ?_
   refine sR (opr_callG (rl := [(1, 1), (36, 2)]) (r1 := .tup [.ptr 2 _ _, .err _]) (H1 := [(1, some (.agg [.sl _ _ _ _, .int _ _, .int _ _])), (2, some (.agg [.sl _ _ _ _, .int _ _, .int _ _]))]) (n1 := [2]) rfl rfl ent89 (cg89c l a b (Sp.fld l (a + 1) 2) hb hl h0) (And.intro (And.intro rfl wka) (And.intro (And.intro rfl wka) True.intro)) (And.intro (And.intro rfl (Exists.intro _ (And.intro rfl wkc))) True.intro) rfl rfl rfl rfl) rfl rfl rfl ?_
   refine sP (opp_mv (v := .tup _) rfl rfl) rfl rfl ?_
   refine sP (opp_extract rfl rfl rfl) rfl rfl ?_
   refine sP (opp_extract rfl rfl rfl) rfl rfl ?_
   refine sP (opp_as (v := .ptr _ _ _) rfl rfl) rfl rfl ?_
   refine sP (opp_as (v := .err _) rfl rfl) rfl rfl ?_
   refine awp_seq (awp_seq (awp_region rfl ?_))
   refine sP (opp_mv (v := .err _) rfl rfl) rfl rfl ?_
   refine sP (opp_errNil rfl rfl rfl un35 (.inr ⟨rfl, rfl⟩)) rfl rfl ?_
   refine awp_cond _ rfl (fun ht33 => ?_) (fun ht33 => ?_)
   ·(try simp only [cmpI, errD_nil, qa, qb, qc, qd] at ht33)
    exfalso; revert ht33; simp [ErrD.isNil]
   ·(try simp only [cmpI, errD_nil, qa, qb, qc, qd] at ht33)
    refine awp_skip (awp_seq (awp_region rfl ?_))
    refine sP (opp_mv (v := .int _ _) rfl rfl) rfl rfl ?_
    refine sP (opp_mv (v := .ptr _ _ _) rfl rfl) rfl rfl ?_
    refine sP (opp_as (v := .int _ _) rfl rfl) rfl rfl ?_
    refine sP (opp_as (v := .ptr _ _ _) rfl rfl) rfl rfl ?_
    refine sP (opp_as (v := .err _) rfl rfl) rfl rfl ?_
    refine awp_ret ?_
    repeat (first | refine athen_ret ?_ | refine ain_ret ?_)
    refine gpost_ret (gends (l := [.int _ _, .ptr _ _ _, .err _]) true (.tmp (.tmp (.tmp .nil))) (fun h => by cases h) (.cons (Shut.refl sfr) (fun h => by cases h) (.cons (Shut.refl sfr) (fun h => by cases h) (.cons (Shut.refl sfr) (fun h => by cases h) .nil))) rfl ?_ rfl (And.intro (Exists.intro _ (Exists.intro _ (And.intro rfl (And.intro shut (And.intro (fun h => by cases h) (And.intro ?_ rfl)))))) (And.intro (Exists.intro _ (Exists.intro _ (And.intro rfl (And.intro shut (And.intro (fun h => by cases h) (And.intro ?_ rfl)))))) True.intro)))
    ·exact .refl
    ·exact .refl
    ·exact .refl
theorem cg79s (l : List UInt8) (a b : Nat) (hab : a ≤ b) (hb : b < a + 3) (hl : b ≤ l.length) (h0 : l.length ≤ 140737488355328) (hG2 : gl 2 = some (.err (.code 1))) : AGen (V ea cds gl) 79 [.ptr 1 [] 0] [(1, some (.agg [.sl 1 false l.length (bAt l), .int .i64 (a : Int), .int .i64 (b : Int)]))]
  (.tup [.int .i64 0, .val (.pointer none), .err (.at (a : Int) (.code 1))]) [(1, some (.agg [.sl 1 false l.length (bAt l), .int .i64 (a : Int), .int .i64 (b : Int)]))] := by
 refine agen_of_body (N := 37) Tryd.func79 rfl rfl (Nat.le_of_ble_eq_true rfl) fun C hV hN hM hO => ?_
 obtain ⟨_, _, w0, G0, σ0, _, own0⟩ := C; dsimp only at hV hN hM hO; subst hV; subst hN; subst hM
 refine awp_seq (awp_region rfl ?_)
 refine sP (opp_as (v := .int _ _) rfl rfl) rfl rfl ?_
 refine sP (opp_as (v := .val _) rfl rfl) rfl rfl ?_
 refine sP (opp_as (v := .err _) rfl rfl) rfl rfl ?_
 refine awp_seq (awp_region rfl ?_)
 refine sP (opp_mv (v := .ptr _ _ _) rfl rfl) rfl rfl ?_
 refine sR (opr_callG (rl := [(1, 1)]) (r1 := .tup [.int _ _, .int _ _, .err _]) (H1 := [(1, some (.agg [.sl _ _ _ _, .int _ _, .int _ _]))]) (n1 := []) rfl rfl ent88 (cg88s l a b hab hb hl h0 hG2) (And.intro (And.intro rfl wka) True.intro) (And.intro (And.intro rfl (Exists.intro _ (And.intro rfl wkc))) True.intro) rfl rfl rfl rfl) rfl rfl rfl ?_
 refine sP (opp_mv (v := .tup _) rfl rfl) rfl rfl ?_
 refine sP (opp_extract rfl rfl rfl) rfl rfl ?_
 refine sP (opp_extract rfl rfl rfl) rfl rfl ?_
 refine sP (opp_extract rfl rfl rfl) rfl rfl ?_
 refine sP (opp_as (v := .int _ _) rfl rfl) rfl rfl ?_
 refine sP (opp_as (v := .int _ _) rfl rfl) rfl rfl ?_
 refine sP (opp_as (v := .err _) rfl rfl) rfl rfl ?_
 refine awp_seq (awp_seq (awp_region rfl ?_))
 refine sP (opp_mv (v := .err _) rfl rfl) rfl rfl ?_
 refine sP (opp_errNil rfl rfl rfl un35 (.inr ⟨rfl, rfl⟩)) rfl rfl ?_
 refine awp_cond _ rfl (fun ht16 => ?_) (fun ht16 => ?_)
 ·(try simp only [cmpI, errD_nil, qa, qb, qc, qd] at ht16)
  refine awp_seq (awp_region rfl ?_)
  refine sP (opp_mv (v := .err _) rfl rfl) rfl rfl ?_
  refine sP (opp_as (v := .int _ _) rfl rfl) rfl rfl ?_
  refine sP (opp_as (v := .val _) rfl rfl) rfl rfl ?_
  refine sP (opp_as (v := .err _) rfl rfl) rfl rfl ?_
  refine awp_ret ?_
  repeat (first | refine athen_ret ?_ | refine ain_ret ?_)
  refine gpost_ret (gends (l := [.int _ _, .val _, .err _]) true (.tmp (.tmp (.tmp .nil))) (fun h => by cases h) (.cons shut (fun h => by cases h) (.cons shut (fun h => by cases h) (.cons shut (fun h => by cases h) .nil))) rfl ?_ rfl (And.intro (Exists.intro _ (Exists.intro _ (And.intro rfl (And.intro shut (And.intro (fun h => by cases h) (And.intro ?_ rfl)))))) True.intro))
  ·exact .refl
  ·exact .refl
 ·(try simp only [cmpI, errD_nil, qa, qb, qc, qd] at ht16)
  exfalso; revert ht16; simp [ErrD.isNil]
theorem cg79t (l : List UInt8) (a b : Nat) (hb : a + 3 ≤ b) (ht : Sp.fld l a 1 = 0) (hl : b ≤ l.length) (h0 : l.length ≤ 140737488355328) (hG4 : gl 4 = some (.err (.code 3))) : AGen (V ea cds gl) 79 [.ptr 1 [] 0] [(1, some (.agg [.sl 1 false l.length (bAt l), .int .i64 (a : Int), .int .i64 (b : Int)]))]
  (.tup [.int .i64 0, .val (.pointer none), .err (.at (a : Int) (.code 3))]) [(1, some (.agg [.sl 1 false l.length (bAt l), .int .i64 (a : Int), .int .i64 (b : Int)]))] := by
 refine agen_of_body (N := 37) Tryd.func79 rfl rfl (Nat.le_of_ble_eq_true rfl) fun C hV hN hM hO => ?_
 obtain ⟨_, _, w0, G0, σ0, _, own0⟩ := C; dsimp only at hV hN hM hO; subst hV; subst hN; subst hM
 refine awp_seq (awp_region rfl ?_)
 refine sP (opp_as (v := .int _ _) rfl rfl) rfl rfl ?_
 refine sP (opp_as (v := .val _) rfl rfl) rfl rfl ?_
 refine sP (opp_as (v := .err _) rfl rfl) rfl rfl ?_
 refine awp_seq (awp_region rfl ?_)
 refine sP (opp_mv (v := .ptr _ _ _) rfl rfl) rfl rfl ?_
 refine sR (opr_callG (rl := [(1, 1)]) (r1 := .tup [.int _ _, .int _ _, .err _]) (H1 := [(1, some (.agg [.sl _ _ _ _, .int _ _, .int _ _]))]) (n1 := []) rfl rfl ent88 (cg88c l a b hb hl h0) (And.intro (And.intro rfl wka) True.intro) (And.intro (And.intro rfl (Exists.intro _ (And.intro rfl wkc))) True.intro) rfl rfl rfl rfl) rfl rfl rfl ?_
 refine sP (opp_mv (v := .tup _) rfl rfl) rfl rfl ?_
 refine sP (opp_extract rfl rfl rfl) rfl rfl ?_
 refine sP (opp_extract rfl rfl rfl) rfl rfl ?_
 refine sP (opp_extract rfl rfl rfl) rfl rfl ?_
 refine sP (opp_as (v := .int _ _) rfl rfl) rfl rfl ?_
 refine sP (opp_as (v := .int _ _) rfl rfl) rfl rfl ?_
 refine sP (opp_as (v := .err _) rfl rfl) rfl rfl ?_
 refine awp_seq (awp_seq (awp_region rfl ?_))
 refine sP (opp_mv (v := .err _) rfl rfl) rfl rfl ?_
 refine sP (opp_errNil rfl rfl rfl un35 (.inr ⟨rfl, rfl⟩)) rfl rfl ?_
 refine awp_cond _ rfl (fun ht16 => ?_) (fun ht16 => ?_)
 ·(try simp only [cmpI, errD_nil, qa, qb, qc, qd] at ht16)
  exfalso; revert ht16; simp [ErrD.isNil]
 ·(try simp only [cmpI, errD_nil, qa, qb, qc, qd] at ht16)
  refine awp_skip (awp_seq (awp_seq (awp_region rfl ?_)))
  refine sP (opp_mv (v := .int _ _) rfl rfl) rfl rfl ?_
  refine sP (opp_cmp rfl rfl rfl rfl) rfl rfl ?_
  refine awp_cond _ rfl (fun ht19 => ?_) (fun ht19 => ?_)
  ·(try simp only [cmpI, errD_nil, qa, qb, qc, qd] at ht19)
   refine awp_seq ?_
   refine awp_draw hmix rfl (by kernel_rfl) ?_
   refine dP (fun _ => false) (opp_mv (v := .ptr _ _ _) rfl rfl) rfl rfl ?_
   refine dP (fun _ => false) (opp_nilCheckP rfl rfl) rfl rfl ?_
   refine dP (fun _ => false) (opp_fieldP rfl rfl fld139_1 rfl) rfl rfl ?_
   refine dP (fun n => Nat.beq n 1) (opp_loadP rfl rfl rfl rfl bi rfl ty3) rfl rfl ?_
   refine dP (fun _ => false) (opp_loadF rfl (ev_glob hG4) ty35) rfl rfl ?_
   refine dR (fun n => !([] : List Nat).contains n) (opr_call rfl rfl ent78 rfl (c78 _ _) (AViews.refl _ rfl)) rfl rfl rfl ?_ -- d=25 t=35 a=23,24
   refine dP (fun _ => false) (opp_as (v := .int _ _) rfl rfl) rfl rfl ?_
   refine dP (fun _ => false) (opp_as (v := .val _) rfl rfl) rfl rfl ?_
   refine dP (fun _ => false) (opp_as (v := .err _) rfl rfl) rfl rfl ?_
   refine And.intro (by kernel_rfl) ?_
   refine awp_ret ?_
   repeat (first | refine athen_ret ?_ | refine ain_ret ?_)
   refine gpost_ret (gends (l := [.int _ _, .val _, .err _]) true (.tmp (.tmp (.tmp .nil))) (fun h => by cases h) (.cons shut (fun h => by cases h) (.cons shut (fun h => by cases h) (.cons shut (fun h => by cases h) .nil))) rfl ?_ rfl (And.intro (Exists.intro _ (Exists.intro _ (And.intro rfl (And.intro shut (And.intro (fun h => by cases h) (And.intro ?_ rfl)))))) True.intro))
   ·exact .refl
   ·exact .refl
  ·(try simp only [cmpI, errD_nil, qa, qb, qc, qd] at ht19)
   exfalso; revert ht19; simp [cmpI]; omega
theorem cg79l (l : List UInt8) (a b : Nat) (hab : a + 3 ≤ b) (hb : b < a + 3 + Sp.fld l (a + 1) 2) (ht : Sp.fld l a 1 ≠ 0) (hl : b ≤ l.length) (h0 : l.length ≤ 140737488355328) (hG0 : gl 0 = some (.err (.code 5))) : AGen (V ea cds gl) 79 [.ptr 1 [] 0] [(1, some (.agg [.sl 1 false l.length (bAt l), .int .i64 (a : Int), .int .i64 (b : Int)]))]
  (.tup [.int .i64 0, .val (.pointer none), .err (.at ((a + 1 : Nat) : Int) (.code 5))]) [(1, some (.agg [.sl 1 false l.length (bAt l), .int .i64 (a : Int), .int .i64 (b : Int)]))] := by
 have hf := fld_lt l (a + 1) 2
 refine agen_of_body (N := 37) Tryd.func79 rfl rfl (Nat.le_of_ble_eq_true rfl) fun C hV hN hM hO => ?_
 obtain ⟨_, _, w0, G0, σ0, _, own0⟩ := C; dsimp only at hV hN hM hO; subst hV; subst hN; subst hM
 refine awp_seq (awp_region rfl ?_)
 refine sP (opp_as (v := .int _ _) rfl rfl) rfl rfl ?_
 refine sP (opp_as (v := .val _) rfl rfl) rfl rfl ?_
 refine sP (opp_as (v := .err _) rfl rfl) rfl rfl ?_
 refine awp_seq (awp_region rfl ?_)
 refine sP (opp_mv (v := .ptr _ _ _) rfl rfl) rfl rfl ?_
 refine sR (opr_callG (rl := [(1, 1)]) (r1 := .tup [.int _ _, .int _ _, .err _]) (H1 := [(1, some (.agg [.sl _ _ _ _, .int _ _, .int _ _]))]) (n1 := []) rfl rfl ent88 (cg88c l a b hab hl h0) (And.intro (And.intro rfl wka) True.intro) (And.intro (And.intro rfl (Exists.intro _ (And.intro rfl wkc))) True.intro) rfl rfl rfl rfl) rfl rfl rfl ?_
 refine sP (opp_mv (v := .tup _) rfl rfl) rfl rfl ?_
 refine sP (opp_extract rfl rfl rfl) rfl rfl ?_
 refine sP (opp_extract rfl rfl rfl) rfl rfl ?_
 refine sP (opp_extract rfl rfl rfl) rfl rfl ?_
 refine sP (opp_as (v := .int _ _) rfl rfl) rfl rfl ?_
 refine sP (opp_as (v := .int _ _) rfl rfl) rfl rfl ?_
 refine sP (opp_as (v := .err _) rfl rfl) rfl rfl ?_
 refine awp_seq (awp_seq (awp_region rfl ?_))
 refine sP (opp_mv (v := .err _) rfl rfl) rfl rfl ?_
 refine sP (opp_errNil rfl rfl rfl un35 (.inr ⟨rfl, rfl⟩)) rfl rfl ?_
 refine awp_cond _ rfl (fun ht16 => ?_) (fun ht16 => ?_)
 ·(try simp only [cmpI, errD_nil, qa, qb, qc, qd] at ht16)
  exfalso; revert ht16; simp [ErrD.isNil]
 ·(try simp only [cmpI, errD_nil, qa, qb, qc, qd] at ht16)
  refine awp_skip (awp_seq (awp_seq (awp_region rfl ?_)))
  refine sP (opp_mv (v := .int _ _) rfl rfl) rfl rfl ?_
  refine sP (opp_cmp rfl rfl rfl rfl) rfl rfl ?_
  refine awp_cond _ rfl (fun ht19 => ?_) (fun ht19 => ?_)
  ·(try simp only [cmpI, errD_nil, qa, qb, qc, qd] at ht19)
   exfalso; revert ht19; simp [cmpI]; omega
  ·(try simp only [cmpI, errD_nil, qa, qb, qc, qd] at ht19)
   refine awp_skip (awp_seq (awp_region rfl ?_))
   refine sP (opp_mv (v := .ptr _ _ _) rfl rfl) rfl rfl ?_
   refine sP (opp_mv (v := .int _ _) rfl rfl) rfl rfl ?_
   refine sR (opr_callG (rl := [(1, 1)]) (r1 := .tup [.val _, .err _]) (H1 := [(1, some (.agg [.sl _ _ _ _, .int _ _, .int _ _]))]) (n1 := []) rfl rfl ent89 (cg89s l a b (Sp.fld l (a + 1) 2) hab hb (by omega) hl h0 hG0) (And.intro (And.intro rfl wka) (And.intro (And.intro rfl wka) True.intro)) (And.intro (And.intro rfl (Exists.intro _ (And.intro rfl wkc))) True.intro) rfl rfl rfl rfl) rfl rfl rfl ?_
   refine sP (opp_mv (v := .tup _) rfl rfl) rfl rfl ?_
   refine sP (opp_extract rfl rfl rfl) rfl rfl ?_
   refine sP (opp_extract rfl rfl rfl) rfl rfl ?_
   refine sP (opp_as (v := .val _) rfl rfl) rfl rfl ?_
   refine sP (opp_as (v := .err _) rfl rfl) rfl rfl ?_
   refine awp_seq (awp_seq (awp_region rfl ?_))
   refine sP (opp_mv (v := .err _) rfl rfl) rfl rfl ?_
   refine sP (opp_errNil rfl rfl rfl un35 (.inr ⟨rfl, rfl⟩)) rfl rfl ?_
   refine awp_cond _ rfl (fun ht33 => ?_) (fun ht33 => ?_)
   ·(try simp only [cmpI, errD_nil, qa, qb, qc, qd] at ht33)
    refine awp_seq (awp_region rfl ?_)
    refine sP (opp_mv (v := .err _) rfl rfl) rfl rfl ?_
    refine sP (opp_as (v := .int _ _) rfl rfl) rfl rfl ?_
    refine sP (opp_as (v := .val _) rfl rfl) rfl rfl ?_
    refine sP (opp_as (v := .err _) rfl rfl) rfl rfl ?_
    refine awp_ret ?_
    repeat (first | refine athen_ret ?_ | refine ain_ret ?_)
    refine gpost_ret (gends (l := [.int _ _, .val _, .err _]) true (.tmp (.tmp (.tmp .nil))) (fun h => by cases h) (.cons shut (fun h => by cases h) (.cons shut (fun h => by cases h) (.cons shut (fun h => by cases h) .nil))) rfl ?_ rfl (And.intro (Exists.intro _ (Exists.intro _ (And.intro rfl (And.intro shut (And.intro (fun h => by cases h) (And.intro ?_ rfl)))))) True.intro))
    ·exact .refl
    ·exact .refl
   ·(try simp only [cmpI, errD_nil, qa, qb, qc, qd] at ht33)
    exfalso; revert ht33; simp [ErrD.isNil]
theorem cg79e (l : List UInt8) (a b : Nat) (hab : a ≤ b) (he : (nextBad l a b).code ≠ 0) (hl : b ≤ l.length) (h0 : l.length ≤ 140737488355328) (hG2 : gl 2 = some (.err (.code 1))) (hG4 : gl 4 = some (.err (.code 3))) (hG0 : gl 0 = some (.err (.code 5))) : AGen (V ea cds gl) 79 [.ptr 1 [] 0] [(1, some (.agg [.sl 1 false l.length (bAt l), .int .i64 (a : Int), .int .i64 (b : Int)]))]
    (.tup [.int .i64 0, .val (.pointer none), .err (nextBad l a b).d]) [(1, some (.agg [.sl 1 false l.length (bAt l), .int .i64 (a : Int), .int .i64 (b : Int)]))] := by
  unfold nextBad at he ⊢
  by_cases h1 : b < a + 3
  · rw [if_pos h1]; exact cg79s l a b hab h1 hl h0 hG2
  · rw [if_neg h1] at he ⊢
    by_cases h2 : Sp.fld l a 1 = 0
    · rw [if_pos h2]; exact cg79t l a b (by omega) h2 hl h0 hG4
    · rw [if_neg h2] at he ⊢
      by_cases h3 : b < a + 3 + Sp.fld l (a + 1) 2
      · rw [if_pos h3]; exact cg79l l a b (by omega) h3 h2 hl h0 hG0
      · rw [if_neg h3] at he; exact absurd rfl he
theorem cg80c (l : List UInt8) (a b : Nat) (hab : a ≤ b) (hl : b ≤ l.length) (h0 : l.length ≤ 140737488355328) : AGen (V ea cds gl) 80 [.ptr 1 [] 0] [(1, some (.agg [.sl 1 false l.length (bAt l), .int .i64 (a : Int), .int .i64 (b : Int)]))]
  (.sl 1 false ((l.drop a).take (b - a)).length (bAt ((l.drop a).take (b - a)))) [(1, some (.agg [.sl 1 false l.length (bAt l), .int .i64 (a : Int), .int .i64 (b : Int)]))] := by
 refine agen_of_body (N := 17) Tryd.func80 rfl rfl (Nat.le_of_ble_eq_true rfl) fun C hV hN hM hO => ?_
 obtain ⟨_, _, w0, G0, σ0, _, own0⟩ := C; dsimp only at hV hN hM hO; subst hV; subst hN; subst hM
 refine awp_seq (awp_region rfl ?_)
 refine sP (opp_as (v := .sl _ _ _ _) rfl rfl) rfl rfl ?_
 refine awp_seq ?_
 refine awp_draw hmix rfl (by kernel_rfl) ?_
 refine dP (fun _ => false) (opp_mv (v := .ptr _ _ _) rfl rfl) rfl rfl ?_
 refine dP (fun _ => false) (opp_nilCheckP rfl rfl) rfl rfl ?_
 refine dP (fun _ => false) (opp_fieldP rfl rfl fld139_0 rfl) rfl rfl ?_
 refine dP (fun n => Nat.beq n 1) (opp_loadP rfl rfl rfl rfl bi rfl ty38) rfl rfl ?_
 refine dP (fun _ => false) (opp_mv (v := .ptr _ _ _) rfl rfl) rfl rfl ?_
 refine dP (fun _ => false) (opp_nilCheckP rfl rfl) rfl rfl ?_
 refine dP (fun _ => false) (opp_fieldP rfl rfl fld139_1 rfl) rfl rfl ?_
 refine dP (fun n => Nat.beq n 1) (opp_loadP rfl rfl rfl rfl bi rfl ty3) rfl rfl ?_
 refine dP (fun _ => false) (opp_mv (v := .ptr _ _ _) rfl rfl) rfl rfl ?_
 refine dP (fun _ => false) (opp_nilCheckP rfl rfl) rfl rfl ?_
 refine dP (fun _ => false) (opp_fieldP rfl rfl fld139_2 rfl) rfl rfl ?_
 refine dP (fun n => Nat.beq n 1) (opp_loadP rfl rfl rfl rfl bi rfl ty3) rfl rfl ?_
 refine dP (fun _ => false) (opp_sliceSl rfl rfl rfl rfl el38 (by omega) (by omega) (by omega)) rfl rfl ?_
 refine dR (fun n => !([] : List Nat).contains n) (opr_call rfl rfl ent64 rfl (c64 false ((l.drop a).take (b - a)).length (bAt ((l.drop a).take (b - a))) (fun h => by cases h) (by rw [List.length_take, List.length_drop]; omega)) (.cons (aview_wk rfl (wk_slx (by rw [List.length_take, List.length_drop]; omega) (fun j hj => by rw [bAt_take _ _ _ (by omega), bAt_drop]; congr 1))) .nil)) rfl rfl rfl ?_ -- d=16 t=38 a=15
 refine dP (fun _ => false) (opp_as (v := .sl _ _ _ _) rfl rfl) rfl rfl ?_
 refine And.intro (by kernel_rfl) ?_
 refine awp_ret ?_
 repeat (first | refine athen_ret ?_ | refine ain_ret ?_)
 refine gpost_ret (gend1 (r0 := .sl _ _ _ _) true (.tmp .nil) shut rfl ?_ rfl (And.intro (Exists.intro _ (Exists.intro _ (And.intro rfl (And.intro shut (And.intro (fun h => by cases h) (And.intro ?_ rfl)))))) True.intro))
 ·exact .refl
 ·exact .refl
theorem cg77c (l : List UInt8) (a : Nat) (hl : a ≤ l.length) (h0 : l.length ≤ 140737488355328) : AGen (V ea cds gl) 77 [.ptr 1 [] 0] [(1, some (.agg [.sl 1 false l.length (bAt l), .int .i64 (a : Int), .int .i64 (a : Int)]))]
  (.err .nil) [(1, some (.agg [.sl 1 false l.length (bAt l), .int .i64 (a : Int), .int .i64 (a : Int)]))] := by
 refine agen_of_body (N := 12) Tryd.func77 rfl rfl (Nat.le_of_ble_eq_true rfl) fun C hV hN hM hO => ?_
 obtain ⟨_, _, w0, G0, σ0, _, own0⟩ := C; dsimp only at hV hN hM hO; subst hV; subst hN; subst hM
 refine awp_seq (awp_region rfl ?_)
 refine sP (opp_as (v := .err _) rfl rfl) rfl rfl ?_
 refine awp_seq (awp_seq (awp_region rfl ?_))
 refine sP (opp_mv (v := .ptr _ _ _) rfl rfl) rfl rfl ?_
 refine sR (opr_callG (rl := [(1, 1)]) (r1 := .int _ _) (H1 := [(1, some (.agg [.sl _ _ _ _, .int _ _, .int _ _]))]) (n1 := []) rfl rfl ent55 (cg55c l false a a (by omega) (by omega)) (And.intro (And.intro rfl wka) True.intro) (And.intro (And.intro rfl (Exists.intro _ (And.intro rfl wkc))) True.intro) rfl rfl rfl rfl) rfl rfl rfl ?_
 refine sP (opp_cmp rfl rfl rfl rfl) rfl rfl ?_
 refine awp_cond _ rfl (fun ht5 => ?_) (fun ht5 => ?_)
 ·(try simp only [cmpI, errD_nil, qa, qb, qc, qd] at ht5)
  exfalso; revert ht5; simp [cmpI]
 ·(try simp only [cmpI, errD_nil, qa, qb, qc, qd] at ht5)
  refine awp_skip (awp_seq (awp_region rfl ?_))
  refine sP (opp_as (v := .err _) rfl rfl) rfl rfl ?_
  refine awp_ret ?_
  repeat (first | refine athen_ret ?_ | refine ain_ret ?_)
  refine gpost_ret (gend1 (r0 := .err _) true (.tmp .nil) shut rfl ?_ rfl (And.intro (Exists.intro _ (Exists.intro _ (And.intro rfl (And.intro shut (And.intro (fun h => by cases h) (And.intro ?_ rfl)))))) True.intro))
  ·exact .refl
  ·exact .refl
theorem cg77r (l : List UInt8) (a b : Nat) (hab : a < b) (hl : b ≤ l.length) (h0 : l.length ≤ 140737488355328) (hG3 : gl 3 = some (.err (.code 2))) : AGen (V ea cds gl) 77 [.ptr 1 [] 0] [(1, some (.agg [.sl 1 false l.length (bAt l), .int .i64 (a : Int), .int .i64 (b : Int)]))]
  (.err (.at (a : Int) (.code 2))) [(1, some (.agg [.sl 1 false l.length (bAt l), .int .i64 (a : Int), .int .i64 (b : Int)]))] := by
 refine agen_of_body (N := 12) Tryd.func77 rfl rfl (Nat.le_of_ble_eq_true rfl) fun C hV hN hM hO => ?_
 obtain ⟨_, _, w0, G0, σ0, _, own0⟩ := C; dsimp only at hV hN hM hO; subst hV; subst hN; subst hM
 refine awp_seq (awp_region rfl ?_)
 refine sP (opp_as (v := .err _) rfl rfl) rfl rfl ?_
 refine awp_seq (awp_seq (awp_region rfl ?_))
 refine sP (opp_mv (v := .ptr _ _ _) rfl rfl) rfl rfl ?_
 refine sR (opr_callG (rl := [(1, 1)]) (r1 := .int _ _) (H1 := [(1, some (.agg [.sl _ _ _ _, .int _ _, .int _ _]))]) (n1 := []) rfl rfl ent55 (cg55c l false a b (by omega) (by omega)) (And.intro (And.intro rfl wka) True.intro) (And.intro (And.intro rfl (Exists.intro _ (And.intro rfl wkc))) True.intro) rfl rfl rfl rfl) rfl rfl rfl ?_
 refine sP (opp_cmp rfl rfl rfl rfl) rfl rfl ?_
 refine awp_cond _ rfl (fun ht5 => ?_) (fun ht5 => ?_)
 ·(try simp only [cmpI, errD_nil, qa, qb, qc, qd] at ht5)
  refine awp_seq ?_
  refine awp_draw hmix rfl (by kernel_rfl) ?_
  refine dP (fun _ => false) (opp_mv (v := .ptr _ _ _) rfl rfl) rfl rfl ?_
  refine dP (fun _ => false) (opp_nilCheckP rfl rfl) rfl rfl ?_
  refine dP (fun _ => false) (opp_fieldP rfl rfl fld139_1 rfl) rfl rfl ?_
  refine dP (fun n => Nat.beq n 1) (opp_loadP rfl rfl rfl rfl bi rfl ty3) rfl rfl ?_
  refine dP (fun _ => false) (opp_loadF rfl (ev_glob hG3) ty35) rfl rfl ?_
  refine dR (fun n => !([] : List Nat).contains n) (opr_call rfl rfl ent78 rfl (c78 _ _) (AViews.refl _ rfl)) rfl rfl rfl ?_ -- d=11 t=35 a=9,10
  refine dP (fun _ => false) (opp_as (v := .err _) rfl rfl) rfl rfl ?_
  refine And.intro (by kernel_rfl) ?_
  refine awp_ret ?_
  repeat (first | refine athen_ret ?_ | refine ain_ret ?_)
  refine gpost_ret (gend1 (r0 := .err _) true (.tmp .nil) shut rfl ?_ rfl (And.intro (Exists.intro _ (Exists.intro _ (And.intro rfl (And.intro shut (And.intro (fun h => by cases h) (And.intro ?_ rfl)))))) True.intro))
  ·exact .refl
  ·exact .refl
 ·(try simp only [cmpI, errD_nil, qa, qb, qc, qd] at ht5)
  exfalso; revert ht5; simp [cmpI]; omega
end
end Go.Proofs.YtpmgdmbcdohgcaaDoor
/- Layer 16: an error with its place moved (a walk over this dump). -/
namespace Go.Proofs.YtpmgdmbcdohgcaaDoor
attribute [local irreducible] Tryd.prog
open Go.Fy Go.RowKit
set_option linter.unusedSimpArgs false
set_option linter.unusedVariables false
section
variable {ea : Nat → Addr} {cds : List Nat} {gl : Nat → Option AV}
theorem ErrRel.out {E : RE} {p : Int} {c : Nat} {v : Value} (hv : ErrRel E (.at p (.code c)) v) : ∃ b o, v = .iface E.V.tAt (.pointer (some ⟨b, o, none⟩)) ∧ E.G b ∧ E.w.cell? ⟨b, o, none⟩ = some (.int .i64 p) ∧ E.w.cell? ⟨b, o + 1, none⟩ = some (.iface E.V.tSent (.pointer (some (E.V.eaddr c)))) := at_vals hv
/-- What errors.As of an error with a place leaves, at a variable of one's own. -/
theorem asHit {C : Ctx} (hV : C.V = V ea cds gl) (hS : Sents cds gl) {F : List (Nat × AV)} {H : List (Nat × Option AV)} {nm : List Nat} {a : Act} {w : World} {σ : Nat → Nat} (i : Nat) (p : Int) (c : Nat) (v : Value) {old : AV} (hc : ConcS C ⟨F, H, nm⟩ a w σ)
    (hi : getH H i = some old) (ho : old = .val (.pointer none)) (hv : ErrRel (C.RE ⟨F, H, nm⟩ w σ) (.at p (.code c)) v) :
    Calls Tryd.prog 70 #[v, .iface 136 (.pointer (some ⟨σ i, 0, none⟩))] w fun ev w' => ev = .returned (.bool true) ∧ ConcS C ⟨F, (i, some (.fptr (.agg [.int .i64 p, .err (.code c)]))) :: H, nm⟩ a w' σ := by
  subst ho
  obtain ⟨b, o, rfl, hG, hp, hu⟩ := ErrRel.out hv
  obtain ⟨-, ds, hd1, hd2⟩ := hc.env.glob _ _ (by show C.V.glob 20 = _; rw [hV]; exact hS.hT)
  have hg : w.cell? ⟨20, 0, none⟩ = some (.iface 149 (.agg #[.pointer (some ⟨21, 35, none⟩)])) := by
    simp only [Rel] at hd2
    obtain ⟨rfl, -⟩ := hd2
    exact hd1 0 _ rfl
  obtain ⟨cc, tt, fr, cs, rest, g1, g2, g3, g4⟩ := (hc.blk i _ hi).2.2.2
  have g1' : w.heap[σ i]? = some (.cells cc tt fr) := g1
  simp only [Rel] at g3
  have hsz : 0 < cc.size := by rw [← Array.length_toList, g2, g3.1]; simp
  have h0 : cc[0]? = some (.pointer none) := by rw [← Array.getElem?_toList, g2, g3.1]; rfl
  have ht0 : w.cell? ⟨σ i, 0, none⟩ = some (.pointer none) := by
    simp only [World.cell?, g1', Option.isSome_none, Bool.false_eq_true, if_false]; exact h0
  have hf0 : w.frozen? ⟨σ i, 0, none⟩ = false := g4 0 hsz
  have hAt : (C.RE ⟨F, H, nm⟩ w σ).V.tAt = 111 := by show C.V.tAt = _; rw [hV]
  rw [hAt]
  refine (as_hit ⟨b, o, none⟩ ⟨σ i, 0, none⟩ (.pointer none) w hg ht0 hf0).mono fun ev w' ⟨h1, h2⟩ => ⟨h1, ?_⟩
  subst h2
  have hB := ((((Below.refl w.heap.size w).alloc (Nat.le_refl _) (.cells #[.pointer (some ⟨σ i, 0, none⟩)] 136)).alloc (by simp) (.cells #[.pointer (some ⟨21, 136, none⟩), .pointer (some ⟨w.heap.size, 0, none⟩), .int .u64 150] 166)).alloc (by simp; omega) (.cells #[.pointer (some ⟨21, 136, none⟩), .pointer (some ⟨w.heap.size, 0, none⟩), .int .u64 150] 166)).alloc (by simp; omega) (.cells #[.pointer (some ⟨b, o, none⟩)] 111)
  have hc2 := hc.world hB
  have hlt := (hc.blk i _ hi).2.2.2.lt
  have hw := hc2.write i (.val (.pointer none)) (.fptr (.agg [.int .i64 p, .err (.code c)])) hi 0 [.pointer (some ⟨b, o, none⟩)] (fun c' t' fr' hc' => by
      have : some (Obj.cells cc tt fr) = some (.cells c' t' fr') := by rw [← hc', ← g1']; exact (hB.block _ hlt).symm
      cases this; simp; omega) (fun E hE cs' rest' hr' _ => by
      simp only [Rel] at hr'
      obtain ⟨rfl, -⟩ := hr'
      refine ⟨[.pointer (some ⟨b, o, none⟩)], rest', by simp [splice], ?_⟩
      have hle0 : (C.RE ⟨F, H, nm⟩ w σ).le (C.RE ⟨F, H, nm⟩ ((((w.alloc (.cells #[.pointer (some ⟨σ i, 0, none⟩)] 136)).alloc (.cells #[.pointer (some ⟨21, 136, none⟩), .pointer (some ⟨w.heap.size, 0, none⟩), .int .u64 150] 166)).alloc (.cells #[.pointer (some ⟨21, 136, none⟩), .pointer (some ⟨w.heap.size, 0, none⟩), .int .u64 150] 166)).alloc (.cells #[.pointer (some ⟨b, o, none⟩)] 111)) σ) := hc.le (S' := ⟨F, H, nm⟩) ⟨hB.os, hB.tape, hB.output, hB.size, fun _ _ => rfl, fun _ h => h, fun j x hj => .inl ⟨j, x, hj, (hc.blk j x hj).1, rfl⟩, fun k hk _ => hB.block k hk, fun k c' t' fr' hk => ⟨c', t', fr', by rw [hB.block k (Array.getElem?_eq_some_iff.1 hk).1]; exact hk, rfl⟩⟩
      have hle := hle0.trans hE
      simp only [Rel, RelL]
      refine ⟨_, rfl, rfl, hle.G _ hG, [.int .i64 p, .iface C.V.tSent (.pointer (some (C.V.eaddr c)))], fun k v hk => ?_, [.int .i64 p], _, rfl, rfl, [_], [], rfl, ⟨_, rfl, ?_⟩, rfl⟩
      · match k, hk with
        | 0, hk => simp at hk; subst hk; simpa using hle.old _ hG _ _ hp
        | 1, hk => simp at hk; subst hk; exact hle.old _ hG _ _ hu
        | k + 2, hk => simp at hk
      · simp only [ErrRel]
        show _ = Value.iface E.V.tSent (.pointer (some (E.V.eaddr c)))
        rw [hle.V]; rfl)
  exact hw
/-- The region that asks errors.As. -/
theorem awp_asHit {C : Ctx} (hV : C.V = V ea cds gl) (hS : Sents cds gl) (he : Ent C.V.P 70) {id : Nat} {o0 o1 o2 : Oper} {F : List (Nat × AV)} {H : List (Nat × Option AV)} {nm : List Nat} {Q : Exit → St → Prop} {tx ty d0 d1 d2 i c : Nat} {p : Int} {ts : Array TypeId}
    (h0 : o0.op = .move (.tmp tx)) (g0 : o0.guard = none) (e0 : o0.dst = some d0) (h1 : o1.op = .makeInterface 136 (.tmp ty)) (g1 : o1.guard = none) (e1 : o1.dst = some d1)
    (h2 : o2.op = .call { callee := .value (.func 70), args := #[.tmp d0, .tmp d1], argTypes := ts }) (g2 : o2.guard = none) (e2 : o2.dst = some d2) (hd0 : d0 < C.N) (hd1 : d1 < C.N) (hd2 : d2 < C.N) (hne : d1 ≠ d0) (hny : d0 ≠ ty)
    (hx : getF F tx = .err (.at p (.code c))) (hy : getF F ty = .ptr i [] 0) (hi : getH H i = some (.val (.pointer none))) (hcon : C.V.P.concrete 136 = true)
    (k : Q .normal ⟨(d2, .bool true) :: (d1, .top) :: (d0, .top) :: F, (i, some (.fptr (.agg [.int .i64 p, .err (.code c)]))) :: H, nm⟩) : AWP C (.region id #[o0, o1, o2] false) Q ⟨F, H, nm⟩ := by
  intro a w ⟨σ, hc⟩
  refine wp_region ?_
  have s0 : RelV (C.RE ⟨F, H, nm⟩ w σ) (.err (.at p (.code c))) (a.tmps.getD tx undef) := hx ▸ hc.slot tx
  have s1 : RelV (C.RE ⟨F, H, nm⟩ w σ) (.ptr i [] 0) (a.tmps.getD ty undef) := hy ▸ hc.slot ty
  generalize hv0 : a.tmps.getD tx undef = v0 at s0
  simp only [RelV] at s0
  have hone := ErrRel.one _ _ s0
  have hc1 := hc.put (some d0) (.val v0) v0 (fun d hd => by cases hd; exact hd0) (by simp only [RelV, Rel]; exact ⟨trivial, hone⟩)
  have s1' : RelV (C.RE ⟨F, H, nm⟩ w σ) (.ptr i [] 0) ((a.put (some d0) v0).tmps.getD ty undef) := by
    have := hc1.slot ty
    have hF : getF ((d0, AV.val v0) :: F) ty = .ptr i [] 0 := by rw [getF_cons, if_neg hny]; exact hy
    exact hF ▸ this
  have hv1 : (a.put (some d0) v0).tmps.getD ty undef = .pointer (some ⟨σ i, 0, none⟩) := by
    simp only [RelV, Rel, List.cons.injEq, and_true] at s1'
    exact s1'.2
  have hc2 := hc1.put (some d1) (.val (.iface 136 (.pointer (some ⟨σ i, 0, none⟩)))) (.iface 136 (.pointer (some ⟨σ i, 0, none⟩))) (fun d hd => by cases hd; exact hd1) (by simp only [RelV, Rel]; exact ⟨trivial, rfl⟩)
  have t0 : ((a.put (some d0) v0).put (some d1) (.iface 136 (.pointer (some ⟨σ i, 0, none⟩)))).tmps.getD d0 undef = v0 := by
    have := hc2.slot d0
    have hF : getF ((d1, AV.val (.iface 136 (.pointer (some ⟨σ i, 0, none⟩)))) :: (d0, AV.val v0) :: F) d0 = .val v0 := by rw [getF_cons, if_neg hne, getF_cons, if_pos rfl]
    have h3 := hF ▸ this
    simp only [RelV, Rel, List.cons.injEq, and_true] at h3
    exact h3.1
  have t1 : ((a.put (some d0) v0).put (some d1) (.iface 136 (.pointer (some ⟨σ i, 0, none⟩)))).tmps.getD d1 undef = .iface 136 (.pointer (some ⟨σ i, 0, none⟩)) := by
    have := hc2.slot d1
    have hF : getF ((d1, AV.val (.iface 136 (.pointer (some ⟨σ i, 0, none⟩)))) :: (d0, AV.val v0) :: F) d1 = .val (.iface 136 (.pointer (some ⟨σ i, 0, none⟩))) := by rw [getF_cons, if_pos rfl]
    have h3 := hF ▸ this
    simp only [RelV, Rel, List.cons.injEq, and_true] at h3
    exact h3.1
  have r0 : (execOp a.eval o0).run C.V.P w = .ok (.value v0) w := by
    simp only [execOp, h0, Sem.run_pure]; rw [← hv0]; rfl
  have r1 : (execOp (a.put (some d0) v0).eval o1).run C.V.P w = .ok (.value (.iface 136 (.pointer (some ⟨σ i, 0, none⟩)))) w := by
    simp only [execOp, h1, Sem.run_bind, run_makeInterface _ _ _ hcon, Result.andThen, Sem.run_pure]
    show Result.ok (Next.value (.iface _ ((a.put (some d0) v0).tmps.getD ty undef))) w = _
    rw [hv1]
  have r2 : (execOp ((a.put (some d0) v0).put (some d1) (.iface 136 (.pointer (some ⟨σ i, 0, none⟩)))).eval o2).run C.V.P w = .ok (.enter 70 #[v0, .iface 136 (.pointer (some ⟨σ i, 0, none⟩))]) w := by
    rw [call_run h2 rfl he w]
    have ha : (#[Operand.tmp d0, .tmp d1].map ((a.put (some d0) v0).put (some d1) (.iface 136 (.pointer (some ⟨σ i, 0, none⟩)))).eval ++ #[] : Array Value) = #[((a.put (some d0) v0).put (some d1) (.iface 136 (.pointer (some ⟨σ i, 0, none⟩)))).tmps.getD d0 undef, ((a.put (some d0) v0).put (some d1) (.iface 136 (.pointer (some ⟨σ i, 0, none⟩)))).tmps.getD d1 undef] := by simp [Act.eval]
    rw [ha, t0, t1]
  show wpOps C.V.P #[o0, o1, o2] _ [0, 1, 2] a w
  have w0 : ∀ a', Region.wanted o0 (yielded #[o0, o1, o2] a') = true := fun a' => by simp [Region.wanted, g0]
  have w1 : ∀ a', Region.wanted o1 (yielded #[o0, o1, o2] a') = true := fun a' => by simp [Region.wanted, g1]
  have w2 : ∀ a', Region.wanted o2 (yielded #[o0, o1, o2] a') = true := fun a' => by simp [Region.wanted, g2]
  have hcall := asHit hV hS i p c v0 hc2 hi rfl s0
  have hP : C.V.P = Tryd.prog := by rw [hV]
  unfold wpOps
  simp only [List.getElem?_toArray, List.getElem?_cons_zero]
  rw [if_pos (w0 _)]
  refine Or.inl ?_
  unfold Oper.wp
  rw [r0, Oper.upon_value, e0]
  unfold wpOps
  simp only [List.getElem?_toArray, List.getElem?_cons_succ, List.getElem?_cons_zero]
  rw [if_pos (w1 _)]
  refine Or.inl ?_
  unfold Oper.wp
  rw [r1, Oper.upon_value, e1]
  unfold wpOps
  simp only [List.getElem?_toArray, List.getElem?_cons_succ, List.getElem?_cons_zero]
  rw [if_pos (w2 _)]
  refine Or.inl ?_
  unfold Oper.wp
  rw [r2, Oper.upon_enter, hP]
  refine hcall.mono fun ev w' ⟨h3, h4⟩ => ?_
  subst h3
  dsimp only
  rw [e2]
  unfold wpOps
  have h5 := h4.put (some d2) (.bool true) (.bool true) (fun d hd => by cases hd; exact hd2) (by simp [RelV])
  refine ⟨⟨(d2, .bool true) :: (d1, .top) :: (d0, .top) :: F, (i, some (.fptr (.agg [.int .i64 p, .err (.code c)]))) :: H, nm⟩, ⟨σ, ⟨h5.ok, h5.defers, h5.size, h5.kept, h5.σ0, h5.inj, h5.blk, h5.env, fun t => ?_⟩⟩, k⟩
  have h6 := h5.slot t
  show RelV _ (getF ((d2, AV.bool true) :: (d1, AV.top) :: (d0, AV.top) :: F) t) _
  have h7 : getF ((d2, AV.bool true) :: (d1, AV.val (.iface 136 (.pointer (some ⟨σ i, 0, none⟩)))) :: (d0, AV.val v0) :: F) t = getF ((d2, AV.bool true) :: (d1, AV.top) :: (d0, AV.top) :: F) t ∨ getF ((d2, AV.bool true) :: (d1, AV.top) :: (d0, AV.top) :: F) t = .top := by
    simp only [getF_cons]
    by_cases q2 : d2 = t
    · simp [q2]
    · by_cases q1 : d1 = t
      · simp [q2, q1]
      · by_cases q0 : d0 = t
        · simp [q2, q1, q0]
        · simp [q2, q1, q0]
  rcases h7 with h7 | h7
  · exact h7 ▸ h6
  · rw [h7]; simp only [RelV]
theorem cm68 (p : Int) (n : Nat) (c : Nat) (hp : 0 ≤ p ∧ p ≤ 1152921504606846976) (hn : n ≤ 100) (hS : Sents cds gl) : APure (V ea cds gl) 68 [.err (.at p (.code c)), .int .i64 (n : Int)] false (.err (.at (p + n) (.code c))) := by
 refine acalls_of_body (N := 21) Tryd.func68 rfl rfl (Nat.le_of_ble_eq_true rfl) fun C hV hN hM hO => ?_
 obtain ⟨_, _, w0, G0, σ0, _, own0⟩ := C; dsimp only at hV hN hM hO; subst hV; subst hN; subst hM
 refine awp_seq (awp_region rfl ?_)
 refine sP (opp_as (v := .err _) rfl rfl) rfl rfl ?_
 refine awp_seq (awp_region rfl ?_)
 refine sR (opr_alloc (n := 5) rfl z111) rfl rfl rfl ?_
 refine awp_seq (awp_seq ?_)
 refine awp_asHit rfl hS ent70 (i := 5) (p := p) (c := c) rfl rfl rfl rfl rfl rfl rfl rfl rfl (Nat.le_of_ble_eq_true rfl) (Nat.le_of_ble_eq_true rfl) (Nat.le_of_ble_eq_true rfl) (by decide) (by decide) rfl rfl rfl (by kernel_rfl) ?_
 refine awp_cond _ rfl (fun hc4 => ?_) (fun hc4 => ?_)
 ·(try simp only [cmpI, errD_nil, qa, qb, qc, qd] at hc4); have ht8 := hc4
  refine awp_seq ?_
  refine awp_draw hmix rfl (by kernel_rfl) ?_
  refine dP (fun n => Nat.beq n 5) (opp_loadP rfl rfl rfl rfl bi rfl ty111) rfl rfl ?_
  refine dP (fun _ => false) (opp_nilCheckF rfl rfl) rfl rfl ?_
  refine dP (fun _ => false) (opp_fieldF rfl rfl rfl fld113_0 rfl rfl) rfl rfl ?_
  refine dP (fun _ => false) (opp_loadF rfl rfl ty3) rfl rfl ?_
  refine dP (fun _ => false) (opp_mv (v := .int _ _) rfl rfl) rfl rfl ?_
  refine dP (fun _ => false) (opp_arith rfl rfl rfl (.inl ⟨rfl, w64 (by omega)⟩)) rfl rfl ?_
  refine dP (fun n => Nat.beq n 5) (opp_loadP rfl rfl rfl rfl bi rfl ty111) rfl rfl ?_
  refine dP (fun _ => false) (opp_nilCheckF rfl rfl) rfl rfl ?_
  refine dP (fun _ => false) (opp_fieldF rfl rfl rfl fld113_1 rfl rfl) rfl rfl ?_
  refine dP (fun _ => false) (opp_loadF rfl rfl ty35) rfl rfl ?_
  refine dR (fun n => !([] : List Nat).contains n) (opr_call rfl rfl ent24 rfl (c24 _ _) (AViews.refl _ rfl)) rfl rfl rfl ?_ -- d=19 t=35 a=14,18
  refine dP (fun _ => false) (opp_as (v := .err _) rfl rfl) rfl rfl ?_
  refine And.intro (by kernel_rfl) ?_
  refine awp_ret ?_
  repeat (first | refine athen_ret ?_ | refine ain_ret ?_)
  refine apost_ret (aend1 (r0 := .err _) (.tmp .nil) (.noN rfl rfl) ⟨Wk.v ?_, rfl, rfl⟩)
  exact .refl
 ·(try simp only [cmpI, errD_nil, qa, qb, qc, qd] at hc4); have ht8 := hc4
  refine awp_skip (awp_seq (awp_region rfl ?_))
  refine sP (opp_mv (v := .err _) rfl rfl) rfl rfl ?_
  refine sP (opp_as (v := .err _) rfl rfl) rfl rfl ?_
  refine awp_ret ?_
  repeat (first | refine athen_ret ?_ | refine ain_ret ?_)
  refine apost_ret (aend1 (r0 := .err _) (.tmp .nil) (.noN rfl rfl) ⟨Wk.v ?_, rfl, rfl⟩)
  exfalso; simp at hc4
end
end Go.Proofs.YtpmgdmbcdohgcaaDoor
/- Layer 2: records out of bytes (walks over this dump). -/
namespace Go.Proofs.YtpmgdmbcdohgcaaDoor
attribute [local irreducible] Tryd.prog
open Go.Fy
set_option linter.unusedSimpArgs false
set_option linter.unusedVariables false
theorem er_nil (e : Er) : e.d.isNil = decide (e.code = 0) := by
  unfold Er.d
  by_cases h : e.code = 0
  · simp [h, ErrD.isNil]
  · rw [if_neg h]; cases e.place <;> simp [ErrD.isNil, h]
theorem rc_append (l : List Rc) (r : Rc) (z : AV) (j : Nat) (hj : j < l.length + 1) : (if j < l.length then rcAt l j else if j - l.length = 0 then rcAV r else z) = rcAt (l ++ [r]) j := by
  simp only [rcAt, List.getD_eq_getElem?_getD, List.getElem?_append]
  by_cases h : j < l.length
  · rw [if_pos h, if_pos h]
  · rw [if_neg h, if_neg h, if_pos (by omega), show j - l.length = 0 by omega]; rfl
theorem recs_bad (s : List UInt8) (a : Nat) (acc : List Rc) (ha : a < s.length) (h : (nextBad s a s.length).code ≠ 0) : Sp.recs s a acc = ([], nextBad s a s.length) := by
  unfold nextBad at h ⊢
  rw [Sp.recs, if_neg (by omega)]
  by_cases h1 : s.length < a + 3
  · rw [if_pos h1, if_pos (by omega)]; rfl
  · rw [if_neg h1] at h ⊢
    rw [if_neg (by omega)]
    by_cases h2 : Sp.fld s a 1 = 0
    · rw [if_pos h2, if_pos h2]; rfl
    · rw [if_neg h2] at h ⊢
      rw [if_neg h2]
      by_cases h3 : s.length < a + 3 + Sp.fld s (a + 1) 2
      · rw [if_pos h3, if_pos (by omega)]; rfl
      · rw [if_neg h3] at h; exact absurd rfl h
theorem nextGood {s : List UInt8} {a : Nat} (h : (nextBad s a s.length).code = 0) : a + 3 + Sp.fld s (a + 1) 2 ≤ s.length ∧ Sp.fld s a 1 ≠ 0 := by
  unfold nextBad at h
  by_cases h1 : s.length < a + 3
  · rw [if_pos h1] at h; cases h
  · rw [if_neg h1] at h
    by_cases h2 : Sp.fld s a 1 = 0
    · rw [if_pos h2] at h; cases h
    · rw [if_neg h2] at h
      by_cases h3 : s.length < a + 3 + Sp.fld s (a + 1) 2
      · rw [if_pos h3] at h; cases h
      · exact ⟨by omega, h2⟩
def nextRc (s : List UInt8) (a : Nat) : Rc := ⟨(Sp.fld s a 1 : Nat), false, (s.drop (a + 3)).take (Sp.fld s (a + 1) 2)⟩
theorem recs_good (s : List UInt8) (a : Nat) (acc : List Rc) (h : (nextBad s a s.length).code = 0) : Sp.recs s a acc = Sp.recs s (a + 3 + Sp.fld s (a + 1) 2) (acc ++ [nextRc s a]) := by
  obtain ⟨h1, h2⟩ := nextGood h
  rw [Sp.recs, if_neg (by omega), if_neg (by omega), if_neg h2, if_neg (by omega)]; rfl
theorem recs_end (s : List UInt8) (a : Nat) (acc : List Rc) (h : s.length ≤ a) : Sp.recs s a acc = (acc, Sp.e0) := by rw [Sp.recs, if_pos h]
section
variable {ea : Nat → Addr} {cds : List Nat} {gl : Nat → Option AV}
theorem c67 (s : List UInt8) (h0 : s.length ≤ 1099511627776) (hG2 : gl 2 = some (.err (.code 1))) (hG4 : gl 4 = some (.err (.code 3))) (hG0 : gl 0 = some (.err (.code 5))) :
  APure (V ea cds gl) 67 [.sl 1 false s.length (bAt s)] false (.tup [.sl 2 (decide ((Sp.split s).1 = [])) (Sp.split s).1.length (rcAt (Sp.split s).1), .err (Sp.split s).2.d]) := by
 refine acalls_of_body (N := 31) Tryd.func67 rfl rfl (Nat.le_of_ble_eq_true rfl) fun C hV hN hM hO => ?_
 obtain ⟨_, _, w0, G0, σ0, _, own0⟩ := C; dsimp only at hV hN hM hO; subst hV; subst hN; subst hM
 refine awp_seq (awp_region rfl ?_)
 refine sP (opp_as (v := .sl _ _ _ _) rfl rfl) rfl rfl ?_
 refine sP (opp_as (v := .err _) rfl rfl) rfl rfl ?_
 refine awp_seq (awp_region rfl ?_)
 refine sP (opp_as (v := .sl _ _ _ _) rfl rfl) rfl rfl ?_
 refine awp_seq (awp_seq (awp_region rfl ?_))
 refine sP (opp_mv (v := .sl _ _ _ _) rfl rfl) rfl rfl ?_
 refine sR (opr_callO (rl := [(8, 10)]) (r1 := .ptr _ _ _) (H1 := [(10, some (.agg [.sl _ _ _ _, .int _ _, .int _ _]))]) (n1 := [10]) rfl rfl ent45 rfl (co45 s (by omega)) (AViews.refl _ rfl) rfl rfl rfl rfl) rfl rfl rfl ?_
 refine sP (opp_as (v := .ptr _ _ _) rfl rfl) rfl rfl ?_
 refine awp_block ?_
 refine awp_loopK (ι := Nat × List Rc × Bool) (fun p => p.1 ≤ s.length ∧ p.2.1.length ≤ p.1 ∧ Sp.recs s p.1 p.2.1 = Sp.split s ∧ (p.2.2 = true ↔ p.2.1 = [])) (fun p => [(2, .top), (3, .top), (4, cond p.2.2 (.sl 1 true 0 (fun _ => .top)) (.osl 1004 2 0 p.2.1.length p.2.1.length)), (6, .top), (7, .top), (8, .top), (11, .top), (12, .top), (13, .top), (14, .top), (15, .top), (16, .top), (17, .top), (18, .top), (19, .top), (20, .top), (21, .top), (22, .top), (23, .top), (24, .top), (25, .top), (26, .top), (27, .top), (28, .top), (29, .top), (5, .ptr 10 [] 0)]) (fun p => [(10, some (.agg [.sl 1 false s.length (bAt s), .int .i64 (p.1 : Int), .int .i64 (s.length : Int)])), (1004, cond p.2.2 none (some (.arr 2 p.2.1.length (rcAt p.2.1))))]) [1004] (fun p => s.length - p.1) ((0, [], true)) (⟨Nat.zero_le _, Nat.le_refl _, rfl, by simp⟩) (by
  refine imp_over [] rfl rfl (by kernel_rfl) ?_ ?_
  ·iterate 26 refine And.intro wkv ?_
   exact True.intro
  ·refine And.intro (And.intro rfl (And.intro rfl (Exists.intro _ (And.intro rfl wkc)))) ?_
   exact True.intro
  ) ?_
 intro p hi1; obtain ⟨a, acc, e⟩ := p; by_cases he : (nextBad s a s.length).code = 0 <;> rcases e with _ | _
 ·dsimp only [cond] at hi1 ⊢; have hng := nextGood he
  refine awp_seq (awp_seq (awp_region rfl ?_))
  refine sP (opp_mv (v := .ptr _ _ _) rfl rfl) rfl rfl ?_
  refine sR (opr_callG (rl := [(1, 10)]) (r1 := .int _ _) (H1 := [(10, some (.agg [.sl _ _ _ _, .int _ _, .int _ _]))]) (n1 := []) rfl rfl ent55 (cg55c s false a s.length hi1.1 (by omega)) (And.intro (And.intro rfl wka) True.intro) (And.intro (And.intro rfl (Exists.intro _ (And.intro rfl wkc))) True.intro) rfl rfl rfl rfl) rfl rfl rfl ?_
  refine sP (opp_cmp rfl rfl rfl rfl) rfl rfl ?_
  refine awp_cond _ rfl (fun ht13 => ?_) (fun ht13 => ?_)
  ·(try simp only [cmpI, errD_nil, qa, qb, qc, qd] at ht13)
   refine awp_skip (awp_block (awp_seq (awp_region rfl ?_)))
   refine sP (opp_mv (v := .ptr _ _ _) rfl rfl) rfl rfl ?_
   refine sR (opr_callG (rl := [(1, 10), (2, 2002)]) (r1 := .tup [.int _ _, .ptr 2002 _ _, .err _]) (H1 := [(10, some (.agg [.sl _ _ _ _, .int _ _, .int _ _])), (2002, some (.agg [.sl _ _ _ _, .int _ _, .int _ _]))]) (n1 := [2002]) rfl rfl ent79 (cg79c s a s.length hng.1 hng.2 (Nat.le_refl _) (by omega)) (And.intro (And.intro rfl wka) True.intro) (And.intro (And.intro rfl (Exists.intro _ (And.intro rfl wkc))) True.intro) rfl rfl rfl rfl) rfl rfl rfl ?_
   refine sP (opp_mv (v := .tup _) rfl rfl) rfl rfl ?_
   refine sP (opp_extract rfl rfl rfl) rfl rfl ?_
   refine sP (opp_extract rfl rfl rfl) rfl rfl ?_
   refine sP (opp_extract rfl rfl rfl) rfl rfl ?_
   refine sP (opp_as (v := .int _ _) rfl rfl) rfl rfl ?_
   refine sP (opp_as (v := .ptr _ _ _) rfl rfl) rfl rfl ?_
   refine sP (opp_as (v := .err _) rfl rfl) rfl rfl ?_
   refine awp_seq (awp_seq (awp_region rfl ?_))
   refine sP (opp_mv (v := .err _) rfl rfl) rfl rfl ?_
   refine sP (opp_errNil rfl rfl rfl un35 (.inr ⟨rfl, rfl⟩)) rfl rfl ?_
   refine awp_cond _ rfl (fun ht21 => ?_) (fun ht21 => ?_)
   ·(try simp only [cmpI, errD_nil, qa, qb, qc, qd] at ht21)
    exfalso; simp [ErrD.isNil] at ht21
   ·(try simp only [cmpI, errD_nil, qa, qb, qc, qd] at ht21)
    refine awp_skip (awp_region rfl ?_)
    refine sP (opp_mv (v := .osl _ _ _ _ _) rfl rfl) rfl rfl ?_
    refine sP (opp_mv (v := .int _ _) rfl rfl) rfl rfl ?_
    refine sP (opp_mv (v := .ptr _ _ _) rfl rfl) rfl rfl ?_
    refine sR (opr_callG (rl := [(1, 2002)]) (r1 := .sl _ _ _ _) (H1 := [(2002, some (.agg [.sl _ _ _ _, .int _ _, .int _ _]))]) (n1 := []) rfl rfl ent80 (cg80c s (a + 3) (a + 3 + Sp.fld s (a + 1) 2) (by omega) hng.1 (by omega)) (And.intro (And.intro rfl wka) True.intro) (And.intro (And.intro rfl (Exists.intro _ (And.intro rfl wkc))) True.intro) rfl rfl rfl rfl) rfl rfl rfl ?_
    refine sP (opp_build rfl z40 bld40 rfl [.int _ _, .sl _ _ _ _] rfl) rfl rfl ?_
    refine sR (opr_buildSlice (n := 28) (g := fun j => if j = 0 then .agg _ else .agg [.int .i64 0, .sl 1 true 0 (fun _ => .top)]) rfl eb24 z40 (by decide) rfl rfl) rfl rfl rfl ?_
    refine sR (opr_append (d := 29) rfl rfl rfl (by omega) (.osl0 rfl (by omega)) eb24 z40 (by omega) (by omega)) rfl rfl rfl ?_
    refine sP (opp_as (v := .osl _ _ _ _ _) rfl rfl) rfl rfl ?_
    refine Exists.intro ((a + 3 + Sp.fld s (a + 1) 2, acc ++ [nextRc s a], false)) (And.intro (And.intro (And.intro hng.1 (And.intro (by simp; omega) (And.intro (by rw [← recs_good s a acc he]; exact hi1.2.2.1) (by simp)))) (by first | omega | (dsimp only; omega))) (by
     refine imp_over [(1004, 29)] rfl rfl (by kernel_rfl) ?_ ?_
     ·iterate 2 refine And.intro wkv ?_
      refine And.intro (by exact Or.inr (And.intro rfl (WkV.of (by show AV.osl 29 2 0 _ _ = AV.osl 29 2 0 _ _; simp)))) ?_
      iterate 23 refine And.intro wkv ?_
      exact True.intro
     ·refine And.intro (And.intro rfl (And.intro rfl (Exists.intro _ (And.intro rfl wkc)))) ?_
      refine And.intro (And.intro rfl (And.intro rfl (Exists.intro _ (And.intro rfl (by show WkC (AV.arr 2 _ _) (AV.arr 2 _ _); rw [List.length_append]; exact WkC.arr (fun j hj => by rw [← rc_append acc (nextRc s a) (.agg [.int .i64 0, .sl 1 true 0 (fun _ => .top)]) j (by simpa using hj)]; simp only [nextRc, rcAV, Nat.add_sub_cancel_left])))))) ?_
      exact True.intro
     ))
  ·(try simp only [cmpI, errD_nil, qa, qb, qc, qd] at ht13)
   exfalso; simp [cmpI] at ht13; omega
 ·dsimp only [cond] at hi1 ⊢; have hng := nextGood he
  refine awp_seq (awp_seq (awp_region rfl ?_))
  refine sP (opp_mv (v := .ptr _ _ _) rfl rfl) rfl rfl ?_
  refine sR (opr_callG (rl := [(1, 10)]) (r1 := .int _ _) (H1 := [(10, some (.agg [.sl _ _ _ _, .int _ _, .int _ _]))]) (n1 := []) rfl rfl ent55 (cg55c s false a s.length hi1.1 (by omega)) (And.intro (And.intro rfl wka) True.intro) (And.intro (And.intro rfl (Exists.intro _ (And.intro rfl wkc))) True.intro) rfl rfl rfl rfl) rfl rfl rfl ?_
  refine sP (opp_cmp rfl rfl rfl rfl) rfl rfl ?_
  refine awp_cond _ rfl (fun ht13 => ?_) (fun ht13 => ?_)
  ·(try simp only [cmpI, errD_nil, qa, qb, qc, qd] at ht13)
   refine awp_skip (awp_block (awp_seq (awp_region rfl ?_)))
   refine sP (opp_mv (v := .ptr _ _ _) rfl rfl) rfl rfl ?_
   refine sR (opr_callG (rl := [(1, 10), (2, 2002)]) (r1 := .tup [.int _ _, .ptr 2002 _ _, .err _]) (H1 := [(10, some (.agg [.sl _ _ _ _, .int _ _, .int _ _])), (2002, some (.agg [.sl _ _ _ _, .int _ _, .int _ _]))]) (n1 := [2002]) rfl rfl ent79 (cg79c s a s.length hng.1 hng.2 (Nat.le_refl _) (by omega)) (And.intro (And.intro rfl wka) True.intro) (And.intro (And.intro rfl (Exists.intro _ (And.intro rfl wkc))) True.intro) rfl rfl rfl rfl) rfl rfl rfl ?_
   refine sP (opp_mv (v := .tup _) rfl rfl) rfl rfl ?_
   refine sP (opp_extract rfl rfl rfl) rfl rfl ?_
   refine sP (opp_extract rfl rfl rfl) rfl rfl ?_
   refine sP (opp_extract rfl rfl rfl) rfl rfl ?_
   refine sP (opp_as (v := .int _ _) rfl rfl) rfl rfl ?_
   refine sP (opp_as (v := .ptr _ _ _) rfl rfl) rfl rfl ?_
   refine sP (opp_as (v := .err _) rfl rfl) rfl rfl ?_
   refine awp_seq (awp_seq (awp_region rfl ?_))
   refine sP (opp_mv (v := .err _) rfl rfl) rfl rfl ?_
   refine sP (opp_errNil rfl rfl rfl un35 (.inr ⟨rfl, rfl⟩)) rfl rfl ?_
   refine awp_cond _ rfl (fun ht21 => ?_) (fun ht21 => ?_)
   ·(try simp only [cmpI, errD_nil, qa, qb, qc, qd] at ht21)
    exfalso; simp [ErrD.isNil] at ht21
   ·(try simp only [cmpI, errD_nil, qa, qb, qc, qd] at ht21)
    refine awp_skip (awp_region rfl ?_)
    refine sP (opp_mv (v := .sl _ _ _ _) rfl rfl) rfl rfl ?_
    refine sP (opp_mv (v := .int _ _) rfl rfl) rfl rfl ?_
    refine sP (opp_mv (v := .ptr _ _ _) rfl rfl) rfl rfl ?_
    refine sR (opr_callG (rl := [(1, 2002)]) (r1 := .sl _ _ _ _) (H1 := [(2002, some (.agg [.sl _ _ _ _, .int _ _, .int _ _]))]) (n1 := []) rfl rfl ent80 (cg80c s (a + 3) (a + 3 + Sp.fld s (a + 1) 2) (by omega) hng.1 (by omega)) (And.intro (And.intro rfl wka) True.intro) (And.intro (And.intro rfl (Exists.intro _ (And.intro rfl wkc))) True.intro) rfl rfl rfl rfl) rfl rfl rfl ?_
    refine sP (opp_build rfl z40 bld40 rfl [.int _ _, .sl _ _ _ _] rfl) rfl rfl ?_
    refine sR (opr_buildSlice (n := 28) (g := fun j => if j = 0 then .agg _ else .agg [.int .i64 0, .sl 1 true 0 (fun _ => .top)]) rfl eb24 z40 (by decide) rfl rfl) rfl rfl rfl ?_
    refine sR (opr_appendNil (d := 29) rfl rfl (.osl0 rfl (by omega)) eb24 z40 (by omega) (by omega) (by omega)) rfl rfl rfl ?_
    refine sP (opp_as (v := .osl _ _ _ _ _) rfl rfl) rfl rfl ?_
    have hac : acc = [] := hi1.2.2.2.1 rfl
    refine Exists.intro ((a + 3 + Sp.fld s (a + 1) 2, acc ++ [nextRc s a], false)) (And.intro (And.intro (And.intro hng.1 (And.intro (by simp; omega) (And.intro (by rw [← recs_good s a acc he]; exact hi1.2.2.1) (by simp)))) (by first | omega | (dsimp only; omega))) (by
     refine imp_over [(1004, 29)] rfl rfl (by kernel_rfl) ?_ ?_
     ·iterate 2 refine And.intro wkv ?_
      refine And.intro (by exact Or.inr (And.intro rfl (WkV.of (by show AV.osl 29 2 0 _ _ = AV.osl 29 2 0 _ _; rw [hac]; simp)))) ?_
      iterate 23 refine And.intro wkv ?_
      exact True.intro
     ·refine And.intro (And.intro rfl (And.intro rfl (Exists.intro _ (And.intro rfl wkc)))) ?_
      refine And.intro (And.intro rfl (And.intro rfl (Exists.intro _ (And.intro rfl (by show WkC (AV.arr 2 _ _) (AV.arr 2 _ _); rw [hac]; exact WkC.arr (fun j hj => by have h0 : j = 0 := (by simpa using hj); subst h0; simp [rcAt, nextRc, rcAV])))))) ?_
      exact True.intro
     ))
  ·(try simp only [cmpI, errD_nil, qa, qb, qc, qd] at ht13)
   exfalso; simp [cmpI] at ht13; omega
 ·dsimp only [cond] at hi1 ⊢
  refine awp_seq (awp_seq (awp_region rfl ?_))
  refine sP (opp_mv (v := .ptr _ _ _) rfl rfl) rfl rfl ?_
  refine sR (opr_callG (rl := [(1, 10)]) (r1 := .int _ _) (H1 := [(10, some (.agg [.sl _ _ _ _, .int _ _, .int _ _]))]) (n1 := []) rfl rfl ent55 (cg55c s false a s.length hi1.1 (by omega)) (And.intro (And.intro rfl wka) True.intro) (And.intro (And.intro rfl (Exists.intro _ (And.intro rfl wkc))) True.intro) rfl rfl rfl rfl) rfl rfl rfl ?_
  refine sP (opp_cmp rfl rfl rfl rfl) rfl rfl ?_
  refine awp_cond _ rfl (fun ht13 => ?_) (fun ht13 => ?_)
  ·(try simp only [cmpI, errD_nil, qa, qb, qc, qd] at ht13)
   refine awp_skip (awp_block (awp_seq (awp_region rfl ?_)))
   refine sP (opp_mv (v := .ptr _ _ _) rfl rfl) rfl rfl ?_
   refine sR (opr_callG (rl := [(1, 10)]) (r1 := .tup [.int _ _, .val _, .err _]) (H1 := [(10, some (.agg [.sl _ _ _ _, .int _ _, .int _ _]))]) (n1 := []) rfl rfl ent79 (cg79e s a s.length hi1.1 he (Nat.le_refl _) (by omega) hG2 hG4 hG0) (And.intro (And.intro rfl wka) True.intro) (And.intro (And.intro rfl (Exists.intro _ (And.intro rfl wkc))) True.intro) rfl rfl rfl rfl) rfl rfl rfl ?_
   refine sP (opp_mv (v := .tup _) rfl rfl) rfl rfl ?_
   refine sP (opp_extract rfl rfl rfl) rfl rfl ?_
   refine sP (opp_extract rfl rfl rfl) rfl rfl ?_
   refine sP (opp_extract rfl rfl rfl) rfl rfl ?_
   refine sP (opp_as (v := .int _ _) rfl rfl) rfl rfl ?_
   refine sP (opp_as (v := .val _) rfl rfl) rfl rfl ?_
   refine sP (opp_as (v := .err _) rfl rfl) rfl rfl ?_
   refine awp_seq (awp_seq (awp_region rfl ?_))
   refine sP (opp_mv (v := .err _) rfl rfl) rfl rfl ?_
   refine sP (opp_errNil rfl rfl rfl un35 (.inr ⟨rfl, rfl⟩)) rfl rfl ?_
   refine awp_cond _ rfl (fun ht21 => ?_) (fun ht21 => ?_)
   ·(try simp only [cmpI, errD_nil, qa, qb, qc, qd] at ht21)
    refine awp_seq (awp_region rfl ?_)
    refine sP (opp_mv (v := .err _) rfl rfl) rfl rfl ?_
    refine sP (opp_as (v := .sl _ _ _ _) rfl rfl) rfl rfl ?_
    refine sP (opp_as (v := .err _) rfl rfl) rfl rfl ?_
    refine awp_ret ?_
    repeat (first | refine athen_ret ?_ | refine ain_ret ?_)
    refine apost_ret (aend (l := [.sl _ _ _ _, .err _]) (.tmp (.tmp .nil)) (fun h => by cases h) (.cons (.noN rfl rfl) (.cons (.noN rfl rfl) .nil)) ⟨Wk.v ?_, rfl, rfl⟩)
    have hb := recs_bad s a acc (by omega) he
    rw [hi1.2.2.1] at hb; rw [hb]; exact .tup (.cons .sl0 (.cons .refl .nil))
   ·(try simp only [cmpI, errD_nil, qa, qb, qc, qd] at ht21)
    exfalso; simp [er_nil, he] at ht21
  ·(try simp only [cmpI, errD_nil, qa, qb, qc, qd] at ht13)
   refine awp_exit (awp_seq (awp_region rfl ?_))
   refine sP (opp_mv (v := .osl _ _ _ _ _) rfl rfl) rfl rfl ?_
   refine sP (opp_as (v := .osl _ _ _ _ _) rfl rfl) rfl rfl ?_
   refine sP (opp_as (v := .err _) rfl rfl) rfl rfl ?_
   refine awp_ret ?_
   repeat (first | refine athen_ret ?_ | refine ain_ret ?_)
   refine apost_ret (aends (l := [.osl _ _ _ _ _, .err _]) (.tmp (.tmp .nil)) (fun h => by cases h) (.cons shut (fun h => by cases h) (.cons shut (fun h => by cases h) .nil)) rfl ⟨Wk.v ?_, rfl, rfl⟩)
   have hb := recs_end s a acc (by omega)
   rw [hi1.2.2.1] at hb; rw [hb]; have hne : acc ≠ [] := fun h => by simp [h] at hi1
   simp only [hne, decide_false]; exact .refl
 ·dsimp only [cond] at hi1 ⊢
  refine awp_seq (awp_seq (awp_region rfl ?_))
  refine sP (opp_mv (v := .ptr _ _ _) rfl rfl) rfl rfl ?_
  refine sR (opr_callG (rl := [(1, 10)]) (r1 := .int _ _) (H1 := [(10, some (.agg [.sl _ _ _ _, .int _ _, .int _ _]))]) (n1 := []) rfl rfl ent55 (cg55c s false a s.length hi1.1 (by omega)) (And.intro (And.intro rfl wka) True.intro) (And.intro (And.intro rfl (Exists.intro _ (And.intro rfl wkc))) True.intro) rfl rfl rfl rfl) rfl rfl rfl ?_
  refine sP (opp_cmp rfl rfl rfl rfl) rfl rfl ?_
  refine awp_cond _ rfl (fun ht13 => ?_) (fun ht13 => ?_)
  ·(try simp only [cmpI, errD_nil, qa, qb, qc, qd] at ht13)
   refine awp_skip (awp_block (awp_seq (awp_region rfl ?_)))
   refine sP (opp_mv (v := .ptr _ _ _) rfl rfl) rfl rfl ?_
   refine sR (opr_callG (rl := [(1, 10)]) (r1 := .tup [.int _ _, .val _, .err _]) (H1 := [(10, some (.agg [.sl _ _ _ _, .int _ _, .int _ _]))]) (n1 := []) rfl rfl ent79 (cg79e s a s.length hi1.1 he (Nat.le_refl _) (by omega) hG2 hG4 hG0) (And.intro (And.intro rfl wka) True.intro) (And.intro (And.intro rfl (Exists.intro _ (And.intro rfl wkc))) True.intro) rfl rfl rfl rfl) rfl rfl rfl ?_
   refine sP (opp_mv (v := .tup _) rfl rfl) rfl rfl ?_
   refine sP (opp_extract rfl rfl rfl) rfl rfl ?_
   refine sP (opp_extract rfl rfl rfl) rfl rfl ?_
   refine sP (opp_extract rfl rfl rfl) rfl rfl ?_
   refine sP (opp_as (v := .int _ _) rfl rfl) rfl rfl ?_
   refine sP (opp_as (v := .val _) rfl rfl) rfl rfl ?_
   refine sP (opp_as (v := .err _) rfl rfl) rfl rfl ?_
   refine awp_seq (awp_seq (awp_region rfl ?_))
   refine sP (opp_mv (v := .err _) rfl rfl) rfl rfl ?_
   refine sP (opp_errNil rfl rfl rfl un35 (.inr ⟨rfl, rfl⟩)) rfl rfl ?_
   refine awp_cond _ rfl (fun ht21 => ?_) (fun ht21 => ?_)
   ·(try simp only [cmpI, errD_nil, qa, qb, qc, qd] at ht21)
    refine awp_seq (awp_region rfl ?_)
    refine sP (opp_mv (v := .err _) rfl rfl) rfl rfl ?_
    refine sP (opp_as (v := .sl _ _ _ _) rfl rfl) rfl rfl ?_
    refine sP (opp_as (v := .err _) rfl rfl) rfl rfl ?_
    refine awp_ret ?_
    repeat (first | refine athen_ret ?_ | refine ain_ret ?_)
    refine apost_ret (aend (l := [.sl _ _ _ _, .err _]) (.tmp (.tmp .nil)) (fun h => by cases h) (.cons (.noN rfl rfl) (.cons (.noN rfl rfl) .nil)) ⟨Wk.v ?_, rfl, rfl⟩)
    have hb := recs_bad s a acc (by omega) he
    rw [hi1.2.2.1] at hb; rw [hb]; exact .tup (.cons .sl0 (.cons .refl .nil))
   ·(try simp only [cmpI, errD_nil, qa, qb, qc, qd] at ht21)
    exfalso; simp [er_nil, he] at ht21
  ·(try simp only [cmpI, errD_nil, qa, qb, qc, qd] at ht13)
   refine awp_exit (awp_seq (awp_region rfl ?_))
   refine sP (opp_mv (v := .sl _ _ _ _) rfl rfl) rfl rfl ?_
   refine sP (opp_as (v := .sl _ _ _ _) rfl rfl) rfl rfl ?_
   refine sP (opp_as (v := .err _) rfl rfl) rfl rfl ?_
   refine awp_ret ?_
   repeat (first | refine athen_ret ?_ | refine ain_ret ?_)
   refine apost_ret (aend (l := [.sl _ _ _ _, .err _]) (.tmp (.tmp .nil)) (fun h => by cases h) (.cons (.noN rfl rfl) (.cons (.noN rfl rfl) .nil)) ⟨Wk.v ?_, rfl, rfl⟩)
   have hb := recs_end s a acc (by omega)
   rw [hi1.2.2.1] at hb; rw [hb]; have hne : acc = [] := hi1.2.2.2.1 rfl
   subst hne; exact .tup (.cons .sl0 (.cons .refl .nil))
end
end Go.Proofs.YtpmgdmbcdohgcaaDoor
/- Layer 16: the head of an image; the grammar (walks over this dump). -/
namespace Go.Proofs.YtpmgdmbcdohgcaaDoor
attribute [local irreducible] Tryd.prog
open Go.Fy
set_option linter.unusedSimpArgs false
set_option linter.unusedVariables false
theorem fld_dropped (l : List UInt8) (m k w n : Nat) (h : m + k = n) : Sp.fld (l.drop m) k w = Sp.fld l n w := by subst h; simp [Sp.fld, List.drop_drop]
section
variable {ea : Nat → Addr} {cds : List Nat} {gl : Nat → Option AV}
theorem c20 (b : List UInt8) (h0 : b.length ≤ 140737488355328) (hS : Sents cds gl) : APure (V ea cds gl) 20 [.sl 1 false b.length (bAt b)] false (.tup [hdAV (Sp.look b).1, .err (Sp.look b).2.d]) := by
 have hS0 := hS
 obtain ⟨hG2, hG3, hG4, hG1, hG0, hG5, hG6, hG7, hG8, hG9, hG10, hG11, hG12, hG13, hG14, hG15, hG16, hG17, hG18, hG19, hT, hall⟩ := hS
 refine acalls_of_body (N := 105) Tryd.func20 rfl rfl (Nat.le_of_ble_eq_true rfl) fun C hV hN hM hO => ?_
 obtain ⟨_, _, w0, G0, σ0, _, own0⟩ := C; dsimp only at hV hN hM hO; subst hV; subst hN; subst hM
 refine awp_seq (awp_region rfl ?_)
 refine sR (opr_alloc (n := 2) rfl z61) rfl rfl rfl ?_
 refine sP (opp_as (v := .err _) rfl rfl) rfl rfl ?_
 refine awp_seq (awp_block (awp_seq (awp_region rfl ?_)))
 refine sP (opp_mv (v := .sl _ _ _ _) rfl rfl) rfl rfl ?_
 refine sP (opp_lenSl rfl rfl un38) rfl rfl ?_
 refine sP (opp_cmp rfl rfl rfl rfl) rfl rfl ?_
 refine sP (opp_as (v := .bool _) rfl rfl) rfl rfl ?_
 refine awp_cond _ rfl (fun ht17 => ?_) (fun ht17 => ?_)
 ·(try simp only [cmpI, errD_nil, qa, qb, qc, qd] at ht17)
  refine awp_seq ?_
  refine awp_draw hmix rfl (by kernel_rfl) ?_
  refine dP (fun _ => false) (opp_build rfl z61 bld61 rfl [.int .i64 0, .int .i64 0, .int .i64 0, .int .u32 0, .int .u32 0] rfl) rfl rfl ?_
  refine dP (fun _ => false) (opp_loadF rfl (ev_glob hG10) ty35) rfl rfl ?_
  refine dR0 (fun n => Nat.beq n 2) (opr_store (v := .agg _) (trn := (.agg _)) rfl rfl rfl rfl bi rfl rfl rfl rfl fr2 ty61 (fun _ _ h => h)) rfl rfl rfl ?_
  refine dP (fun _ => false) (opp_as (v := .err _) rfl rfl) rfl rfl ?_
  refine And.intro (by kernel_rfl) ?_
  refine awp_ret ?_
  repeat (first | refine athen_ret ?_ | refine ain_ret ?_)
  refine apost_ret (aend (l := [.agg _, .err _]) (.cell rfl rfl rfl (by exact True.intro) rfl ty61 (.tmp .nil)) (fun h => by cases h) (.cons (.noN rfl rfl) (.cons (.noN rfl rfl) .nil)) ⟨Wk.v ?_, rfl, rfl⟩)
  rw [show Sp.look b = (Sp.hd0, Sp.ec 11) from if_pos (by omega)]; exact .refl
 ·(try simp only [cmpI, errD_nil, qa, qb, qc, qd] at ht17)
  refine awp_seq (awp_region rfl ?_)
  refine sP (opp_mv (v := .sl _ _ _ _) rfl rfl) rfl rfl ?_
  refine sP (opp_lenSl rfl rfl un38) rfl rfl ?_
  refine sP (opp_cmp rfl rfl rfl rfl) rfl rfl ?_
  refine sP (opp_as (v := .bool _) rfl rfl) rfl rfl ?_
  refine awp_cond _ rfl (fun ht23 => ?_) (fun ht23 => ?_)
  ·(try simp only [cmpI, errD_nil, qa, qb, qc, qd] at ht23)
   refine awp_seq ?_
   refine awp_draw hmix rfl (by kernel_rfl) ?_
   refine dP (fun _ => false) (opp_build rfl z61 bld61 rfl [.int .i64 0, .int .i64 0, .int .i64 0, .int .u32 0, .int .u32 0] rfl) rfl rfl ?_
   refine dP (fun _ => false) (opp_loadF rfl (ev_glob hG2) ty35) rfl rfl ?_
   refine dR0 (fun n => Nat.beq n 2) (opr_store (v := .agg _) (trn := (.agg _)) rfl rfl rfl rfl bi rfl rfl rfl rfl fr2 ty61 (fun _ _ h => h)) rfl rfl rfl ?_
   refine dP (fun _ => false) (opp_as (v := .err _) rfl rfl) rfl rfl ?_
   refine And.intro (by kernel_rfl) ?_
   refine awp_ret ?_
   repeat (first | refine athen_ret ?_ | refine ain_ret ?_)
   refine apost_ret (aend (l := [.agg _, .err _]) (.cell rfl rfl rfl (by exact True.intro) rfl ty61 (.tmp .nil)) (fun h => by cases h) (.cons (.noN rfl rfl) (.cons (.noN rfl rfl) .nil)) ⟨Wk.v ?_, rfl, rfl⟩)
   rw [show Sp.look b = (Sp.hd0, Sp.ec 1) by rw [Sp.look, if_neg (by omega), if_pos (by omega)]]; exact .refl
  ·(try simp only [cmpI, errD_nil, qa, qb, qc, qd] at ht23)
   refine awp_skip (awp_seq (awp_region rfl ?_))
   refine sP (opp_mv (v := .sl _ _ _ _) rfl rfl) rfl rfl ?_
   refine sR (opr_call rfl rfl ent44 rfl (c44 b h0 hG2 hG5) (AViews.refl _ rfl)) rfl rfl rfl ?_ -- d=31 t=43 a=30
   refine sP (opp_mv (v := .tup _) rfl rfl) rfl rfl ?_
   refine sP (opp_extract rfl rfl rfl) rfl rfl ?_
   refine sP (opp_extract rfl rfl rfl) rfl rfl ?_
   refine sP (opp_as (v := .sl _ _ _ _) rfl rfl) rfl rfl ?_
   refine sP (opp_as (v := .err _) rfl rfl) rfl rfl ?_
   refine awp_seq (awp_seq (awp_region rfl ?_))
   refine sP (opp_mv (v := .err _) rfl rfl) rfl rfl ?_
   refine sP (opp_errNil rfl rfl rfl un35 (.inr ⟨rfl, rfl⟩)) rfl rfl ?_
   refine awp_cond _ rfl (fun ht35 => ?_) (fun ht35 => ?_)
   ·(try simp only [cmpI, errD_nil, qa, qb, qc, qd] at ht35)
    refine awp_seq ?_
    refine awp_draw hmix rfl (by kernel_rfl) ?_
    refine dP (fun _ => false) (opp_build rfl z61 bld61 rfl [.int .i64 0, .int .i64 0, .int .i64 0, .int .u32 0, .int .u32 0] rfl) rfl rfl ?_
    refine dP (fun _ => false) (opp_loadF rfl (ev_glob hG5) ty35) rfl rfl ?_
    refine dR0 (fun n => Nat.beq n 2) (opr_store (v := .agg _) (trn := (.agg _)) rfl rfl rfl rfl bi rfl rfl rfl rfl fr2 ty61 (fun _ _ h => h)) rfl rfl rfl ?_
    refine dP (fun _ => false) (opp_as (v := .err _) rfl rfl) rfl rfl ?_
    refine And.intro (by kernel_rfl) ?_
    refine awp_ret ?_
    repeat (first | refine athen_ret ?_ | refine ain_ret ?_)
    refine apost_ret (aend (l := [.agg _, .err _]) (.cell rfl rfl rfl (by exact True.intro) rfl ty61 (.tmp .nil)) (fun h => by cases h) (.cons (.noN rfl rfl) (.cons (.noN rfl rfl) .nil)) ⟨Wk.v ?_, rfl, rfl⟩)
    rw [show Sp.look b = (Sp.hd0, Sp.ec 6) by rw [Sp.look, if_neg (by omega), if_neg (by omega), if_pos (by simpa using ht35)]]; exact .refl
   ·(try simp only [cmpI, errD_nil, qa, qb, qc, qd] at ht35)
    refine awp_skip (awp_seq (awp_seq ?_))
    rw [show (decide ((Sp.opened b).2 ≠ 0)) = false by simp [ht35]]
    have hok := Sp.opened_ok ht35
    have hlen : (Sp.opened b).1.length = b.length - 4 := by rw [hok.2.1, List.length_take]; omega
    have hfl : ∀ k w, k + w ≤ b.length - 4 → Sp.fld (Sp.opened b).1 k w = Sp.fld b k w := fun k w hk => by rw [hok.2.1]; exact Sp.fld_pre _ _ _ _ hk
    refine awp_region rfl ?_
    refine sP (opp_mv (v := .sl _ _ _ _) rfl rfl) rfl rfl ?_
    refine sP (opp_sliceSl rfl rfl rfl rfl el38 (by omega) (by omega) (by omega)) rfl rfl ?_
    refine sP (opp_bytesStr rfl rfl ((Sp.opened b).1.take 4) (by rw [List.length_take]; omega) (fun j hj => by show bAt _ (0 + j) = _; rw [Nat.zero_add]; exact (bAt_take _ 4 _ (by simpa using hj)).symm) un38 unu8 un9) rfl rfl ?_
    refine sP (opp_strEq (b := [70, 69, 82, 89]) rfl rfl rfl (.inr ⟨rfl, rfl⟩)) rfl rfl ?_
    refine awp_cond _ rfl (fun ht41 => ?_) (fun ht41 => ?_)
    ·(try simp only [cmpI, errD_nil, qa, qb, qc, qd] at ht41)
     refine awp_seq (awp_region rfl ?_)
     refine sP (opp_build rfl z61 bld61 rfl [.int .i64 0, .int .i64 0, .int .i64 0, .int .u32 0, .int .u32 0] rfl) rfl rfl ?_
     refine sP (opp_loadF rfl (ev_glob hG4) ty35) rfl rfl ?_
     refine sR (opr_call rfl rfl ent24 rfl (c24 _ _) (AViews.refl _ rfl)) rfl rfl rfl ?_ -- d=44 t=35 a=x,43
     refine sR0 (opr_store (v := .agg _) (trn := (.agg _)) rfl rfl rfl rfl bi rfl rfl rfl rfl fr2 ty61 (fun _ _ h => h)) rfl rfl rfl ?_
     refine sP (opp_as (v := .err _) rfl rfl) rfl rfl ?_
     refine awp_ret ?_
     repeat (first | refine athen_ret ?_ | refine ain_ret ?_)
     refine apost_ret (aend (l := [.agg _, .err _]) (.cell rfl rfl rfl (by exact True.intro) rfl ty61 (.tmp .nil)) (fun h => by cases h) (.cons (.noN rfl rfl) (.cons (.noN rfl rfl) .nil)) ⟨Wk.v ?_, rfl, rfl⟩)
     have e4 : (Sp.opened b).1.take 4 = b.take 4 := by rw [hok.2.1, List.take_take]; congr 1; omega
     rw [show Sp.look b = (Sp.hd0, Sp.ea 3 0) by rw [Sp.look, if_neg (by omega), if_neg (by omega), if_neg (by simp [ht35]), if_pos (by rw [← e4]; simpa [Sp.fery] using ht41)]]; exact .refl
    ·(try simp only [cmpI, errD_nil, qa, qb, qc, qd] at ht41)
     refine awp_skip (awp_seq (awp_region rfl ?_))
     refine sP (opp_mv (v := .sl _ _ _ _) rfl rfl) rfl rfl ?_
     refine sP (opp_sliceSl rfl rfl rfl rfl el38 (by omega) (by omega) (by omega)) rfl rfl ?_
     refine sR (opr_callO (rl := [(8, 47)]) (r1 := .ptr _ _ _) (H1 := [(47, some (.agg [.sl _ _ _ _, .int _ _, .int _ _]))]) (n1 := [47]) rfl rfl ent45 rfl (co45 ((Sp.opened b).1.drop 4) (by rw [List.length_drop]; omega)) (.cons (aview_wk rfl (wk_slx (by rw [List.length_drop]; omega) (fun j hj => by rw [bAt_drop]; congr 1))) .nil) rfl rfl rfl rfl) rfl rfl rfl ?_
     refine sP (opp_as (v := .ptr _ _ _) rfl rfl) rfl rfl ?_
     refine awp_seq ?_
     have hdl : ((Sp.opened b).1.drop 4).length = b.length - 8 := by rw [List.length_drop]; omega
     refine awp_region rfl ?_
     refine sP (opp_mv (v := .ptr _ _ _) rfl rfl) rfl rfl ?_
     refine sR (opr_callG (rl := [(1, 47)]) (r1 := .tup [.int _ _, .err _]) (H1 := [(47, some (.agg [.sl _ _ _ _, .int _ _, .int _ _]))]) (n1 := []) rfl rfl ent46 (cg46c ((Sp.opened b).1.drop 4) false 0 ((Sp.opened b).1.drop 4).length (by omega) (by omega) (by omega)) (And.intro (And.intro rfl wka) True.intro) (And.intro (And.intro rfl (Exists.intro _ (And.intro rfl wkc))) True.intro) rfl rfl rfl rfl) rfl rfl rfl ?_
     refine sP (opp_mv (v := .tup _) rfl rfl) rfl rfl ?_
     refine sP (opp_extract rfl rfl rfl) rfl rfl ?_
     refine sP (opp_extract rfl rfl rfl) rfl rfl ?_
     refine sP (opp_as (v := .int _ _) rfl rfl) rfl rfl ?_
     refine sP (opp_as (v := .err _) rfl rfl) rfl rfl ?_
     refine awp_seq (awp_region rfl ?_)
     refine sP (opp_mv (v := .ptr _ _ _) rfl rfl) rfl rfl ?_
     refine sR (opr_callG (rl := [(1, 47)]) (r1 := .tup [.int _ _, .err _]) (H1 := [(47, some (.agg [.sl _ _ _ _, .int _ _, .int _ _]))]) (n1 := []) rfl rfl ent46 (cg46c ((Sp.opened b).1.drop 4) false 2 ((Sp.opened b).1.drop 4).length (by omega) (by omega) (by omega)) (And.intro (And.intro rfl wka) True.intro) (And.intro (And.intro rfl (Exists.intro _ (And.intro rfl wkc))) True.intro) rfl rfl rfl rfl) rfl rfl rfl ?_
     refine sP (opp_mv (v := .tup _) rfl rfl) rfl rfl ?_
     refine sP (opp_extract rfl rfl rfl) rfl rfl ?_
     refine sP (opp_extract rfl rfl rfl) rfl rfl ?_
     refine sP (opp_as (v := .int _ _) rfl rfl) rfl rfl ?_
     refine sP (opp_as (v := .err _) rfl rfl) rfl rfl ?_
     refine awp_seq (awp_region rfl ?_)
     refine sP (opp_mv (v := .ptr _ _ _) rfl rfl) rfl rfl ?_
     refine sR (opr_callG (rl := [(1, 47)]) (r1 := .tup [.int _ _, .err _]) (H1 := [(47, some (.agg [.sl _ _ _ _, .int _ _, .int _ _]))]) (n1 := []) rfl rfl ent47 (cg47c ((Sp.opened b).1.drop 4) false 4 ((Sp.opened b).1.drop 4).length (by omega) (by omega) (by omega)) (And.intro (And.intro rfl wka) True.intro) (And.intro (And.intro rfl (Exists.intro _ (And.intro rfl wkc))) True.intro) rfl rfl rfl rfl) rfl rfl rfl ?_
     refine sP (opp_mv (v := .tup _) rfl rfl) rfl rfl ?_
     refine sP (opp_extract rfl rfl rfl) rfl rfl ?_
     refine sP (opp_extract rfl rfl rfl) rfl rfl ?_
     refine sP (opp_as (v := .int _ _) rfl rfl) rfl rfl ?_
     refine sP (opp_as (v := .err _) rfl rfl) rfl rfl ?_
     refine awp_seq (awp_region rfl ?_)
     refine sP (opp_mv (v := .ptr _ _ _) rfl rfl) rfl rfl ?_
     refine sR (opr_callG (rl := [(1, 47)]) (r1 := .tup [.int _ _, .err _]) (H1 := [(47, some (.agg [.sl _ _ _ _, .int _ _, .int _ _]))]) (n1 := []) rfl rfl ent47 (cg47c ((Sp.opened b).1.drop 4) false 8 ((Sp.opened b).1.drop 4).length (by omega) (by omega) (by omega)) (And.intro (And.intro rfl wka) True.intro) (And.intro (And.intro rfl (Exists.intro _ (And.intro rfl wkc))) True.intro) rfl rfl rfl rfl) rfl rfl rfl ?_
     refine sP (opp_mv (v := .tup _) rfl rfl) rfl rfl ?_
     refine sP (opp_extract rfl rfl rfl) rfl rfl ?_
     refine sP (opp_extract rfl rfl rfl) rfl rfl ?_
     refine sP (opp_as (v := .int _ _) rfl rfl) rfl rfl ?_
     refine sP (opp_as (v := .err _) rfl rfl) rfl rfl ?_
     refine awp_seq (awp_region rfl ?_)
     refine sP (opp_mv (v := .ptr _ _ _) rfl rfl) rfl rfl ?_
     refine sR (opr_callG (rl := [(1, 47)]) (r1 := .tup [.int _ _, .err _]) (H1 := [(47, some (.agg [.sl _ _ _ _, .int _ _, .int _ _]))]) (n1 := []) rfl rfl ent47 (cg47c ((Sp.opened b).1.drop 4) false 12 ((Sp.opened b).1.drop 4).length (by omega) (by omega) (by omega)) (And.intro (And.intro rfl wka) True.intro) (And.intro (And.intro rfl (Exists.intro _ (And.intro rfl wkc))) True.intro) rfl rfl rfl rfl) rfl rfl rfl ?_
     refine sP (opp_mv (v := .tup _) rfl rfl) rfl rfl ?_
     refine sP (opp_extract rfl rfl rfl) rfl rfl ?_
     refine sP (opp_extract rfl rfl rfl) rfl rfl ?_
     refine sP (opp_as (v := .int _ _) rfl rfl) rfl rfl ?_
     refine sP (opp_as (v := .err _) rfl rfl) rfl rfl ?_
     refine awp_seq (awp_block (awp_seq ?_))
     rw [fld_dropped _ 4 0 2 4 rfl, fld_dropped _ 4 2 2 6 rfl, fld_dropped _ 4 4 4 8 rfl, fld_dropped _ 4 8 4 12 rfl, fld_dropped _ 4 12 4 16 rfl, hfl 4 2 (by omega), hfl 6 2 (by omega), hfl 8 4 (by omega), hfl 12 4 (by omega), hfl 16 4 (by omega)]
     have hf12 := fld_lt b 12 4
     refine awp_region rfl ?_
     refine sP (opp_mv (v := .int _ _) rfl rfl) rfl rfl ?_
     refine sP (opp_cmp rfl rfl rfl rfl) rfl rfl ?_
     refine sP (opp_as (v := .bool _) rfl rfl) rfl rfl ?_
     refine awp_cond _ rfl (fun ht73 => ?_) (fun ht73 => ?_)
     ·(try simp only [cmpI, errD_nil, qa, qb, qc, qd] at ht73)
      refine awp_seq (awp_region rfl ?_)
      refine sP (opp_build rfl z61 bld61 rfl [.int .i64 0, .int .i64 0, .int .i64 0, .int .u32 0, .int .u32 0] rfl) rfl rfl ?_
      refine sP (opp_loadF rfl (ev_glob hG6) ty35) rfl rfl ?_
      refine sR (opr_call rfl rfl ent24 rfl (c24 _ _) (AViews.refl _ rfl)) rfl rfl rfl ?_ -- d=78 t=35 a=x,77
      refine sR0 (opr_store (v := .agg _) (trn := (.agg _)) rfl rfl rfl rfl bi rfl rfl rfl rfl fr2 ty61 (fun _ _ h => h)) rfl rfl rfl ?_
      refine sP (opp_as (v := .err _) rfl rfl) rfl rfl ?_
      refine awp_ret ?_
      repeat (first | refine athen_ret ?_ | refine ain_ret ?_)
      refine apost_ret (aend (l := [.agg _, .err _]) (.cell rfl rfl rfl (by exact True.intro) rfl ty61 (.tmp .nil)) (fun h => by cases h) (.cons (.noN rfl rfl) (.cons (.noN rfl rfl) .nil)) ⟨Wk.v ?_, rfl, rfl⟩)
      have e4 : (Sp.opened b).1.take 4 = b.take 4 := by rw [hok.2.1, List.take_take]; congr 1; omega
      have e5 : ¬ b.take 4 ≠ Sp.fery := by rw [← e4]; simpa [Sp.fery] using ht41
      rw [show Sp.look b = (Sp.hd0, Sp.ea 7 4) by rw [Sp.look, if_neg (by omega), if_neg (by omega), if_neg (by simp [ht35]), if_neg e5, if_pos (by omega)]]; exact .refl
     ·(try simp only [cmpI, errD_nil, qa, qb, qc, qd] at ht73)
      refine awp_seq (awp_region rfl ?_)
      refine sP (opp_mv (v := .int _ _) rfl rfl) rfl rfl ?_
      refine sP (opp_cmp rfl rfl rfl rfl) rfl rfl ?_
      refine sP (opp_mv (v := .bool _) rfl rfl) rfl rfl ?_
      refine sG _ rfl rfl rfl rfl (fun hg => (And.intro gi (True.intro))) (fun hg => opp_mv (v := .int _ _) rfl rfl) ?_
      refine sG _ rfl rfl rfl rfl (fun hg => (And.intro gi (And.intro gi (True.intro)))) (fun hg => opp_cmp rfl rfl rfl rfl) ?_
      refine sPick rfl rfl rfl rfl (by exact True.intro) rfl rfl (fun hg => gi) (fun hg => gi) ?_
      refine sP (opp_as (v := .bool _) rfl rfl) rfl rfl ?_
      refine awp_cond _ rfl (fun ht79 => ?_) (fun ht79 => ?_)
      ·(try simp only [cmpI, errD_nil, qa, qb, qc, qd] at ht79)
       refine awp_seq (awp_region rfl ?_)
       refine sP (opp_build rfl z61 bld61 rfl [.int .i64 0, .int .i64 0, .int .i64 0, .int .u32 0, .int .u32 0] rfl) rfl rfl ?_
       refine sP (opp_loadF rfl (ev_glob hG6) ty35) rfl rfl ?_
       refine sR (opr_call rfl rfl ent24 rfl (c24 _ _) (AViews.refl _ rfl)) rfl rfl rfl ?_ -- d=88 t=35 a=x,87
       refine sR0 (opr_store (v := .agg _) (trn := (.agg _)) rfl rfl rfl rfl bi rfl rfl rfl rfl fr2 ty61 (fun _ _ h => h)) rfl rfl rfl ?_
       refine sP (opp_as (v := .err _) rfl rfl) rfl rfl ?_
       refine awp_ret ?_
       repeat (first | refine athen_ret ?_ | refine ain_ret ?_)
       refine apost_ret (aend (l := [.agg _, .err _]) (.cell rfl rfl rfl (by exact True.intro) rfl ty61 (.tmp .nil)) (fun h => by cases h) (.cons (.noN rfl rfl) (.cons (.noN rfl rfl) .nil)) ⟨Wk.v ?_, rfl, rfl⟩)
       have e4 : (Sp.opened b).1.take 4 = b.take 4 := by rw [hok.2.1, List.take_take]; congr 1; omega
       have e5 : ¬ b.take 4 ≠ Sp.fery := by rw [← e4]; simpa [Sp.fery] using ht41
       rw [show Sp.look b = (Sp.hd0, Sp.ea 7 6) by rw [Sp.look, if_neg (by omega), if_neg (by omega), if_neg (by simp [ht35]), if_neg e5, if_neg (by omega), if_pos (by simp [cmpI] at ht79; omega)]]; exact .refl
      ·(try simp only [cmpI, errD_nil, qa, qb, qc, qd] at ht79)
       refine awp_seq (awp_region rfl ?_)
       refine sP (opp_mv (v := .int _ _) rfl rfl) rfl rfl ?_
       refine sP (opp_mv (v := .sl _ _ _ _) rfl rfl) rfl rfl ?_
       refine sP (opp_lenSl rfl rfl un38) rfl rfl ?_
       refine sP (opp_cmp rfl rfl rfl rfl) rfl rfl ?_
       refine sP (opp_as (v := .bool _) rfl rfl) rfl rfl ?_
       refine awp_cond _ rfl (fun ht89 => ?_) (fun ht89 => ?_)
       ·(try simp only [cmpI, errD_nil, qa, qb, qc, qd] at ht89)
        refine awp_seq (awp_region rfl ?_)
        refine sP (opp_build rfl z61 bld61 rfl [.int .i64 0, .int .i64 0, .int .i64 0, .int .u32 0, .int .u32 0] rfl) rfl rfl ?_
        refine sP (opp_loadF rfl (ev_glob hG0) ty35) rfl rfl ?_
        refine sR (opr_call rfl rfl ent24 rfl (c24 _ _) (AViews.refl _ rfl)) rfl rfl rfl ?_ -- d=96 t=35 a=x,95
        refine sR0 (opr_store (v := .agg _) (trn := (.agg _)) rfl rfl rfl rfl bi rfl rfl rfl rfl fr2 ty61 (fun _ _ h => h)) rfl rfl rfl ?_
        refine sP (opp_as (v := .err _) rfl rfl) rfl rfl ?_
        refine awp_ret ?_
        repeat (first | refine athen_ret ?_ | refine ain_ret ?_)
        refine apost_ret (aend (l := [.agg _, .err _]) (.cell rfl rfl rfl (by exact True.intro) rfl ty61 (.tmp .nil)) (fun h => by cases h) (.cons (.noN rfl rfl) (.cons (.noN rfl rfl) .nil)) ⟨Wk.v ?_, rfl, rfl⟩)
        have e4 : (Sp.opened b).1.take 4 = b.take 4 := by rw [hok.2.1, List.take_take]; congr 1; omega
        have e5 : ¬ b.take 4 ≠ Sp.fery := by rw [← e4]; simpa [Sp.fery] using ht41
        rw [show Sp.look b = (Sp.hd0, Sp.ea 5 8) by rw [Sp.look, if_neg (by omega), if_neg (by omega), if_neg (by simp [ht35]), if_neg e5, if_neg (by omega), if_neg (by simp [cmpI] at ht79; omega), if_pos (by omega)]]; exact .refl
       ·(try simp only [cmpI, errD_nil, qa, qb, qc, qd] at ht89)
        refine awp_skip (awp_seq (awp_region rfl ?_))
        refine sP (opp_mv (v := .int _ _) rfl rfl) rfl rfl ?_
        refine sP (opp_mv (v := .int _ _) rfl rfl) rfl rfl ?_
        refine sP (opp_mv (v := .int _ _) rfl rfl) rfl rfl ?_
        refine sP (opp_mv (v := .int _ _) rfl rfl) rfl rfl ?_
        refine sP (opp_convInt rfl rfl un3s un45 (wu32 (by omega))) rfl rfl ?_
        refine sP (opp_mv (v := .sl _ _ _ _) rfl rfl) rfl rfl ?_
        refine sR (opr_call rfl rfl ent48 rfl (c48 _ (Sp.opened b).1 (by omega)) (AViews.refl _ rfl)) rfl rfl rfl ?_ -- d=103 t=45 a=102
        refine sP (opp_build rfl z61 bld61 rfl [.int _ _, .int _ _, .int _ _, .int _ _, .int _ _] rfl) rfl rfl ?_
        refine sR0 (opr_store (v := .agg _) (trn := (.agg _)) rfl rfl rfl rfl bi rfl rfl rfl rfl fr2 ty61 (fun _ _ h => h)) rfl rfl rfl ?_
        refine sP (opp_as (v := .err _) rfl rfl) rfl rfl ?_
        refine awp_ret ?_
        repeat (first | refine athen_ret ?_ | refine ain_ret ?_)
        refine apost_ret (aend (l := [.agg _, .err _]) (.cell rfl rfl rfl (by exact True.intro) rfl ty61 (.tmp .nil)) (fun h => by cases h) (.cons (.noN rfl rfl) (.cons (.noN rfl rfl) .nil)) ⟨Wk.v ?_, rfl, rfl⟩)
        have e4 : (Sp.opened b).1.take 4 = b.take 4 := by rw [hok.2.1, List.take_take]; congr 1; omega
        have e5 : ¬ b.take 4 ≠ Sp.fery := by rw [← e4]; simpa [Sp.fery] using ht41
        rw [show Sp.look b = (⟨Sp.fld b 6 2, Sp.fld b 8 4, Sp.fld b 16 4, Sp.fld b 12 4, Sp.crcSum (Sp.opened b).1⟩, Sp.e0) by rw [Sp.look, if_neg (by omega), if_neg (by omega), if_neg (by simp [ht35]), if_neg e5, if_neg (by omega), if_neg (by simp [cmpI] at ht79; omega), if_neg (by omega)]]; exact .refl
end
end Go.Proofs.YtpmgdmbcdohgcaaDoor
/- Layer 16: the grammar of records (walks over this dump). -/
namespace Go.Proofs.YtpmgdmbcdohgcaaDoor
attribute [local irreducible] Tryd.prog
open Go.Fy
set_option linter.unusedSimpArgs false
set_option linter.unusedVariables false
def slotAt (l : List (Int × Bool)) (j : Nat) : AV := .agg [.int .i64 (l.getD j (0, true)).1, .bool (!(l.getD j (0, true)).2)]
section
variable {ea : Nat → Addr} {cds : List Nat} {gl : Nat → Option AV}
theorem c142 : APure (V ea cds gl) 42 [.int .i64 1] false (.sl 2 false 8 (slotAt (Sp.rows 1))) := by
 refine acalls_of_body (N := 31) Tryd.func42 rfl rfl (Nat.le_of_ble_eq_true rfl) fun C hV hN hM hO => ?_
 obtain ⟨_, _, w0, G0, σ0, _, own0⟩ := C; dsimp only at hV hN hM hO; subst hV; subst hN; subst hM
 refine awp_seq (awp_region rfl ?_)
 refine sP (opp_as (v := .sl _ _ _ _) rfl rfl) rfl rfl ?_
 refine awp_seq (awp_region rfl ?_)
 refine sP (opp_build rfl z100 bld100 rfl [.int _ _, .bool _] rfl) rfl rfl ?_
 refine sR (opr_buildSlice (n := 5) (g := fun j => if j = 0 then .agg _ else .agg [.int .i64 0, .bool false]) rfl eb97 z100 (by decide) rfl rfl) rfl rfl rfl ?_
 refine sP (opp_as (v := .osl _ _ _ _ _) rfl rfl) rfl rfl ?_
 refine awp_seq (awp_seq (awp_region rfl ?_))
 refine sP (opp_mv (v := .int _ _) rfl rfl) rfl rfl ?_
 refine sP (opp_cmp rfl rfl rfl rfl) rfl rfl ?_
 refine awp_cond _ rfl (fun ht7 => ?_) (fun ht7 => ?_)
 ·(try simp only [cmpI, errD_nil, qa, qb, qc, qd] at ht7)
  exfalso; simp [cmpI] at ht7
 ·(try simp only [cmpI, errD_nil, qa, qb, qc, qd] at ht7)
  refine awp_skip (awp_seq (awp_region rfl ?_))
  refine sP (opp_mv (v := .osl _ _ _ _ _) rfl rfl) rfl rfl ?_
  refine sP (opp_build rfl z100 bld100 rfl [.int _ _, .bool _] rfl) rfl rfl ?_
  refine sP (opp_build rfl z100 bld100 rfl [.int _ _, .bool _] rfl) rfl rfl ?_
  refine sP (opp_build rfl z100 bld100 rfl [.int _ _, .bool _] rfl) rfl rfl ?_
  refine sP (opp_build rfl z100 bld100 rfl [.int _ _, .bool _] rfl) rfl rfl ?_
  refine sP (opp_build rfl z100 bld100 rfl [.int _ _, .bool _] rfl) rfl rfl ?_
  refine sP (opp_build rfl z100 bld100 rfl [.int _ _, .bool _] rfl) rfl rfl ?_
  refine sR (opr_buildSlice (n := 19) (g := fun j => if j = 5 then .agg _ else if j = 4 then .agg _ else if j = 3 then .agg _ else if j = 2 then .agg _ else if j = 1 then .agg _ else if j = 0 then .agg _ else .agg [.int .i64 0, .bool false]) rfl eb97 z100 (by decide) rfl rfl) rfl rfl rfl ?_
  refine sR (opr_append (d := 20) rfl rfl rfl (by omega) (.osl0 rfl (by omega)) eb97 z100 (by omega) (by omega)) rfl rfl rfl ?_
  refine sP (opp_as (v := .osl _ _ _ _ _) rfl rfl) rfl rfl ?_
  refine awp_seq (awp_seq (awp_region rfl ?_))
  refine sP (opp_mv (v := .int _ _) rfl rfl) rfl rfl ?_
  refine sP (opp_cmp rfl rfl rfl rfl) rfl rfl ?_
  refine awp_cond _ rfl (fun ht22 => ?_) (fun ht22 => ?_)
  ·(try simp only [cmpI, errD_nil, qa, qb, qc, qd] at ht22)
   exfalso; simp [cmpI] at ht22
  ·(try simp only [cmpI, errD_nil, qa, qb, qc, qd] at ht22)
   refine awp_skip (awp_seq (awp_region rfl ?_))
   refine sP (opp_mv (v := .osl _ _ _ _ _) rfl rfl) rfl rfl ?_
   refine sP (opp_build rfl z100 bld100 rfl [.int _ _, .bool _] rfl) rfl rfl ?_
   refine sR (opr_buildSlice (n := 29) (g := fun j => if j = 0 then .agg _ else .agg [.int .i64 0, .bool false]) rfl eb97 z100 (by decide) rfl rfl) rfl rfl rfl ?_
   refine sR (opr_append (d := 30) rfl rfl rfl (by omega) (.osl0 rfl (by omega)) eb97 z100 (by omega) (by omega)) rfl rfl rfl ?_
   refine sP (opp_as (v := .osl _ _ _ _ _) rfl rfl) rfl rfl ?_
   refine awp_ret ?_
   repeat (first | refine athen_ret ?_ | refine ain_ret ?_)
   refine apost_ret (aend1s (r0 := .osl _ _ _ _ _) (.tmp .nil) shut rfl ⟨Wk.v ?_, rfl, rfl⟩)
   exact .sl (fun j hj => by match j, hj with | 0, _ => rfl | 1, _ => rfl | 2, _ => rfl | 3, _ => rfl | 4, _ => rfl | 5, _ => rfl | 6, _ => rfl | 7, _ => rfl | j + 8, hj => omega)
theorem c242 : APure (V ea cds gl) 42 [.int .i64 2] false (.sl 2 false 9 (slotAt (Sp.rows 2))) := by
 refine acalls_of_body (N := 31) Tryd.func42 rfl rfl (Nat.le_of_ble_eq_true rfl) fun C hV hN hM hO => ?_
 obtain ⟨_, _, w0, G0, σ0, _, own0⟩ := C; dsimp only at hV hN hM hO; subst hV; subst hN; subst hM
 refine awp_seq (awp_region rfl ?_)
 refine sP (opp_as (v := .sl _ _ _ _) rfl rfl) rfl rfl ?_
 refine awp_seq (awp_region rfl ?_)
 refine sP (opp_build rfl z100 bld100 rfl [.int _ _, .bool _] rfl) rfl rfl ?_
 refine sR (opr_buildSlice (n := 5) (g := fun j => if j = 0 then .agg _ else .agg [.int .i64 0, .bool false]) rfl eb97 z100 (by decide) rfl rfl) rfl rfl rfl ?_
 refine sP (opp_as (v := .osl _ _ _ _ _) rfl rfl) rfl rfl ?_
 refine awp_seq (awp_seq (awp_region rfl ?_))
 refine sP (opp_mv (v := .int _ _) rfl rfl) rfl rfl ?_
 refine sP (opp_cmp rfl rfl rfl rfl) rfl rfl ?_
 refine awp_cond _ rfl (fun ht7 => ?_) (fun ht7 => ?_)
 ·(try simp only [cmpI, errD_nil, qa, qb, qc, qd] at ht7)
  refine awp_region rfl ?_
  refine sP (opp_mv (v := .osl _ _ _ _ _) rfl rfl) rfl rfl ?_
  refine sP (opp_build rfl z100 bld100 rfl [.int _ _, .bool _] rfl) rfl rfl ?_
  refine sR (opr_buildSlice (n := 10) (g := fun j => if j = 0 then .agg _ else .agg [.int .i64 0, .bool false]) rfl eb97 z100 (by decide) rfl rfl) rfl rfl rfl ?_
  refine sR (opr_append (d := 11) rfl rfl rfl (by omega) (.osl0 rfl (by omega)) eb97 z100 (by omega) (by omega)) rfl rfl rfl ?_
  refine sP (opp_as (v := .osl _ _ _ _ _) rfl rfl) rfl rfl ?_
  refine awp_seq (awp_region rfl ?_)
  refine sP (opp_mv (v := .osl _ _ _ _ _) rfl rfl) rfl rfl ?_
  refine sP (opp_build rfl z100 bld100 rfl [.int _ _, .bool _] rfl) rfl rfl ?_
  refine sP (opp_build rfl z100 bld100 rfl [.int _ _, .bool _] rfl) rfl rfl ?_
  refine sP (opp_build rfl z100 bld100 rfl [.int _ _, .bool _] rfl) rfl rfl ?_
  refine sP (opp_build rfl z100 bld100 rfl [.int _ _, .bool _] rfl) rfl rfl ?_
  refine sP (opp_build rfl z100 bld100 rfl [.int _ _, .bool _] rfl) rfl rfl ?_
  refine sP (opp_build rfl z100 bld100 rfl [.int _ _, .bool _] rfl) rfl rfl ?_
  refine sR (opr_buildSlice (n := 19) (g := fun j => if j = 5 then .agg _ else if j = 4 then .agg _ else if j = 3 then .agg _ else if j = 2 then .agg _ else if j = 1 then .agg _ else if j = 0 then .agg _ else .agg [.int .i64 0, .bool false]) rfl eb97 z100 (by decide) rfl rfl) rfl rfl rfl ?_
  refine sR (opr_append (d := 20) rfl rfl rfl (by omega) (.osl0 rfl (by omega)) eb97 z100 (by omega) (by omega)) rfl rfl rfl ?_
  refine sP (opp_as (v := .osl _ _ _ _ _) rfl rfl) rfl rfl ?_
  refine awp_seq (awp_seq (awp_region rfl ?_))
  refine sP (opp_mv (v := .int _ _) rfl rfl) rfl rfl ?_
  refine sP (opp_cmp rfl rfl rfl rfl) rfl rfl ?_
  refine awp_cond _ rfl (fun ht22 => ?_) (fun ht22 => ?_)
  ·(try simp only [cmpI, errD_nil, qa, qb, qc, qd] at ht22)
   refine awp_seq (awp_region rfl ?_)
   refine sP (opp_mv (v := .osl _ _ _ _ _) rfl rfl) rfl rfl ?_
   refine sP (opp_build rfl z100 bld100 rfl [.int _ _, .bool _] rfl) rfl rfl ?_
   refine sR (opr_buildSlice (n := 25) (g := fun j => if j = 0 then .agg _ else .agg [.int .i64 0, .bool false]) rfl eb97 z100 (by decide) rfl rfl) rfl rfl rfl ?_
   refine sR (opr_append (d := 26) rfl rfl rfl (by omega) (.osl0 rfl (by omega)) eb97 z100 (by omega) (by omega)) rfl rfl rfl ?_
   refine sP (opp_as (v := .osl _ _ _ _ _) rfl rfl) rfl rfl ?_
   refine awp_ret ?_
   repeat (first | refine athen_ret ?_ | refine ain_ret ?_)
   refine apost_ret (aend1s (r0 := .osl _ _ _ _ _) (.tmp .nil) shut rfl ⟨Wk.v ?_, rfl, rfl⟩)
   exact .sl (fun j hj => by match j, hj with | 0, _ => rfl | 1, _ => rfl | 2, _ => rfl | 3, _ => rfl | 4, _ => rfl | 5, _ => rfl | 6, _ => rfl | 7, _ => rfl | 8, _ => rfl | j + 9, hj => omega)
  ·(try simp only [cmpI, errD_nil, qa, qb, qc, qd] at ht22)
   exfalso; simp [cmpI] at ht22
 ·(try simp only [cmpI, errD_nil, qa, qb, qc, qd] at ht7)
  exfalso; simp [cmpI] at ht7
theorem c42 (k : Int) (hk : k = 1 ∨ k = 2) : APure (V ea cds gl) 42 [.int .i64 k] false (.sl 2 false (Sp.rows k).length (slotAt (Sp.rows k))) := by
  rcases hk with rfl | rfl
  · exact c142
  · exact c242
theorem gram_drop {R : List (Int × Bool)} {k : Nat} (h : k < R.length) : R.drop k = R.getD k (0, true) :: R.drop (k + 1) := by
  rw [List.drop_eq_getElem_cons h, List.getD_eq_getElem?_getD, List.getElem?_eq_getElem h]; rfl
def tagsOf (l : List Rc) : List Int := l.map (·.tag)
def rcD : Rc := ⟨0, true, []⟩
theorem tags_drop {l : List Rc} {i : Nat} (h : i < l.length) : (tagsOf l).drop i = (l.getD i rcD).tag :: (tagsOf l).drop (i + 1) := by
  rw [List.drop_eq_getElem_cons (by simpa [tagsOf] using h), List.getD_eq_getElem?_getD, List.getElem?_eq_getElem h]; simp [tagsOf]
theorem tags_end {l : List Rc} {i : Nat} (h : l.length ≤ i) : (tagsOf l).drop i = [] := List.drop_eq_nil_of_le (by simpa [tagsOf] using h)
theorem gram_skip {R : List (Int × Bool)} {l : List Rc} {k i : Nat} (hk : k < R.length) (hi : i < l.length) (hm : (R.getD k (0, true)).2 = false) (ht : (R.getD k (0, true)).1 ≠ (l.getD i rcD).tag) :
    Sp.gram (R.drop k) ((tagsOf l).drop i) i = Sp.gram (R.drop (k + 1)) ((tagsOf l).drop i) i := by
  rw [gram_drop hk, tags_drop hi]
  generalize R.getD k (0, true) = r at hm ht
  obtain ⟨t, b⟩ := r
  dsimp only at hm ht; subst hm
  rw [Sp.gram, if_neg (Ne.symm ht)]
theorem gram_over {R : List (Int × Bool)} {l : List Rc} {k i : Nat} (hk : R.length ≤ k) (hi : i < l.length) : Sp.gram (R.drop k) ((tagsOf l).drop i) i = Sp.ea 3 i := by
  rw [List.drop_eq_nil_of_le hk, tags_drop hi, Sp.gram]
theorem gram_other {R : List (Int × Bool)} {l : List Rc} {k i : Nat} (hk : k < R.length) (hi : i < l.length) (hm : (R.getD k (0, true)).2 = true) (ht : (R.getD k (0, true)).1 ≠ (l.getD i rcD).tag) :
    Sp.gram (R.drop k) ((tagsOf l).drop i) i = Sp.ea 3 i := by
  rw [gram_drop hk, tags_drop hi]
  generalize R.getD k (0, true) = r at hm ht
  obtain ⟨t, b⟩ := r
  dsimp only at hm ht; subst hm
  rw [Sp.gram, if_neg (Ne.symm ht)]
theorem gram_one {R : List (Int × Bool)} {l : List Rc} {k i : Nat} (hk : k < R.length) (hi : i < l.length) (hm : (R.getD k (0, true)).2 = true) (ht : (R.getD k (0, true)).1 = (l.getD i rcD).tag) :
    Sp.gram (R.drop k) ((tagsOf l).drop i) i = Sp.gram (R.drop (k + 1)) ((tagsOf l).drop (i + 1)) (i + 1) := by
  rw [gram_drop hk, tags_drop hi]
  generalize R.getD k (0, true) = r at hm ht
  obtain ⟨t, b⟩ := r
  dsimp only at hm ht; subst hm
  rw [Sp.gram, if_pos ht.symm]
theorem gram_many {R : List (Int × Bool)} {l : List Rc} {k i : Nat} (hk : k < R.length) (hi : i < l.length) (hm : (R.getD k (0, true)).2 = false) (ht : (R.getD k (0, true)).1 = (l.getD i rcD).tag) :
    Sp.gram (R.drop k) ((tagsOf l).drop i) i = Sp.gram (R.drop k) ((tagsOf l).drop (i + 1)) (i + 1) := by
  rw [gram_drop hk, tags_drop hi]
  generalize R.getD k (0, true) = r at hm ht
  obtain ⟨t, b⟩ := r
  dsimp only at hm ht; subst hm
  rw [Sp.gram, if_pos ht.symm]
theorem gram_short {R : List (Int × Bool)} {k i : Nat} (hk : k < R.length) (hm : (R.getD k (0, true)).2 = true) : Sp.gram (R.drop k) [] i = Sp.ea 1 i := by
  rw [gram_drop hk]
  generalize R.getD k (0, true) = r at hm
  obtain ⟨t, b⟩ := r
  dsimp only at hm; subst hm
  rw [Sp.gram]
theorem gram_next {R : List (Int × Bool)} {k i : Nat} (hk : k < R.length) (hm : (R.getD k (0, true)).2 = false) : Sp.gram (R.drop k) [] i = Sp.gram (R.drop (k + 1)) [] i := by
  rw [gram_drop hk]
  generalize R.getD k (0, true) = r at hm
  obtain ⟨t, b⟩ := r
  dsimp only at hm; subst hm
  rw [Sp.gram]
theorem gram_done {R : List (Int × Bool)} {k i : Nat} (hk : R.length ≤ k) : Sp.gram (R.drop k) [] i = Sp.e0 := by rw [List.drop_eq_nil_of_le hk, Sp.gram]
theorem rows_len (k : Int) : (Sp.rows k).length ≤ 9 := by unfold Sp.rows; split <;> simp
theorem grammar_eq {kd : Int} (h : kd = 1 ∨ kd = 2) (l : List Rc) : Sp.grammar kd l = Sp.gram (Sp.rows kd) (tagsOf l) 0 := by
  unfold Sp.grammar; rw [if_neg (by omega)]; rfl
theorem c18 (kd : Int) (l : List Rc) (b : Bool) (h0 : l.length ≤ 4398046511104) (hS : Sents cds gl) : APure (V ea cds gl) 18 [.int .i64 kd, .sl 2 b l.length (rcAt l)] false (.err (Sp.grammar kd l).d) := by
 have hS0 := hS
 obtain ⟨hG2, hG3, hG4, hG1, hG0, hG5, hG6, hG7, hG8, hG9, hG10, hG11, hG12, hG13, hG14, hG15, hG16, hG17, hG18, hG19, hT, hall⟩ := hS
 have hrl := rows_len kd
 refine acalls_of_body (N := 90) Tryd.func18 rfl rfl (Nat.le_of_ble_eq_true rfl) fun C hV hN hM hO => ?_
 obtain ⟨_, _, w0, G0, σ0, _, own0⟩ := C; dsimp only at hV hN hM hO; subst hV; subst hN; subst hM
 refine awp_seq (awp_region rfl ?_)
 refine sP (opp_as (v := .err _) rfl rfl) rfl rfl ?_
 refine awp_seq (awp_seq (awp_region rfl ?_))
 refine sP (opp_mv (v := .int _ _) rfl rfl) rfl rfl ?_
 refine sP (opp_cmp rfl rfl rfl rfl) rfl rfl ?_
 refine sP (opp_mv (v := .bool _) rfl rfl) rfl rfl ?_
 refine sG _ rfl rfl rfl rfl (fun hg => (And.intro gi (True.intro))) (fun hg => opp_mv (v := .int _ _) rfl rfl) ?_
 refine sG _ rfl rfl rfl rfl (fun hg => (And.intro gi (And.intro gi (True.intro)))) (fun hg => opp_cmp rfl rfl rfl rfl) ?_
 refine sPick rfl rfl rfl rfl (by exact True.intro) rfl rfl (fun hg => gi) (fun hg => gi) ?_
 refine awp_cond _ rfl (fun ht14 => ?_) (fun ht14 => ?_)
 ·(try simp only [cmpI, errD_nil, qa, qb, qc, qd] at ht14)
  refine awp_seq (awp_region rfl ?_)
  refine sP (opp_loadF rfl (ev_glob hG6) ty35) rfl rfl ?_
  refine sP (opp_as (v := .err _) rfl rfl) rfl rfl ?_
  refine awp_ret ?_
  repeat (first | refine athen_ret ?_ | refine ain_ret ?_)
  refine apost_ret (aend1 (r0 := .err _) (.tmp .nil) (.noN rfl rfl) ⟨Wk.v ?_, rfl, rfl⟩)
  have hkd : kd ≠ 1 ∧ kd ≠ 2 := by simpa using ht14
  rw [show Sp.grammar kd l = Sp.ec 7 from if_pos hkd]; exact .refl
 ·(try simp only [cmpI, errD_nil, qa, qb, qc, qd] at ht14)
  refine awp_skip (awp_seq ?_)
  have hkd : kd = 1 ∨ kd = 2 := by simp [cmpI] at ht14; omega
  refine awp_region rfl ?_
  refine sP (opp_mv (v := .int _ _) rfl rfl) rfl rfl ?_
  refine sR (opr_call rfl rfl ent42 rfl (c42 kd hkd) (AViews.refl _ rfl)) rfl rfl rfl ?_ -- d=17 t=97 a=16
  refine sP (opp_as (v := .sl _ _ _ _) rfl rfl) rfl rfl ?_
  refine awp_seq (awp_region rfl ?_)
  refine sP (opp_as (v := .int _ _) rfl rfl) rfl rfl ?_
  refine awp_seq (awp_seq (awp_region rfl ?_))
  refine sP (opp_mv (v := .sl _ _ _ _) rfl rfl) rfl rfl ?_
  refine sP (opp_lenSl rfl rfl un24) rfl rfl ?_
  refine sP (opp_mv (v := .int _ _) rfl rfl) rfl rfl ?_
  refine awp_block ?_
  refine awp_loopK (ι := Nat × Nat) (fun p => p.1 ≤ (Sp.rows kd).length ∧ p.2 ≤ l.length ∧ Sp.gram ((Sp.rows kd).drop p.1) ((tagsOf l).drop p.2) p.2 = Sp.gram (Sp.rows kd) (tagsOf l) 0) (fun p => [(4, .top), (6, .int .i64 (p.1 : Int)), (7, .top), (8, .top), (20, .int .i64 (p.2 : Int)), (21, .top), (22, .top), (23, .top), (24, .top), (25, .top), (26, .top), (27, .top), (28, .top), (29, .top), (30, .top), (31, .top), (32, .top), (33, .top), (34, .top), (35, .top), (36, .top), (37, .top), (38, .top), (39, .top), (40, .top), (41, .top), (42, .top), (43, .top), (44, .top), (45, .top), (46, .top), (47, .top), (48, .top), (49, .top), (50, .top), (51, .top), (52, .top), (53, .top), (54, .top), (55, .top), (56, .top), (57, .top), (58, .top), (59, .top), (60, .top), (61, .top), (62, .top), (63, .top), (64, .top), (65, .top), (66, .top), (67, .top), (68, .top), (69, .top), (70, .top), (71, .top), (72, .top), (73, .top)]) (fun p => []) [] (fun p => l.length - p.2) ((0, 0)) (⟨Nat.zero_le _, Nat.zero_le _, rfl⟩) (by
   refine imp_over [] rfl rfl (by kernel_rfl) ?_ ?_
   ·iterate 58 refine And.intro wkv ?_
    exact True.intro
   ·exact True.intro
   ) ?_
  intro p hi1; obtain ⟨k, i⟩ := p; dsimp only at hi1 ⊢
  refine awp_seq (awp_region rfl ?_)
  refine sP (opp_cmp rfl rfl rfl rfl) rfl rfl ?_
  refine awp_seq ?_
  refine awp_cond _ rfl (fun ht21 => ?_) (fun ht21 => ?_)
  ·(try simp only [cmpI, errD_nil, qa, qb, qc, qd] at ht21)
   refine awp_skip (awp_seq (awp_block (awp_seq (awp_region rfl ?_))))
   refine sP (opp_mv (v := .int _ _) rfl rfl) rfl rfl ?_
   refine sP (opp_indexSl rfl rfl rfl el24 (by omega) (by omega)) rfl rfl ?_
   refine sP (opp_loadF rfl rfl ty40) rfl rfl ?_
   refine sR (opr_alloc (n := 8) rfl z40) rfl rfl rfl ?_
   refine sP (opp_as (v := .int _ _) rfl rfl) rfl rfl ?_
   refine sR0 (opr_store (v := .agg _) (trn := (.agg _)) rfl rfl rfl rfl bi rfl rfl rfl rfl fr2 ty40 (fun _ _ h => h)) rfl rfl rfl ?_
   refine awp_seq (awp_block ?_)
   refine awp_loopK (ι := Nat) (fun q => q ≤ (Sp.rows kd).length ∧ Sp.gram ((Sp.rows kd).drop q) ((tagsOf l).drop i) i = Sp.gram (Sp.rows kd) (tagsOf l) 0) (fun q => [(6, .int .i64 (q : Int)), (25, .top), (26, .top), (27, .top), (28, .top), (29, .top), (30, .top), (31, .top), (32, .top), (33, .top), (34, .top), (35, .top), (36, .top), (37, .top), (38, .top), (39, .top), (40, .top), (41, .top), (42, .top), (43, .top), (44, .top), (45, .top), (46, .top), (47, .top)]) (fun q => []) [] (fun q => (Sp.rows kd).length - q) (k) (⟨hi1.1, hi1.2.2⟩) (by
    refine imp_over [] rfl rfl (by kernel_rfl) ?_ ?_
    ·iterate 24 refine And.intro wkv ?_
     exact True.intro
    ·exact True.intro
    ) ?_
   intro q hi2
   refine awp_seq (awp_seq ?_)
   refine awp_draw hmix rfl (by kernel_rfl) ?_
   refine dP (fun _ => false) (opp_mv (v := .int _ _) rfl rfl) rfl rfl ?_
   refine dP (fun _ => false) (opp_mv (v := .sl _ _ _ _) rfl rfl) rfl rfl ?_
   refine dP (fun n => !([] : List Nat).contains n) (opp_lenSl rfl rfl un97) rfl rfl ?_
   refine dP (fun _ => false) (opp_cmp rfl rfl rfl rfl) rfl rfl ?_
   refine dP (fun _ => false) (opp_mv (v := .bool _) rfl rfl) rfl rfl ?_
   refine dG _ (fun _ => false) rfl rfl rfl rfl (fun hg => (And.intro gi (True.intro))) (fun hg => opp_mv (v := .sl _ _ _ _) rfl rfl) ?_
   refine dG _ (fun _ => false) rfl rfl rfl rfl (fun hg => (And.intro gi (True.intro))) (fun hg => opp_mv (v := .int _ _) rfl rfl) ?_
   refine dG _ (fun _ => false) rfl rfl rfl rfl (fun hg => (And.intro gi (And.intro gi (True.intro)))) (fun hg => opp_indexSl rfl rfl rfl el97 (by first | omega | (simp [cmpI] at hg; omega)) (by first | omega | (simp [cmpI] at hg; omega))) ?_
   refine dG _ (fun _ => false) rfl rfl rfl rfl (fun hg => (And.intro gi (True.intro))) (fun hg => opp_fieldF rfl rfl rfl fld100_1 rfl rfl) ?_
   refine dG _ (fun _ => false) rfl rfl rfl rfl (fun hg => (And.intro gi (True.intro))) (fun hg => opp_loadF rfl rfl ty4) ?_
   refine dPick (fun _ => false) rfl rfl rfl rfl (by exact True.intro) rfl rfl (fun hg => gi) (fun hg => gi) ?_
   refine dP (fun _ => false) (opp_mv (v := .bool _) rfl rfl) rfl rfl ?_
   refine dG _ (fun _ => false) rfl rfl rfl rfl (fun hg => (And.intro gi (True.intro))) (fun hg => opp_mv (v := .sl _ _ _ _) rfl rfl) ?_
   refine dG _ (fun _ => false) rfl rfl rfl rfl (fun hg => (And.intro gi (True.intro))) (fun hg => opp_mv (v := .int _ _) rfl rfl) ?_
   refine dG _ (fun _ => false) rfl rfl rfl rfl (fun hg => (And.intro gi (And.intro gi (True.intro)))) (fun hg => opp_indexSl rfl rfl rfl el97 (by first | omega | (simp [cmpI] at hg; omega)) (by first | omega | (simp [cmpI] at hg; omega))) ?_
   refine dG _ (fun _ => false) rfl rfl rfl rfl (fun hg => (And.intro gi (True.intro))) (fun hg => opp_fieldF rfl rfl rfl fld100_0 rfl rfl) ?_
   refine dG _ (fun _ => false) rfl rfl rfl rfl (fun hg => (And.intro gi (True.intro))) (fun hg => opp_loadF rfl rfl ty3) ?_
   refine dG _ (fun _ => false) rfl rfl rfl rfl (fun hg => (And.intro gi (True.intro))) (fun hg => opp_fieldP rfl rfl fld40_0 rfl) ?_
   refine dG _ (fun n => Nat.beq n 8) rfl rfl rfl rfl (fun hg => (And.intro gi (True.intro))) (fun hg => opp_loadP rfl rfl rfl rfl bi rfl ty3) ?_
   refine dG _ (fun _ => false) rfl rfl rfl rfl (fun hg => (And.intro gi (And.intro gi (True.intro)))) (fun hg => opp_cmp rfl rfl rfl rfl) ?_
   refine dPick (fun _ => false) rfl rfl rfl rfl (by exact True.intro) rfl rfl (fun hg => gi) (fun hg => gi) ?_
   refine And.intro (by kernel_rfl) ?_
   refine awp_cond _ rfl (fun ht45 => ?_) (fun ht45 => ?_)
   ·(try simp only [cmpI, errD_nil, qa, qb, qc, qd] at ht45)
    refine awp_skip (awp_block ?_)
    have hx : (q < (Sp.rows kd).length ∧ ((Sp.rows kd).getD q (0, true)).2 = false) ∧ ¬ ((Sp.rows kd).getD q (0, true)).1 = (l.getD i rcD).tag := by simpa [rcD] using ht45
    refine awp_region rfl ?_
    refine sP (opp_mv (v := .int _ _) rfl rfl) rfl rfl ?_
    refine sP (opp_arith rfl rfl rfl (.inl ⟨rfl, w64 (by omega)⟩)) rfl rfl ?_
    refine sP (opp_as (v := .int _ _) rfl rfl) rfl rfl ?_
    refine Exists.intro (q + 1) (And.intro (And.intro (⟨by omega, by rw [← gram_skip hx.1.1 (by omega) hx.1.2 hx.2]; exact hi2.2⟩) (by first | omega | (dsimp only; omega))) (by
     refine imp_over [] rfl rfl (by kernel_rfl) ?_ ?_
     ·iterate 24 refine And.intro wkv ?_
      exact True.intro
     ·exact True.intro
     ))
   ·(try simp only [cmpI, errD_nil, qa, qb, qc, qd] at ht45)
    refine awp_exit (awp_seq (awp_seq ?_))
    have h45 : q < (Sp.rows kd).length → ((Sp.rows kd).getD q (0, true)).2 = false → ((Sp.rows kd).getD q (0, true)).1 = (l.getD i rcD).tag := by simpa [rcD] using ht45
    refine awp_draw hmix rfl (by kernel_rfl) ?_
    refine dP (fun _ => false) (opp_mv (v := .int _ _) rfl rfl) rfl rfl ?_
    refine dP (fun _ => false) (opp_mv (v := .sl _ _ _ _) rfl rfl) rfl rfl ?_
    refine dP (fun n => !([] : List Nat).contains n) (opp_lenSl rfl rfl un97) rfl rfl ?_
    refine dP (fun _ => false) (opp_cmp rfl rfl rfl rfl) rfl rfl ?_
    refine dP (fun _ => false) (opp_mv (v := .bool _) rfl rfl) rfl rfl ?_
    refine dG _ (fun _ => false) rfl rfl rfl rfl (fun hg => (And.intro gi (True.intro))) (fun hg => opp_mv (v := .sl _ _ _ _) rfl rfl) ?_
    refine dG _ (fun _ => false) rfl rfl rfl rfl (fun hg => (And.intro gi (True.intro))) (fun hg => opp_mv (v := .int _ _) rfl rfl) ?_
    refine dG _ (fun _ => false) rfl rfl rfl rfl (fun hg => (And.intro gi (And.intro gi (True.intro)))) (fun hg => opp_indexSl rfl rfl rfl el97 (by first | omega | (simp [cmpI] at hg; omega)) (by first | omega | (simp [cmpI] at hg; omega))) ?_
    refine dG _ (fun _ => false) rfl rfl rfl rfl (fun hg => (And.intro gi (True.intro))) (fun hg => opp_fieldF rfl rfl rfl fld100_0 rfl rfl) ?_
    refine dG _ (fun _ => false) rfl rfl rfl rfl (fun hg => (And.intro gi (True.intro))) (fun hg => opp_loadF rfl rfl ty3) ?_
    refine dG _ (fun _ => false) rfl rfl rfl rfl (fun hg => (And.intro gi (True.intro))) (fun hg => opp_fieldP rfl rfl fld40_0 rfl) ?_
    refine dG _ (fun n => Nat.beq n 8) rfl rfl rfl rfl (fun hg => (And.intro gi (True.intro))) (fun hg => opp_loadP rfl rfl rfl rfl bi rfl ty3) ?_
    refine dG _ (fun _ => false) rfl rfl rfl rfl (fun hg => (And.intro gi (And.intro gi (True.intro)))) (fun hg => opp_cmp rfl rfl rfl rfl) ?_
    refine dPick (fun _ => false) rfl rfl rfl rfl (by exact True.intro) rfl rfl (fun hg => gi) (fun hg => gi) ?_
    refine And.intro (by kernel_rfl) ?_
    refine awp_cond _ rfl (fun ht61 => ?_) (fun ht61 => ?_)
    ·(try simp only [cmpI, errD_nil, qa, qb, qc, qd] at ht61)
     refine awp_seq (awp_region rfl ?_)
     refine sP (opp_mv (v := .int _ _) rfl rfl) rfl rfl ?_
     refine sP (opp_loadF rfl (ev_glob hG4) ty35) rfl rfl ?_
     refine sR (opr_call rfl rfl ent24 rfl (c24 _ _) (AViews.refl _ rfl)) rfl rfl rfl ?_ -- d=64 t=35 a=62,63
     refine sP (opp_as (v := .err _) rfl rfl) rfl rfl ?_
     refine awp_ret ?_
     repeat (first | refine athen_ret ?_ | refine ain_ret ?_)
     refine apost_ret (aend1 (r0 := .err _) (.tmp .nil) (.noN rfl rfl) ⟨Wk.v ?_, rfl, rfl⟩)
     have h61 : q = (Sp.rows kd).length ∨ ¬ ((Sp.rows kd).getD q (0, true)).1 = (l.getD i rcD).tag := by simpa [rcD, Int.ofNat_inj] using ht61
     have hb : Sp.grammar kd l = Sp.ea 3 i := by
      rw [grammar_eq hkd, ← hi2.2]
      by_cases hq : q < (Sp.rows kd).length
      ·have hne := h61.resolve_left (by omega)
       exact gram_other hq (by omega) (by cases hm : ((Sp.rows kd).getD q (0, true)).2 with | true => rfl | false => exact absurd (h45 hq hm) hne) hne
      ·exact gram_over (by omega) (by omega)
     rw [hb]; exact .refl
    ·(try simp only [cmpI, errD_nil, qa, qb, qc, qd] at ht61)
     refine awp_skip (awp_seq ?_)
     have h61 : ¬ q = (Sp.rows kd).length ∧ ((Sp.rows kd).getD q (0, true)).1 = (l.getD i rcD).tag := by simpa [rcD, Int.ofNat_inj] using ht61
     have hq : q < (Sp.rows kd).length := by omega
     refine awp_region rfl ?_
     refine sP (opp_mv (v := .sl _ _ _ _) rfl rfl) rfl rfl ?_
     refine sP (opp_mv (v := .int _ _) rfl rfl) rfl rfl ?_
     refine sP (opp_indexSl rfl rfl rfl el97 (by omega) (by omega)) rfl rfl ?_
     refine sP (opp_fieldF rfl rfl rfl fld100_1 rfl rfl) rfl rfl ?_
     refine sP (opp_loadF rfl rfl ty4) rfl rfl ?_
     refine sP (opp_not rfl rfl) rfl rfl ?_
     refine awp_cond _ rfl (fun ht70 => ?_) (fun ht70 => ?_)
     ·(try simp only [cmpI, errD_nil, qa, qb, qc, qd] at ht70)
      refine awp_region rfl ?_
      refine sP (opp_mv (v := .int _ _) rfl rfl) rfl rfl ?_
      refine sP (opp_arith rfl rfl rfl (.inl ⟨rfl, w64 (by omega)⟩)) rfl rfl ?_
      refine sP (opp_as (v := .int _ _) rfl rfl) rfl rfl ?_
      refine awp_region rfl ?_
      refine sP (opp_arith rfl rfl rfl (.inl ⟨rfl, w64 (by omega)⟩)) rfl rfl ?_
      refine sP (opp_mv (v := .int _ _) rfl rfl) rfl rfl ?_
      refine Exists.intro ((q + 1, i + 1)) (And.intro (And.intro (⟨by show q + 1 ≤ _; omega, by show i + 1 ≤ _; omega, by show Sp.gram ((Sp.rows kd).drop (q + 1)) ((tagsOf l).drop (i + 1)) (i + 1) = _; rw [← gram_one hq (by omega) (by simpa using ht70) h61.2]; exact hi2.2⟩) (by first | omega | (dsimp only; omega))) (by
       refine imp_over [] rfl rfl (by kernel_rfl) ?_ ?_
       ·iterate 58 refine And.intro wkv ?_
        exact True.intro
       ·exact True.intro
       ))
     ·(try simp only [cmpI, errD_nil, qa, qb, qc, qd] at ht70)
      refine awp_skip (awp_region rfl ?_)
      refine sP (opp_arith rfl rfl rfl (.inl ⟨rfl, w64 (by omega)⟩)) rfl rfl ?_
      refine sP (opp_mv (v := .int _ _) rfl rfl) rfl rfl ?_
      refine Exists.intro ((q, i + 1)) (And.intro (And.intro (⟨by show q ≤ _; omega, by show i + 1 ≤ _; omega, by show Sp.gram ((Sp.rows kd).drop q) ((tagsOf l).drop (i + 1)) (i + 1) = _; rw [← gram_many hq (by omega) (by simpa using ht70) h61.2]; exact hi2.2⟩) (by first | omega | (dsimp only; omega))) (by
       refine imp_over [] rfl rfl (by kernel_rfl) ?_ ?_
       ·iterate 58 refine And.intro wkv ?_
        exact True.intro
       ·exact True.intro
       ))
  ·(try simp only [cmpI, errD_nil, qa, qb, qc, qd] at ht21)
   refine awp_exit (awp_seq (awp_block ?_))
   refine awp_loopK (ι := Nat) (fun q => q ≤ (Sp.rows kd).length ∧ Sp.gram ((Sp.rows kd).drop q) [] l.length = Sp.gram (Sp.rows kd) (tagsOf l) 0) (fun q => [(4, .top), (6, .int .i64 (q : Int)), (74, .top), (75, .top), (76, .top), (77, .top), (78, .top), (79, .top), (80, .top), (81, .top), (82, .top), (83, .top), (84, .top), (85, .top), (86, .top), (87, .top), (88, .top), (89, .top)]) (fun q => []) [] (fun q => (Sp.rows kd).length - q) (k) (⟨hi1.1, by rw [← tags_end (Nat.le_refl l.length)]; have := hi1.2.2; rwa [show i = l.length by omega] at this⟩) (by
    refine imp_over [] rfl rfl (by kernel_rfl) ?_ ?_
    ·iterate 18 refine And.intro wkv ?_
     exact True.intro
    ·exact True.intro
    ) ?_
   intro q hi3
   refine awp_seq (awp_seq (awp_region rfl ?_))
   refine sP (opp_mv (v := .int _ _) rfl rfl) rfl rfl ?_
   refine sP (opp_mv (v := .sl _ _ _ _) rfl rfl) rfl rfl ?_
   refine sP (opp_lenSl rfl rfl un97) rfl rfl ?_
   refine sP (opp_cmp rfl rfl rfl rfl) rfl rfl ?_
   refine awp_cond _ rfl (fun ht77 => ?_) (fun ht77 => ?_)
   ·(try simp only [cmpI, errD_nil, qa, qb, qc, qd] at ht77)
    refine awp_skip (awp_seq (awp_block (awp_seq (awp_region rfl ?_))))
    refine sP (opp_mv (v := .sl _ _ _ _) rfl rfl) rfl rfl ?_
    refine sP (opp_mv (v := .int _ _) rfl rfl) rfl rfl ?_
    refine sP (opp_indexSl rfl rfl rfl el97 (by omega) (by omega)) rfl rfl ?_
    refine sP (opp_fieldF rfl rfl rfl fld100_1 rfl rfl) rfl rfl ?_
    refine sP (opp_loadF rfl rfl ty4) rfl rfl ?_
    refine sP (opp_not rfl rfl) rfl rfl ?_
    refine awp_cond _ rfl (fun ht85 => ?_) (fun ht85 => ?_)
    ·(try simp only [cmpI, errD_nil, qa, qb, qc, qd] at ht85)
     refine awp_seq (awp_region rfl ?_)
     refine sP (opp_mv (v := .sl _ _ _ _) rfl rfl) rfl rfl ?_
     refine sP (opp_lenSl rfl rfl un24) rfl rfl ?_
     refine sP (opp_loadF rfl (ev_glob hG2) ty35) rfl rfl ?_
     refine sR (opr_call rfl rfl ent24 rfl (c24 _ _) (AViews.refl _ rfl)) rfl rfl rfl ?_ -- d=89 t=35 a=87,88
     refine sP (opp_as (v := .err _) rfl rfl) rfl rfl ?_
     refine awp_ret ?_
     repeat (first | refine athen_ret ?_ | refine ain_ret ?_)
     refine apost_ret (aend1 (r0 := .err _) (.tmp .nil) (.noN rfl rfl) ⟨Wk.v ?_, rfl, rfl⟩)
     rw [show Sp.grammar kd l = Sp.ea 1 l.length by rw [grammar_eq hkd, ← hi3.2]; exact gram_short (by omega) (by simpa using ht85)]; exact .refl
    ·(try simp only [cmpI, errD_nil, qa, qb, qc, qd] at ht85)
     refine awp_skip (awp_region rfl ?_)
     refine sP (opp_mv (v := .int _ _) rfl rfl) rfl rfl ?_
     refine sP (opp_arith rfl rfl rfl (.inl ⟨rfl, w64 (by omega)⟩)) rfl rfl ?_
     refine sP (opp_as (v := .int _ _) rfl rfl) rfl rfl ?_
     refine Exists.intro (q + 1) (And.intro (And.intro (⟨by omega, by rw [← gram_next (by omega) (by simpa using ht85)]; exact hi3.2⟩) (by first | omega | (dsimp only; omega))) (by
      refine imp_over [] rfl rfl (by kernel_rfl) ?_ ?_
      ·iterate 18 refine And.intro wkv ?_
       exact True.intro
      ·exact True.intro
      ))
   ·(try simp only [cmpI, errD_nil, qa, qb, qc, qd] at ht77)
    refine awp_exit (awp_seq (awp_region rfl ?_))
    refine sP (opp_as (v := .err _) rfl rfl) rfl rfl ?_
    refine awp_ret ?_
    repeat (first | refine athen_ret ?_ | refine ain_ret ?_)
    refine apost_ret (aend1 (r0 := .err _) (.tmp .nil) (.noN rfl rfl) ⟨Wk.v ?_, rfl, rfl⟩)
    rw [show Sp.grammar kd l = Sp.e0 by rw [grammar_eq hkd, ← hi3.2]; exact gram_done (by omega)]; exact .refl
end
end Go.Proofs.YtpmgdmbcdohgcaaDoor
/- Plain Lean: where records go wrong; heads and records read together (my own text; no program in sight). -/
set_option linter.unusedSimpArgs false
namespace Go.Fy
namespace Sp
theorem recs_place (b : List UInt8) (a : Nat) (acc : List Rc) (h : (recs b a acc).2.code ≠ 0) : ∃ p, (recs b a acc).2.place = some p ∧ p ≤ b.length := by
  fun_induction recs b a acc with
  | case1 => exact absurd rfl h
  | case2 a acc h1 h2 => exact ⟨a, rfl, by omega⟩
  | case3 a acc h1 h2 h3 => exact ⟨a, rfl, by omega⟩
  | case4 a acc h1 h2 h3 h4 => exact ⟨a + 1, rfl, by omega⟩
  | case5 a acc h1 h2 h3 h4 ih => exact ih h
def mid (b : List UInt8) : List UInt8 := (b.drop 20).take (b.length - 24)
theorem mid_length (b : List UInt8) : (mid b).length = b.length - 24 := by simp [mid]; omega
def readH (b : List UInt8) : Hd := if (records b).2.code = 0 then (look b).1 else hd0
theorem read1 {b : List UInt8} (h : (look b).2.code ≠ 0) : records b = ([], (look b).2) ∧ readH b = hd0 := by
  have e : records b = ([], (look b).2) := by rw [records, if_pos h]
  exact ⟨e, by rw [readH, e, if_neg h]⟩
theorem read2 {b : List UInt8} (h : (look b).2.code = 0) (h2 : (split (mid b)).2.code ≠ 0) : records b = ([], shift (split (mid b)).2 20) ∧ readH b = hd0 := by
  have e : records b = ([], shift (split (mid b)).2 20) := by
    rw [records, if_neg (by simpa using h)]; exact if_pos h2
  exact ⟨e, by rw [readH, e]; exact if_neg h2⟩
theorem read3 {b : List UInt8} (h : (look b).2.code = 0) (h2 : (split (mid b)).2.code = 0) (h3 : (grammar (look b).1.kind (split (mid b)).1).code ≠ 0) : records b = ([], grammar (look b).1.kind (split (mid b)).1) ∧ readH b = hd0 := by
  have e : records b = ([], grammar (look b).1.kind (split (mid b)).1) := by
    rw [records, if_neg (by simpa using h)]
    show (if (split (mid b)).2.code ≠ 0 then _ else _) = _
    rw [if_neg (by simpa using h2)]; exact if_pos h3
  exact ⟨e, by rw [readH, e]; exact if_neg h3⟩
theorem read4 {b : List UInt8} (h : (look b).2.code = 0) (h2 : (split (mid b)).2.code = 0) (h3 : (grammar (look b).1.kind (split (mid b)).1).code = 0) : records b = ((split (mid b)).1, e0) ∧ readH b = (look b).1 := by
  have e : records b = ((split (mid b)).1, e0) := by
    rw [records, if_neg (by simpa using h)]
    show (if (split (mid b)).2.code ≠ 0 then _ else _) = _
    rw [if_neg (by simpa using h2)]; exact if_neg (fun h' => h' h3)
  exact ⟨e, by rw [readH, e]; exact if_pos rfl⟩
theorem look_len {b : List UInt8} (h : (look b).2.code = 0) : 24 ≤ b.length ∧ b.length ≤ 4096 := by
  unfold look at h
  by_cases h1 : 4096 < b.length
  · rw [if_pos h1] at h; cases h
  · rw [if_neg h1] at h
    by_cases h2 : b.length < 24
    · rw [if_pos h2] at h; cases h
    · omega
theorem recs_count (b : List UInt8) (a : Nat) (acc : List Rc) (h : acc.length ≤ a) : (recs b a acc).1.length ≤ max a b.length := by
  fun_induction recs b a acc with
  | case1 a acc h1 => show acc.length ≤ _; omega
  | case2 => simp
  | case3 => simp
  | case4 => simp
  | case5 a acc h1 h2 h3 h4 ih =>
    have := ih (by simp; omega)
    omega
end Sp
theorem Er.d_at (e : Er) (p : Nat) (h : e.code ≠ 0) (hp : e.place = some p) : e.d = .at (p : Int) (.code e.code) := by
  unfold Er.d; rw [if_neg h, hp]
end Go.Fy
/- The engine, 27: bytes of a constant string (a row built, then turned to bytes that no string shares) (my own text; any program). -/
set_option linter.unusedSimpArgs false
namespace Go.Fy
open Go.RowKit
/-- What an own block holds, told otherwise. -/
theorem awp_wkH {C : Ctx} {c : Code} {Q : Exit → St → Prop} {F : List (Nat × AV)} {H : List (Nat × Option AV)} {nm : List Nat} (i : Nat) {x : AV} (y : AV) (hx : getH H i = some x) (h : WkC x y) (k : AWP C c Q ⟨F, (i, some y) :: H, nm⟩) : AWP C c Q ⟨F, H, nm⟩ :=
  fun a w ⟨σ, hc⟩ => k a w ⟨σ, (hc.swap (H' := (i, some y) :: H) i x y hx (by rw [getH_cons, if_pos rfl]) (fun j hj => by rw [getH_cons, if_neg (Ne.symm hj)]) (fun cs hcs _ => h _ cs hcs)).1⟩
/-- The operations of a region from a place on. -/
def ALW (C : Ctx) (ops : Array Oper) (Q : Exit → St → Prop) (k : Nat) (l : List Oper) (S : St) : Prop :=
  ∀ a w, Conc C S a w → wpOps C.V.P ops (fun e a' w' => ∃ S', Conc C S' a' w' ∧ Q e S') (List.range' k l.length) a w
def atB (ops : List Oper) (k : Nat) (l : List Oper) : Prop := ops.drop k = l
theorem atB_get {ops : List Oper} {k : Nat} {o : Oper} {r : List Oper} (h : atB ops k (o :: r)) : ops.toArray[k]? = some o ∧ atB ops (k + 1) r := by
  unfold atB at *
  have hlt : k < ops.length := by
    rcases Nat.lt_or_ge k ops.length with h' | h'
    · exact h'
    · rw [List.drop_eq_nil_of_le h'] at h; cases h
  rw [List.drop_eq_getElem_cons hlt] at h
  simp only [List.cons.injEq] at h
  refine ⟨?_, h.2⟩
  simp [hlt, h.1]
theorem awp_regionW {C : Ctx} {Q : Exit → St → Prop} {S : St} {id : Nat} {ops : List Oper} (h : ALW C ops.toArray Q 0 ops S) : AWP C (.region id ops.toArray false) Q S := by
  intro a w hc
  refine wp_region ?_
  have := h a w hc
  simpa [List.range_eq_range'] using this
theorem alw_step {C : Ctx} {ops : List Oper} {Q : Exit → St → Prop} {S : St} {k : Nat} {o : Oper} {r : List Oper} (hat : atB ops k (o :: r)) (hd : o.dst.all (· < C.N) = true) (h : AL C ops.toArray [o] (ALW C ops.toArray Q (k + 1) r) S) : ALW C ops.toArray Q k (o :: r) S := by
  intro a w hc
  have h0 := (atB_get hat).1
  have h1 : AOp C ops.toArray o (ALW C ops.toArray Q (k + 1) r) S := h
  have h2 := h1 (fun d he => by simpa [he] using hd) a w hc
  simp only [List.length_cons, List.range'_succ, wpOps, h0]
  split
  · rename_i hw
    rw [if_pos hw] at h2
    left
    exact Oper.wp_nopanic _ (Oper.wp_mono (fun a' w' ⟨S', h3, h4⟩ => h4 a' w' h3) h2)
  · rename_i hw
    rw [if_neg hw] at h2
    obtain ⟨S', h3, h4⟩ := h2
    exact h4 _ _ h3
theorem alw_rest {C : Ctx} {ops : List Oper} {Q : Exit → St → Prop} {S : St} {k : Nat} {r : List Oper} (hat : atB ops k r) (hd : (r.all fun o => o.dst.all (· < C.N)) = true) (h : AL C ops.toArray r (Q .normal) S) : ALW C ops.toArray Q k r S := by
  intro a w hc
  exact al_ops (C := C) (ops := ops.toArray) (Q := Q) r k S (fun j => by
    have h1 : ops.drop k = r := hat
    rw [← h1]; simp [List.getElem?_drop]) (fun o ho d he => by have := List.all_eq_true.1 hd o ho; simpa [he] using this) h a w hc
theorem freeze_new (w : World) (C : Array Value) (e : TypeId) (n : Nat) : (w.alloc (.cells C e)).freeze ⟨w.heap.size, n, none⟩ 1 = w.alloc (.cells C e (n, n + 1)) := by
  have hm : ∀ (a : Array Obj) (x : Obj) (f : Obj → Obj), (a.push x).modify a.size f = a.push (f x) := by
    intro a x f
    apply Array.ext
    · simp
    · intro i h1 h2
      simp only [Array.getElem_modify, Array.getElem_push]
      by_cases h : a.size = i
      · subst h
        simp
      · have hi : i < a.size := by simp at h1; omega
        simp [h, hi]
  unfold World.freeze
  rw [if_neg (by decide)]
  show ({ w.alloc (.cells C e) with heap := (w.heap.push (.cells C e)).modify w.heap.size _ } : World) = _
  rw [hm]
  rfl
theorem run_conv_same {P : Program} (w : World) (t e : TypeId) (cs : Array Value) (l c : Nat) (ht : P.underlying t = some (.slice e)) (he : P.underlying e = some (.int .u8)) :
    (convert t t (.slice (some ⟨w.heap.size, 0, none⟩) l c)).run P (w.alloc (.cells cs e)) = .ok (.slice (some ⟨w.heap.size, 0, none⟩) l c) (w.alloc (.cells cs e (cs.size, cs.size + 1))) := by
  have hsh : (w.alloc (.cells cs e)).shape? w.heap.size = some (e, cs.size) := by
    have : (w.alloc (.cells cs e)).heap[w.heap.size]? = some (.cells cs e) := by
      show (w.heap.push (.cells cs e))[w.heap.size]? = _
      simp
    unfold World.shape?
    rw [this]
  simp [convert, run_underlying ht, run_underlying he, markStringish, hsh, Result.andThen]
  exact freeze_new w cs e _
theorem alw_pair {C : Ctx} {ops : List Oper} {Q : Exit → St → Prop} {F : List (Nat × AV)} {H : List (Nat × Option AV)} {nm : List Nat} {k : Nat} {o1 o2 : Oper} {r : List Oper} {d1 d2 : Nat} {t e : TypeId} {len by_ : Nat} {parts : Array (Nat × Operand)} {z : AV} {g : Nat → AV} (n : Nat)
    (hat : atB ops k (o1 :: o2 :: r)) (h1 : o1.op = .buildSlice t len parts) (e1 : o1.dst = some d1) (g1 : o1.guard = none) (h2 : o2.op = .convert t t (.tmp d1)) (e2 : o2.dst = some d2) (g2 : o2.guard = none)
    (ht : elB C.V.P t = some (e, 1, by_)) (hz : Zero C.V.P e z) (hu : C.V.P.underlying e = some (.int .u8)) (hl : len * 1 ≤ 2 ^ 24) (hpos : 0 < len) (hb : bslB (ev C.V F) 1 len parts.toList = true) (hg : (bslF (ev C.V F) parts.toList fun _ => z) = g)
    (hd1 : d1 < C.N) (hd2 : d2 < C.N) (hn : nm.contains n = false) (K : ALW C ops.toArray Q (k + 2) r ⟨(d2, .osl n 1 0 len len) :: (d1, .osl n 1 0 len len) :: F, (n, some (.arr 1 len g)) :: H, n :: nm⟩) : ALW C ops.toArray Q k (o1 :: o2 :: r) ⟨F, H, nm⟩ := by
  subst hg
  intro a w ⟨σ, hc⟩
  obtain ⟨hk1, hat'⟩ := atB_get hat
  obtain ⟨hk2, -⟩ := atB_get hat'
  obtain ⟨hus, i, hi, hs1, rfl⟩ := elB_spec ht
  obtain ⟨i', v, hi', hv, hs, hr⟩ := hz
  rw [hi] at hi'
  simp only [Option.some.injEq] at hi'
  subst hi'
  have hparts : ∀ E : RE, (C.RE ⟨F, H, nm⟩ w σ).le E → ∀ p, p ∈ parts.toList → RelV E (ev C.V F p.2) (a.eval p.2) := fun E hE p hp => RelV.le hE _ _ (ev_rel hc p.2)
  have hs' : v.cells.toList.length = i.size := by simpa using hs
  obtain ⟨cs', h3, h4⟩ := fill_arr (E := C.RE ⟨F, H, nm⟩ w σ) (ε := a.eval) parts.toList (fun _ => z) (madeCells v.cells (len * i.size)) (hparts _ (RE.le.refl _)) (made_rel hs hr len) (by rw [hs1]; exact hb)
  rw [hs1, Nat.mul_one] at h3
  rw [hs1] at h4
  have hcsz : cs'.size = len := by
    have := Rel.length _ _ h4
    simpa [AV.sz] using this
  have hrun : (execOp a.eval o1).run C.V.P w = .ok (.value (.slice (some ⟨w.heap.size, 0, none⟩) len len)) (w.alloc (.cells cs' e)) := by
    have hsz : (Go.sizeOf e).run C.V.P w = .ok 1 w := by simp [Go.sizeOf, typeInfo, hi, hs1]
    have hzv : (zeroValue e).run C.V.P w = .ok v w := by simp [zeroValue, typeInfo, hi, hv, Result.andThen]
    have hmap : (parts.map fun (p : Nat × Operand) => (p.1, a.eval p.2)).toList = parts.toList.map fun p => (p.1, a.eval p.2) := by simp
    simp only [execOp, h1, Instr.buildSlice, Sem.run_bind, run_underlying hus, Result.andThen, hsz, Sem.run_map]
    rw [if_neg (by omega)]
    rw [if_neg (by omega)]
    simp only [Sem.run_bind, hzv, Sem.run_pure, Result.andThen]
    rw [hmap]
    have e0 : madeCells v.cells len = (Array.range (len * 1)).map (fun x => v.cells[x % v.cells.size]!) := by rw [Nat.mul_one]; rfl
    rw [e0] at h3
    rw [h3]
    simp [newRow, Result.andThen]
  have hlt : d1 < a.tmps.size := by rw [hc.size]; exact hd1
  have hev : (a.put (some d1) (.slice (some ⟨w.heap.size, 0, none⟩) len len)).eval (.tmp d1) = .slice (some ⟨w.heap.size, 0, none⟩) len len := by
    show (a.tmps.setIfInBounds d1 _).getD d1 undef = _
    simp [Array.getD, hlt]
  have hrun2 : (execOp (a.put (some d1) (.slice (some ⟨w.heap.size, 0, none⟩) len len)).eval o2).run C.V.P (w.alloc (.cells cs' e)) = .ok (.value (.slice (some ⟨w.heap.size, 0, none⟩) len len)) (w.alloc (.cells cs' e (cs'.size, cs'.size + 1))) := by
    simp only [execOp, h2, Sem.run_bind, hev, run_conv_same w t e cs' len len hus hu, Result.andThen, Sem.run_pure]
  have hn' : n ∉ nm := by simpa using hn
  obtain ⟨σ', hc'⟩ := hc.newRow (some d1) (fun d hd => by cases hd; exact hd1) n hn' 1 len len len (bslF (ev C.V F) parts.toList fun _ => z) cs' e (cs'.size, cs'.size + 1) cs'.toList [] (by simp) (fun o ho h => by simp only at h; omega) (fun E hE => Rel.le hE _ _ h4) len len (Nat.le_refl _) (Nat.le_refl _) (by omega) rfl
  have hs1' := hc'.slot d1
  have hF : getF ((d1, AV.osl n 1 0 len len) :: F) d1 = .osl n 1 0 len len := by rw [getF_cons, if_pos rfl]
  have hval : RelV (C.RE (St.upd ⟨F, H, nm⟩ (some d1) ⟨.osl n 1 0 len len, [(n, some (.arr 1 len (bslF (ev C.V F) parts.toList fun _ => z)))], [n]⟩) (w.alloc (.cells cs' e (cs'.size, cs'.size + 1))) σ') (.osl n 1 0 len len) (.slice (some ⟨w.heap.size, 0, none⟩) len len) := by
    have h5 : (a.put (some d1) (.slice (some ⟨w.heap.size, 0, none⟩) len len)).tmps.getD d1 undef = .slice (some ⟨w.heap.size, 0, none⟩) len len := hev
    rw [h5] at hs1'
    exact hF ▸ hs1'
  have hc2 := hc'.put (some d2) (.osl n 1 0 len len) _ (fun d hd => by cases hd; exact hd2) hval
  simp only [List.length_cons, List.range'_succ, wpOps, hk1]
  rw [if_pos (by simp [Region.wanted, g1])]
  left
  unfold Oper.wp
  rw [hrun, Oper.upon_value, e1]
  simp only [wpOps, hk2]
  rw [if_pos (by simp [Region.wanted, g2])]
  left
  show Oper.upon _ _ _ _ _ _
  rw [hrun2, Oper.upon_value, e2]
  exact K _ _ ⟨σ', hc2⟩
end Go.Fy
/- Layer 16: an image read, its records (walks over this dump). -/
namespace Go.Proofs.YtpmgdmbcdohgcaaDoor
attribute [local irreducible] Tryd.prog
open Go.Fy
set_option linter.unusedSimpArgs false
set_option linter.unusedVariables false
section
variable {ea : Nat → Addr} {cds : List Nat} {gl : Nat → Option AV}
theorem c37 (b : List UInt8) (h0 : b.length ≤ 140737488355328) (hS : Sents cds gl) : APure (V ea cds gl) 37 [.sl 1 false b.length (bAt b)] false (.tup [hdAV (Sp.readH b), .sl 2 (decide ((Sp.records b).1 = [])) (Sp.records b).1.length (rcAt (Sp.records b).1), .err (Sp.records b).2.d]) := by
 have hS0 := hS
 obtain ⟨hG2, hG3, hG4, hG1, hG0, hG5, hG6, hG7, hG8, hG9, hG10, hG11, hG12, hG13, hG14, hG15, hG16, hG17, hG18, hG19, hT, hall⟩ := hS
 refine acalls_of_body (N := 42) Tryd.func37 rfl rfl (Nat.le_of_ble_eq_true rfl) fun C hV hN hM hO => ?_
 obtain ⟨_, _, w0, G0, σ0, _, own0⟩ := C; dsimp only at hV hN hM hO; subst hV; subst hN; subst hM
 refine awp_seq (awp_region rfl ?_)
 refine sR (opr_alloc (n := 2) rfl z61) rfl rfl rfl ?_
 refine sP (opp_as (v := .sl _ _ _ _) rfl rfl) rfl rfl ?_
 refine sP (opp_as (v := .err _) rfl rfl) rfl rfl ?_
 refine awp_seq (awp_region rfl ?_)
 refine sP (opp_mv (v := .sl _ _ _ _) rfl rfl) rfl rfl ?_
 refine sR (opr_call rfl rfl ent20 rfl (c20 b h0 hS0) (AViews.refl _ rfl)) rfl rfl rfl ?_ -- d=11 t=62 a=10
 refine sP (opp_mv (v := .tup _) rfl rfl) rfl rfl ?_
 refine sP (opp_extract rfl rfl rfl) rfl rfl ?_
 refine sP (opp_extract rfl rfl rfl) rfl rfl ?_
 refine sR (opr_alloc (n := 5) rfl z61) rfl rfl rfl ?_
 refine sR0 (opr_store (v := .agg _) (trn := (.agg _)) rfl rfl rfl rfl bi rfl rfl rfl rfl fr2 ty61 (fun _ _ h => h)) rfl rfl rfl ?_
 refine sP (opp_as (v := .err _) rfl rfl) rfl rfl ?_
 refine awp_seq (awp_seq (awp_region rfl ?_))
 refine sP (opp_mv (v := .err _) rfl rfl) rfl rfl ?_
 refine sP (opp_errNil rfl rfl rfl un35 (.inr ⟨rfl, rfl⟩)) rfl rfl ?_
 refine awp_cond _ rfl (fun ht15 => ?_) (fun ht15 => ?_)
 ·(try simp only [cmpI, errD_nil, qa, qb, qc, qd] at ht15)
  refine awp_seq (awp_region rfl ?_)
  refine sP (opp_build rfl z61 bld61 rfl [.int .i64 0, .int .i64 0, .int .i64 0, .int .u32 0, .int .u32 0] rfl) rfl rfl ?_
  refine sP (opp_mv (v := .err _) rfl rfl) rfl rfl ?_
  refine sR0 (opr_store (v := .agg _) (trn := (.agg _)) rfl rfl rfl rfl bi rfl rfl rfl rfl fr2 ty61 (fun _ _ h => h)) rfl rfl rfl ?_
  refine sP (opp_as (v := .sl _ _ _ _) rfl rfl) rfl rfl ?_
  refine sP (opp_as (v := .err _) rfl rfl) rfl rfl ?_
  refine awp_ret ?_
  repeat (first | refine athen_ret ?_ | refine ain_ret ?_)
  refine apost_ret (aend (l := [.agg _, .sl _ _ _ _, .err _]) (.cell rfl rfl rfl (by exact True.intro) rfl ty61 (.tmp (.tmp .nil))) (fun h => by cases h) (.cons (.noN rfl rfl) (.cons (.noN rfl rfl) (.cons (.noN rfl rfl) .nil))) ⟨Wk.v ?_, rfl, rfl⟩)
  have h1 : (Sp.look b).2.code ≠ 0 := by simpa [er_nil] using ht15
  rw [(Sp.read1 h1).1, (Sp.read1 h1).2]; exact .tup (.cons .refl (.cons .sl0 (.cons .refl .nil)))
 ·(try simp only [cmpI, errD_nil, qa, qb, qc, qd] at ht15)
  refine awp_skip (awp_seq ?_)
  have h1 : (Sp.look b).2.code = 0 := by simpa [er_nil] using ht15
  have hlen := Sp.look_len h1
  have hml := Sp.mid_length b
  refine awp_region rfl ?_
  refine sP (opp_mv (v := .sl _ _ _ _) rfl rfl) rfl rfl ?_
  refine sP (opp_mv (v := .sl _ _ _ _) rfl rfl) rfl rfl ?_
  refine sP (opp_lenSl rfl rfl un38) rfl rfl ?_
  refine sP (opp_arith rfl rfl rfl (.inr <| .inl ⟨rfl, w64 (by omega)⟩)) rfl rfl ?_
  refine sP (opp_sliceSl rfl rfl rfl rfl el38 (by omega) (by omega) (by omega)) rfl rfl ?_
  refine sR (opr_call rfl rfl ent67 rfl (c67 (Sp.mid b) (by omega) hG2 hG4 hG0) (.cons (aview_wk rfl (wk_slx (by omega) (fun j hj => by rw [Sp.mid, bAt_take _ _ _ (by omega), bAt_drop]; congr 1))) .nil)) rfl rfl rfl ?_ -- d=24 t=47 a=23
  refine sP (opp_mv (v := .tup _) rfl rfl) rfl rfl ?_
  refine sP (opp_extract rfl rfl rfl) rfl rfl ?_
  refine sP (opp_extract rfl rfl rfl) rfl rfl ?_
  refine sP (opp_as (v := .sl _ _ _ _) rfl rfl) rfl rfl ?_
  refine sP (opp_as (v := .err _) rfl rfl) rfl rfl ?_
  refine awp_seq (awp_seq (awp_region rfl ?_))
  refine sP (opp_mv (v := .err _) rfl rfl) rfl rfl ?_
  refine sP (opp_errNil rfl rfl rfl un35 (.inr ⟨rfl, rfl⟩)) rfl rfl ?_
  refine awp_cond _ rfl (fun ht28 => ?_) (fun ht28 => ?_)
  ·(try simp only [cmpI, errD_nil, qa, qb, qc, qd] at ht28)
   refine awp_seq ?_
   have h2 : (Sp.split (Sp.mid b)).2.code ≠ 0 := by simpa [er_nil] using ht28
   obtain ⟨pl, hpl1, hpl2⟩ := Sp.recs_place (Sp.mid b) 0 [] h2
   rw [Er.d_at _ pl h2 hpl1]
   refine awp_region rfl ?_
   refine sP (opp_build rfl z61 bld61 rfl [.int .i64 0, .int .i64 0, .int .i64 0, .int .u32 0, .int .u32 0] rfl) rfl rfl ?_
   refine sP (opp_mv (v := .err _) rfl rfl) rfl rfl ?_
   refine sR (opr_call rfl rfl ent68 rfl (cm68 _ 20 _ (by omega) (by omega) hS0) (AViews.refl _ rfl)) rfl rfl rfl ?_ -- d=31 t=35 a=30,x
   refine sR0 (opr_store (v := .agg _) (trn := (.agg _)) rfl rfl rfl rfl bi rfl rfl rfl rfl fr2 ty61 (fun _ _ h => h)) rfl rfl rfl ?_
   refine sP (opp_as (v := .sl _ _ _ _) rfl rfl) rfl rfl ?_
   refine sP (opp_as (v := .err _) rfl rfl) rfl rfl ?_
   refine awp_ret ?_
   repeat (first | refine athen_ret ?_ | refine ain_ret ?_)
   refine apost_ret (aend (l := [.agg _, .sl _ _ _ _, .err _]) (.cell rfl rfl rfl (by exact True.intro) rfl ty61 (.tmp (.tmp .nil))) (fun h => by cases h) (.cons (.noN rfl rfl) (.cons (.noN rfl rfl) (.cons (.noN rfl rfl) .nil))) ⟨Wk.v ?_, rfl, rfl⟩)
   rw [(Sp.read2 h1 h2).1, (Sp.read2 h1 h2).2]
   have he : (Sp.shift (Sp.split (Sp.mid b)).2 20).d = .at ((pl : Int) + 20) (.code (Sp.split (Sp.mid b)).2.code) := by
    have hp2 : (Sp.split (Sp.mid b)).2.place = some pl := hpl1
    rw [Er.d_at (Sp.shift (Sp.split (Sp.mid b)).2 20) (pl + 20) h2 (by simp [Sp.shift, hp2])]; simp [Sp.shift]
   rw [he]; exact .tup (.cons .refl (.cons .sl0 (.cons .refl .nil)))
  ·(try simp only [cmpI, errD_nil, qa, qb, qc, qd] at ht28)
   refine awp_skip (awp_seq (awp_seq ?_))
   have h2 : (Sp.split (Sp.mid b)).2.code = 0 := by simpa [er_nil] using ht28
   have hcnt : (Sp.split (Sp.mid b)).1.length ≤ 4096 := by have := Sp.recs_count (Sp.mid b) 0 [] (Nat.le_refl _); have e : (Sp.split (Sp.mid b)) = Sp.recs (Sp.mid b) 0 [] := rfl; rw [e]; omega
   refine awp_region rfl ?_
   refine sP (opp_fieldP rfl rfl fld61_0 rfl) rfl rfl ?_
   refine sP (opp_loadP rfl rfl rfl rfl bi rfl ty3) rfl rfl ?_
   refine sP (opp_mv (v := .sl _ _ _ _) rfl rfl) rfl rfl ?_
   refine sR (opr_call rfl rfl ent18 rfl (c18 ((Sp.look b).1.kind : Int) (Sp.split (Sp.mid b)).1 _ (by omega) hS0) (AViews.refl _ rfl)) rfl rfl rfl ?_ -- d=35 t=35 a=33,34
   refine sP (opp_as (v := .err _) rfl rfl) rfl rfl ?_
   refine awp_seq (awp_region rfl ?_)
   refine sP (opp_mv (v := .err _) rfl rfl) rfl rfl ?_
   refine sP (opp_errNil rfl rfl rfl un35 (.inr ⟨rfl, rfl⟩)) rfl rfl ?_
   refine awp_cond _ rfl (fun ht37 => ?_) (fun ht37 => ?_)
   ·(try simp only [cmpI, errD_nil, qa, qb, qc, qd] at ht37)
    refine awp_seq (awp_region rfl ?_)
    refine sP (opp_build rfl z61 bld61 rfl [.int .i64 0, .int .i64 0, .int .i64 0, .int .u32 0, .int .u32 0] rfl) rfl rfl ?_
    refine sP (opp_mv (v := .err _) rfl rfl) rfl rfl ?_
    refine sR0 (opr_store (v := .agg _) (trn := (.agg _)) rfl rfl rfl rfl bi rfl rfl rfl rfl fr2 ty61 (fun _ _ h => h)) rfl rfl rfl ?_
    refine sP (opp_as (v := .sl _ _ _ _) rfl rfl) rfl rfl ?_
    refine sP (opp_as (v := .err _) rfl rfl) rfl rfl ?_
    refine awp_ret ?_
    repeat (first | refine athen_ret ?_ | refine ain_ret ?_)
    refine apost_ret (aend (l := [.agg _, .sl _ _ _ _, .err _]) (.cell rfl rfl rfl (by exact True.intro) rfl ty61 (.tmp (.tmp .nil))) (fun h => by cases h) (.cons (.noN rfl rfl) (.cons (.noN rfl rfl) (.cons (.noN rfl rfl) .nil))) ⟨Wk.v ?_, rfl, rfl⟩)
    have h3 : (Sp.grammar (Sp.look b).1.kind (Sp.split (Sp.mid b)).1).code ≠ 0 := by simpa [er_nil] using ht37
    rw [(Sp.read3 h1 h2 h3).1, (Sp.read3 h1 h2 h3).2]; exact .tup (.cons .refl (.cons .sl0 (.cons .refl .nil)))
   ·(try simp only [cmpI, errD_nil, qa, qb, qc, qd] at ht37)
    refine awp_skip (awp_seq (awp_region rfl ?_))
    refine sP (opp_loadP rfl rfl rfl rfl bi rfl ty61) rfl rfl ?_
    refine sP (opp_mv (v := .sl _ _ _ _) rfl rfl) rfl rfl ?_
    refine sR0 (opr_store (v := .agg _) (trn := (.agg _)) rfl rfl rfl rfl bi rfl rfl rfl rfl fr2 ty61 (fun _ _ h => h)) rfl rfl rfl ?_
    refine sP (opp_as (v := .sl _ _ _ _) rfl rfl) rfl rfl ?_
    refine sP (opp_as (v := .err _) rfl rfl) rfl rfl ?_
    refine awp_ret ?_
    repeat (first | refine athen_ret ?_ | refine ain_ret ?_)
    refine apost_ret (aend (l := [.agg _, .sl _ _ _ _, .err _]) (.cell rfl rfl rfl (by exact True.intro) rfl ty61 (.tmp (.tmp .nil))) (fun h => by cases h) (.cons (.noN rfl rfl) (.cons (.noN rfl rfl) (.cons (.noN rfl rfl) .nil))) ⟨Wk.v ?_, rfl, rfl⟩)
    have h3 : (Sp.grammar (Sp.look b).1.kind (Sp.split (Sp.mid b)).1).code = 0 := by simpa [er_nil] using ht37
    rw [(Sp.read4 h1 h2 h3).1, (Sp.read4 h1 h2 h3).2]; exact .refl
theorem c13 (b : List UInt8) (h0 : b.length ≤ 140737488355328) (hS : Sents cds gl) : APure (V ea cds gl) 13 [.sl 1 false b.length (bAt b)] false (.tup [.sl 2 (decide ((Sp.records b).1 = [])) (Sp.records b).1.length (rcAt (Sp.records b).1), .err (Sp.records b).2.d]) := by
 refine acalls_of_body (N := 15) Tryd.func13 rfl rfl (Nat.le_of_ble_eq_true rfl) fun C hV hN hM hO => ?_
 obtain ⟨_, _, w0, G0, σ0, _, own0⟩ := C; dsimp only at hV hN hM hO; subst hV; subst hN; subst hM
 refine awp_seq (awp_region rfl ?_)
 refine sP (opp_as (v := .sl _ _ _ _) rfl rfl) rfl rfl ?_
 refine sP (opp_as (v := .err _) rfl rfl) rfl rfl ?_
 refine awp_seq (awp_region rfl ?_)
 refine sP (opp_mv (v := .sl _ _ _ _) rfl rfl) rfl rfl ?_
 refine sR (opr_call rfl rfl ent37 rfl (c37 b h0 hS) (AViews.refl _ rfl)) rfl rfl rfl ?_ -- d=9 t=88 a=8
 refine sP (opp_mv (v := .tup _) rfl rfl) rfl rfl ?_
 refine sP (opp_extract rfl rfl rfl) rfl rfl ?_
 refine sP (opp_extract rfl rfl rfl) rfl rfl ?_
 refine sP (opp_extract rfl rfl rfl) rfl rfl ?_
 refine sR (opr_alloc (n := 4) rfl z61) rfl rfl rfl ?_
 refine sR0 (opr_store (v := .agg _) (trn := (.agg _)) rfl rfl rfl rfl bi rfl rfl rfl rfl fr2 ty61 (fun _ _ h => h)) rfl rfl rfl ?_
 refine sP (opp_as (v := .sl _ _ _ _) rfl rfl) rfl rfl ?_
 refine sP (opp_as (v := .err _) rfl rfl) rfl rfl ?_
 refine awp_seq (awp_region rfl ?_)
 refine sP (opp_mv (v := .sl _ _ _ _) rfl rfl) rfl rfl ?_
 refine sP (opp_mv (v := .err _) rfl rfl) rfl rfl ?_
 refine sP (opp_as (v := .sl _ _ _ _) rfl rfl) rfl rfl ?_
 refine sP (opp_as (v := .err _) rfl rfl) rfl rfl ?_
 refine awp_ret ?_
 repeat (first | refine athen_ret ?_ | refine ain_ret ?_)
 refine apost_ret (aend (l := [.sl _ _ _ _, .err _]) (.tmp (.tmp .nil)) (fun h => by cases h) (.cons (.noN rfl rfl) (.cons (.noN rfl rfl) .nil)) ⟨Wk.v ?_, rfl, rfl⟩)
 exact .refl
end
end Go.Proofs.YtpmgdmbcdohgcaaDoor
/- Layer 16: records packed (walks over this dump). -/
namespace Go.Proofs.YtpmgdmbcdohgcaaDoor
attribute [local irreducible] Tryd.prog
open Go.Fy
set_option linter.unusedSimpArgs false
set_option linter.unusedVariables false
theorem size_take (l : List Rc) (i : Nat) (h : i < l.length) : Sp.size (l.take (i + 1)) = Sp.size (l.take i) + (3 + (l.getD i rcD).body.length) := by
  rw [List.take_add_one, List.getElem?_eq_getElem h, Option.toList_some, Sp.size_snoc]
  simp [List.getD_eq_getElem?_getD, h]
theorem recBytes_take (l : List Rc) (i : Nat) (h : i < l.length) : Sp.recBytes (l.take (i + 1)) = Sp.recBytes (l.take i) ++ (Sp.be (l.getD i rcD).tag.toNat 1 ++ (Sp.be (l.getD i rcD).body.length 2 ++ (l.getD i rcD).body)) := by
  rw [List.take_add_one, List.getElem?_eq_getElem h, Option.toList_some, Sp.recBytes_snoc]
  simp [List.getD_eq_getElem?_getD, h]
theorem size_le (l : List Rc) : ∀ i, i ≤ l.length → (∀ j, j < i → (l.getD j rcD).body.length ≤ 65535) → Sp.size (l.take i) ≤ 24 + i * 65538
  | 0, _, _ => by simp [Sp.size]
  | i + 1, h, hb => by
    have := size_le l i (by omega) fun j hj => hb j (by omega)
    have h2 := hb i (by omega)
    rw [size_take l i (by omega)]; omega
theorem size_mono (l : List Rc) : ∀ i, i ≤ l.length → 24 + (Sp.recBytes (l.take i)).length ≤ Sp.size l := by
  intro i hi
  rw [Sp.size_eq]
  have hap : ∀ x y : List Rc, Sp.recBytes (x ++ y) = Sp.recBytes x ++ Sp.recBytes y := fun x y => by simp [Sp.recBytes]
  have h2 : Sp.recBytes l = Sp.recBytes (l.take i) ++ Sp.recBytes (l.drop i) := by rw [← hap, List.take_append_drop]
  rw [h2, List.length_append]; omega
section
variable {ea : Nat → Addr} {cds : List Nat} {gl : Nat → Option AV}
theorem cg31z (k : Nat) (g : Nat → AV) (h1 : 1 ≤ k) (h2 : k ≤ 1099511627776) : AGen (V ea cds gl) 31 [.ptr 1 [] 0, .osl 3 1 0 k k] [(1, some (.agg [.sl 1 true 0 (fun _ => .top), .err .nil])), (3, some (.arr 1 k g))]
  (.tup []) [(1, some (.agg [.osl 1004 1 0 k k, .err .nil])), (3, none), (1004, some (.arr 1 k g))] := by
 refine agen_of_body (N := 7) Tryd.func31 rfl rfl (Nat.le_of_ble_eq_true rfl) fun C hV hN hM hO => ?_
 obtain ⟨_, _, w0, G0, σ0, _, own0⟩ := C; dsimp only at hV hN hM hO; subst hV; subst hN; subst hM
 refine awp_region rfl ?_
 refine sP (opp_mv (v := .ptr _ _ _) rfl rfl) rfl rfl ?_
 refine sP (opp_mv (v := .osl _ _ _ _ _) rfl rfl) rfl rfl ?_
 refine sR (opr_callG (rl := [(1, 1), (3, 3), (15, 1004)]) (r1 := .tup []) (H1 := [(1, some (.agg [.osl 1004 _ _ _ _, .err _])), (3, none), (1004, some (.arr _ _ _))]) (n1 := [1004]) rfl rfl ent60 (cg60n k g h1 h2) (And.intro (And.intro rfl wka) (And.intro (And.intro rfl wka) True.intro)) (And.intro (And.intro rfl (Exists.intro _ (And.intro rfl wkc))) (And.intro (And.intro rfl (Exists.intro _ (And.intro rfl wkc))) True.intro)) rfl rfl rfl rfl) rfl rfl rfl ?_
 repeat (first | refine athen_ret ?_ | refine ain_ret ?_)
 refine gpost_ret (gends (l := []) false .nil (fun h => by cases h) .nil rfl .refl rfl (And.intro (Exists.intro _ (Exists.intro _ (And.intro rfl (And.intro shut (And.intro (fun h => by cases h) (And.intro ?_ rfl)))))) (And.intro (Exists.intro _ (Exists.intro _ (And.intro rfl (And.intro shut (And.intro (fun h => by cases h) (And.intro ?_ rfl)))))) True.intro)))
 ·exact .refl
 ·exact .refl
def hdr (k : Int) (s : BitVec 32) (id : Int) (l : List Rc) : List UInt8 := Sp.fery ++ Sp.be 1 2 ++ Sp.be k.toNat 2 ++ Sp.be (Sp.size l) 4 ++ Sp.be s.toNat 4 ++ Sp.be id.toNat 4
theorem hdr_len (k : Int) (s : BitVec 32) (id : Int) (l : List Rc) : (hdr k s id l).length = 20 := by simp [hdr, Sp.be_length, Sp.fery]
theorem hdr_img (k : Int) (s : BitVec 32) (id : Int) (l : List Rc) : hdr k s id l ++ Sp.recBytes l = Sp.imgBytes k s id l := by simp [hdr, Sp.imgBytes]
theorem c11 (k : Int) (s : BitVec 32) (id : Int) (l : List Rc) (b : Bool) (h0 : l.length ≤ 4398046511104) (hS : Sents cds gl) :
  APure (V ea cds gl) 11 [.int .i64 k, u32V s, .int .i64 id, .sl 2 b l.length (rcAt l)] false (.tup [.sl 1 (decide ((Sp.pack k s id l).2.code ≠ 0)) (Sp.pack k s id l).1.length (bAt (Sp.pack k s id l).1), .err (Sp.pack k s id l).2.d]) := by
 have hS0 := hS
 obtain ⟨hG2, hG3, hG4, hG1, hG0, hG5, hG6, hG7, hG8, hG9, hG10, hG11, hG12, hG13, hG14, hG15, hG16, hG17, hG18, hG19, hT, hall⟩ := hS
 have hsl := s.isLt
 refine acalls_of_body (N := 96) Tryd.func11 rfl rfl (Nat.le_of_ble_eq_true rfl) fun C hV hN hM hO => ?_
 obtain ⟨_, _, w0, G0, σ0, _, own0⟩ := C; dsimp only at hV hN hM hO; subst hV; subst hN; subst hM
 refine awp_seq (awp_region rfl ?_)
 refine sP (opp_as (v := .sl _ _ _ _) rfl rfl) rfl rfl ?_
 refine sP (opp_as (v := .err _) rfl rfl) rfl rfl ?_
 refine awp_seq (awp_seq (awp_region rfl ?_))
 refine sP (opp_mv (v := .int _ _) rfl rfl) rfl rfl ?_
 refine sP (opp_mv (v := .sl _ _ _ _) rfl rfl) rfl rfl ?_
 refine sR (opr_call rfl rfl ent18 rfl (c18 k l b h0 hS0) (AViews.refl _ rfl)) rfl rfl rfl ?_ -- d=21 t=35 a=19,20
 refine sP (opp_as (v := .err _) rfl rfl) rfl rfl ?_
 refine awp_seq (awp_region rfl ?_)
 refine sP (opp_mv (v := .err _) rfl rfl) rfl rfl ?_
 refine sP (opp_errNil rfl rfl rfl un35 (.inr ⟨rfl, rfl⟩)) rfl rfl ?_
 refine awp_cond _ rfl (fun ht23 => ?_) (fun ht23 => ?_)
 ·(try simp only [cmpI, errD_nil, qa, qb, qc, qd] at ht23)
  refine awp_seq (awp_region rfl ?_)
  refine sP (opp_mv (v := .err _) rfl rfl) rfl rfl ?_
  refine sP (opp_as (v := .sl _ _ _ _) rfl rfl) rfl rfl ?_
  refine sP (opp_as (v := .err _) rfl rfl) rfl rfl ?_
  refine awp_ret ?_
  repeat (first | refine athen_ret ?_ | refine ain_ret ?_)
  refine apost_ret (aend (l := [.sl _ _ _ _, .err _]) (.tmp (.tmp .nil)) (fun h => by cases h) (.cons (.noN rfl rfl) (.cons (.noN rfl rfl) .nil)) ⟨Wk.v ?_, rfl, rfl⟩)
  have h1 : (Sp.grammar k l).code ≠ 0 := by simpa [er_nil] using ht23
  have h2 : Sp.pack k s id l = ([], Sp.grammar k l) := if_pos h1
  rw [h2]; have h3 : (decide ((Sp.grammar k l).code ≠ 0)) = true := by simpa using h1
  show Wk _ (.tup [.sl 1 (decide ((Sp.grammar k l).code ≠ 0)) 0 _, _]); rw [h3]; exact .tup (.cons .sl0 (.cons .refl .nil))
 ·(try simp only [cmpI, errD_nil, qa, qb, qc, qd] at ht23)
  refine awp_skip (awp_seq (awp_seq ?_))
  have h1 : (Sp.grammar k l).code = 0 := by simpa [er_nil] using ht23
  have hgt := Sp.grammar_tags h1
  refine awp_region rfl ?_
  refine sP (opp_mv (v := .int _ _) rfl rfl) rfl rfl ?_
  refine sP (opp_cmp rfl rfl rfl rfl) rfl rfl ?_
  refine sP (opp_mv (v := .bool _) rfl rfl) rfl rfl ?_
  refine sG _ rfl rfl rfl rfl (fun hg => (And.intro gi (True.intro))) (fun hg => opp_mv (v := .int _ _) rfl rfl) ?_
  refine sG _ rfl rfl rfl rfl (fun hg => (And.intro gi (And.intro gi (True.intro)))) (fun hg => opp_cmp rfl rfl rfl rfl) ?_
  refine sPick rfl rfl rfl rfl (by exact True.intro) rfl rfl (fun hg => gi) (fun hg => gi) ?_
  refine awp_cond _ rfl (fun ht30 => ?_) (fun ht30 => ?_)
  ·(try simp only [cmpI, errD_nil, qa, qb, qc, qd] at ht30)
   refine awp_seq ?_
   refine awp_draw hmix rfl (by kernel_rfl) ?_
   refine dP (fun _ => false) (opp_loadF rfl (ev_glob hG1) ty35) rfl rfl ?_
   refine dP (fun _ => false) (opp_as (v := .sl _ _ _ _) rfl rfl) rfl rfl ?_
   refine dP (fun _ => false) (opp_as (v := .err _) rfl rfl) rfl rfl ?_
   refine And.intro (by kernel_rfl) ?_
   refine awp_ret ?_
   repeat (first | refine athen_ret ?_ | refine ain_ret ?_)
   refine apost_ret (aend (l := [.sl _ _ _ _, .err _]) (.tmp (.tmp .nil)) (fun h => by cases h) (.cons (.noN rfl rfl) (.cons (.noN rfl rfl) .nil)) ⟨Wk.v ?_, rfl, rfl⟩)
   have hid : id < 0 ∨ 4294967295 < id := by simpa using ht30
   have h2 : Sp.pack k s id l = ([], Sp.ec 4) := by rw [Sp.pack, if_neg (by simpa using h1), if_pos hid]
   rw [h2]; exact .tup (.cons .sl0 (.cons .refl .nil))
  ·(try simp only [cmpI, errD_nil, qa, qb, qc, qd] at ht30)
   refine awp_skip (awp_seq ?_)
   have hid : ¬ (id < 0 ∨ 4294967295 < id) := by simpa using ht30
   refine awp_region rfl ?_
   refine sP (opp_as (v := .int _ _) rfl rfl) rfl rfl ?_
   refine awp_seq (awp_seq (awp_region rfl ?_))
   refine sP (opp_mv (v := .sl _ _ _ _) rfl rfl) rfl rfl ?_
   refine sP (opp_lenSl rfl rfl un24) rfl rfl ?_
   refine sP (opp_mv (v := .int _ _) rfl rfl) rfl rfl ?_
   refine awp_block ?_
   refine awp_loopK (ι := Nat) (fun i => i ≤ l.length ∧ ∀ j, j < i → (l.getD j rcD).body.length ≤ 65535) (fun i => [(8, .top), (9, .top), (11, .int .i64 ((Sp.size (l.take i) : Nat) : Int)), (13, .top), (34, .int .i64 (i : Int)), (35, .top), (36, .top), (37, .top), (38, .top), (39, .top), (40, .top), (41, .top), (42, .top), (43, .top), (44, .top), (45, .top), (46, .top), (47, .top), (48, .top), (49, .top)]) (fun i => []) [] (fun i => l.length - i) (0) (⟨Nat.zero_le _, fun j hj => absurd hj (Nat.not_lt_zero j)⟩) (by
    refine imp_over [] rfl rfl (by kernel_rfl) ?_ ?_
    ·iterate 20 refine And.intro wkv ?_
     exact True.intro
    ·exact True.intro
    ) ?_
   intro i hi1
   refine awp_seq (awp_region rfl ?_)
   refine sP (opp_cmp rfl rfl rfl rfl) rfl rfl ?_
   refine awp_seq ?_
   refine awp_cond _ rfl (fun ht35 => ?_) (fun ht35 => ?_)
   ·(try simp only [cmpI, errD_nil, qa, qb, qc, qd] at ht35)
    refine awp_skip (awp_seq (awp_block (awp_seq (awp_region rfl ?_))))
    refine sP (opp_indexSl rfl rfl rfl el24 (by omega) (by omega)) rfl rfl ?_
    refine sP (opp_loadF rfl rfl ty40) rfl rfl ?_
    refine sR (opr_alloc (n := 13) rfl z40) rfl rfl rfl ?_
    refine sR0 (opr_store (v := .agg _) (trn := (.agg _)) rfl rfl rfl rfl bi rfl rfl rfl rfl fr2 ty40 (fun _ _ h => h)) rfl rfl rfl ?_
    refine awp_seq (awp_seq ?_)
    have hsz := size_le l i hi1.1 hi1.2
    refine awp_region rfl ?_
    refine sP (opp_fieldP rfl rfl fld40_1 rfl) rfl rfl ?_
    refine sP (opp_loadP rfl rfl rfl rfl bi rfl ty38) rfl rfl ?_
    refine sP (opp_lenSl rfl rfl un38) rfl rfl ?_
    refine sP (opp_cmp rfl rfl rfl rfl) rfl rfl ?_
    refine awp_cond _ rfl (fun ht41 => ?_) (fun ht41 => ?_)
    ·(try simp only [cmpI, errD_nil, qa, qb, qc, qd] at ht41)
     refine awp_seq ?_
     refine awp_draw hmix rfl (by kernel_rfl) ?_
     refine dP (fun _ => false) (opp_loadF rfl (ev_glob hG0) ty35) rfl rfl ?_
     refine dP (fun _ => false) (opp_as (v := .sl _ _ _ _) rfl rfl) rfl rfl ?_
     refine dP (fun _ => false) (opp_as (v := .err _) rfl rfl) rfl rfl ?_
     refine And.intro (by kernel_rfl) ?_
     refine awp_ret ?_
     repeat (first | refine athen_ret ?_ | refine ain_ret ?_)
     refine apost_ret (aend (l := [.sl _ _ _ _, .err _]) (.tmp (.tmp .nil)) (fun h => by cases h) (.cons (.noN rfl rfl) (.cons (.noN rfl rfl) .nil)) ⟨Wk.v ?_, rfl, rfl⟩)
     have hb : ∃ r ∈ l, 65535 < r.body.length := ⟨l.getD i rcD, by rw [List.getD_eq_getElem?_getD, List.getElem?_eq_getElem (by omega)]; exact List.getElem_mem _, by show 65535 < (l.getD i rcD).body.length; have h9 := ht41; simp only [Int.toNat_natCast] at h9; exact Int.ofNat_lt.1 h9⟩
     have h2 : Sp.pack k s id l = ([], Sp.ec 5) := by rw [Sp.pack, if_neg (by simpa using h1), if_neg hid, if_pos hb]
     rw [h2]; exact .tup (.cons .sl0 (.cons .refl .nil))
    ·(try simp only [cmpI, errD_nil, qa, qb, qc, qd] at ht41)
     refine awp_skip ?_
     have hbl : (l.getD i rcD).body.length ≤ 65535 := by have h9 := ht41; simp only [Int.toNat_natCast] at h9; exact Nat.le_of_not_lt fun h => h9 (Int.ofNat_lt.2 h)
     refine awp_region rfl ?_
     refine sP (opp_mv (v := .int _ _) rfl rfl) rfl rfl ?_
     refine sP (opp_fieldP rfl rfl fld40_1 rfl) rfl rfl ?_
     refine sP (opp_loadP rfl rfl rfl rfl bi rfl ty38) rfl rfl ?_
     refine sP (opp_lenSl rfl rfl un38) rfl rfl ?_
     refine sP (opp_arith rfl rfl rfl (.inl ⟨rfl, w64 (by omega)⟩)) rfl rfl ?_
     refine sP (opp_arith rfl rfl rfl (.inl ⟨rfl, w64 (by omega)⟩)) rfl rfl ?_
     refine sP (opp_as (v := .int _ _) rfl rfl) rfl rfl ?_
     refine awp_region rfl ?_
     refine sP (opp_arith rfl rfl rfl (.inl ⟨rfl, w64 (by omega)⟩)) rfl rfl ?_
     refine sP (opp_mv (v := .int _ _) rfl rfl) rfl rfl ?_
     refine Exists.intro (i + 1) (And.intro (And.intro (⟨by omega, fun j hj => by rcases Nat.lt_succ_iff_lt_or_eq.1 hj with h | h; exact hi1.2 j h; rw [h]; exact hbl⟩) (by first | omega | (dsimp only; omega))) (by
      refine imp_over [] rfl rfl (by kernel_rfl) ?_ ?_
      ·iterate 2 refine And.intro wkv ?_
       refine And.intro (by exact Or.inr (And.intro rfl (WkV.of (by show AV.int .i64 _ = AV.int .i64 _; rw [size_take l i (by omega)]; simp [rcD])))) ?_
       iterate 17 refine And.intro wkv ?_
       exact True.intro
      ·exact True.intro
      ))
   ·(try simp only [cmpI, errD_nil, qa, qb, qc, qd] at ht35)
    refine awp_exit (awp_seq (awp_seq ?_))
    have hie : i = l.length := by omega
    subst hie
    rw [show l.take l.length = l from List.take_length]
    have hnb : ¬ ∃ r ∈ l, 65535 < r.body.length := by
     rintro ⟨r, hr, hlt⟩
     obtain ⟨j, hj, he⟩ := List.getElem_of_mem hr
     have := hi1.2 j hj
     rw [List.getD_eq_getElem?_getD, List.getElem?_eq_getElem hj, Option.getD_some, he] at this
     omega
    refine awp_region rfl ?_
    refine sP (opp_mv (v := .int _ _) rfl rfl) rfl rfl ?_
    refine sP (opp_cmp rfl rfl rfl rfl) rfl rfl ?_
    refine awp_cond _ rfl (fun ht51 => ?_) (fun ht51 => ?_)
    ·(try simp only [cmpI, errD_nil, qa, qb, qc, qd] at ht51)
     refine awp_seq ?_
     refine awp_draw hmix rfl (by kernel_rfl) ?_
     refine dP (fun _ => false) (opp_loadF rfl (ev_glob hG10) ty35) rfl rfl ?_
     refine dP (fun _ => false) (opp_as (v := .sl _ _ _ _) rfl rfl) rfl rfl ?_
     refine dP (fun _ => false) (opp_as (v := .err _) rfl rfl) rfl rfl ?_
     refine And.intro (by kernel_rfl) ?_
     refine awp_ret ?_
     repeat (first | refine athen_ret ?_ | refine ain_ret ?_)
     refine apost_ret (aend (l := [.sl _ _ _ _, .err _]) (.tmp (.tmp .nil)) (fun h => by cases h) (.cons (.noN rfl rfl) (.cons (.noN rfl rfl) .nil)) ⟨Wk.v ?_, rfl, rfl⟩)
     have h2 : Sp.pack k s id l = ([], Sp.ec 11) := by rw [Sp.pack, if_neg (by simpa using h1), if_neg hid, if_neg hnb, if_pos (by omega)]
     rw [h2]; exact .tup (.cons .sl0 (.cons .refl .nil))
    ·(try simp only [cmpI, errD_nil, qa, qb, qc, qd] at ht51)
     refine awp_skip (awp_seq (awp_region rfl ?_))
     refine sR (opr_callO (rl := [(2, 53)]) (r1 := .ptr _ _ _) (H1 := [(53, some (.agg [.sl _ _ _ _, .err _]))]) (n1 := [53]) rfl rfl ent30 rfl co30 (AViews.refl _ rfl) rfl rfl rfl rfl) rfl rfl rfl ?_
     refine sP (opp_as (v := .ptr _ _ _) rfl rfl) rfl rfl ?_
     refine awp_seq ?_
     refine awp_regionW ?_
     refine alw_step rfl rfl ?_
     refine sP (opp_mv (v := .ptr _ _ _) rfl rfl) rfl rfl ?_
     refine alw_pair 55 rfl rfl rfl rfl rfl rfl rfl eb38 z5 unu8 (by decide) (by decide) rfl rfl (Nat.le_of_ble_eq_true rfl) (Nat.le_of_ble_eq_true rfl) rfl ?_
     refine alw_rest rfl rfl ?_
     refine sR (opr_callG (rl := [(1, 53), (3, 55), (1004, 3001)]) (r1 := .tup []) (H1 := [(53, some (.agg [.osl 3001 _ _ _ _, .err _])), (55, none), (3001, some (.arr _ _ _))]) (n1 := [3001]) rfl rfl ent31 (cg31z 4 _ (by omega) (by omega)) (And.intro (And.intro rfl wka) (And.intro (And.intro rfl wka) True.intro)) (And.intro (And.intro rfl (Exists.intro _ (And.intro rfl wkc))) (And.intro (And.intro rfl (Exists.intro _ (And.intro rfl wkc))) True.intro)) rfl rfl rfl rfl) rfl rfl rfl ?_
     refine awp_seq ?_
     refine awp_wkH 3001 (.arr 1 Sp.fery.length (bAt Sp.fery)) rfl (WkC.arr (n := 4) (fun j hj => by match j, hj with | 0, _ => rfl | 1, _ => rfl | 2, _ => rfl | 3, _ => rfl | j + 4, hj => omega)) ?_
     have hf4 : Sp.fery.length = 4 := rfl
     refine awp_region rfl ?_
     refine sP (opp_mv (v := .ptr _ _ _) rfl rfl) rfl rfl ?_
     refine sR (opr_callG (rl := [(1, 53), (2, 3001), (1004, 3002)]) (r1 := .tup []) (H1 := [(53, some (.agg [.osl 3002 _ _ _ _, .err _])), (3001, none), (3002, some (.arr _ _ _))]) (n1 := [3002]) rfl rfl ent32 (cg32r Sp.fery 1 (by omega) (by omega)) (And.intro (And.intro rfl wka) (And.intro (And.intro rfl wka) True.intro)) (And.intro (And.intro rfl (Exists.intro _ (And.intro rfl wkc))) (And.intro (And.intro rfl (Exists.intro _ (And.intro rfl wkc))) True.intro)) rfl rfl rfl rfl) rfl rfl rfl ?_
     refine awp_seq (awp_region rfl ?_)
     refine sP (opp_mv (v := .ptr _ _ _) rfl rfl) rfl rfl ?_
     refine sP (opp_mv (v := .int _ _) rfl rfl) rfl rfl ?_
     refine sR (opr_callG (rl := [(1, 53), (2, 3002), (1004, 3003)]) (r1 := .tup []) (H1 := [(53, some (.agg [.osl 3003 _ _ _ _, .err _])), (3002, none), (3003, some (.arr _ _ _))]) (n1 := [3003]) rfl rfl ent32 (cg32r (Sp.fery ++ Sp.be 1 2) k.toNat (by omega) (by simp only [List.length_append, Sp.be_length]; omega)) (And.intro (And.intro rfl wka) (And.intro (And.intro rfl (WkV.of (by show AV.int .i64 k = AV.int .i64 ((k.toNat : Nat) : Int); congr 1; omega))) True.intro)) (And.intro (And.intro rfl (Exists.intro _ (And.intro rfl wkc))) (And.intro (And.intro rfl (Exists.intro _ (And.intro rfl wkc))) True.intro)) rfl rfl rfl rfl) rfl rfl rfl ?_
     refine awp_seq (awp_region rfl ?_)
     refine sP (opp_mv (v := .ptr _ _ _) rfl rfl) rfl rfl ?_
     refine sP (opp_mv (v := .int _ _) rfl rfl) rfl rfl ?_
     refine sR (opr_callG (rl := [(1, 53), (2, 3003), (1004, 3004)]) (r1 := .tup []) (H1 := [(53, some (.agg [.osl 3004 _ _ _ _, .err _])), (3003, none), (3004, some (.arr _ _ _))]) (n1 := [3004]) rfl rfl ent33 (cg33r (Sp.fery ++ Sp.be 1 2 ++ Sp.be k.toNat 2) (Sp.size l) (by omega) (by simp only [List.length_append, Sp.be_length]; omega)) (And.intro (And.intro rfl wka) (And.intro (And.intro rfl wka) True.intro)) (And.intro (And.intro rfl (Exists.intro _ (And.intro rfl wkc))) (And.intro (And.intro rfl (Exists.intro _ (And.intro rfl wkc))) True.intro)) rfl rfl rfl rfl) rfl rfl rfl ?_
     refine awp_seq (awp_region rfl ?_)
     refine sP (opp_mv (v := .ptr _ _ _) rfl rfl) rfl rfl ?_
     refine sP (opp_mv (v := .int _ _) rfl rfl) rfl rfl ?_
     refine sP (opp_convInt rfl rfl un45s un3 (w64 (by omega))) rfl rfl ?_
     refine sR (opr_callG (rl := [(1, 53), (2, 3004), (1004, 3005)]) (r1 := .tup []) (H1 := [(53, some (.agg [.osl 3005 _ _ _ _, .err _])), (3004, none), (3005, some (.arr _ _ _))]) (n1 := [3005]) rfl rfl ent33 (cg33r (Sp.fery ++ Sp.be 1 2 ++ Sp.be k.toNat 2 ++ Sp.be (Sp.size l) 4) s.toNat (by omega) (by simp only [List.length_append, Sp.be_length]; omega)) (And.intro (And.intro rfl wka) (And.intro (And.intro rfl wka) True.intro)) (And.intro (And.intro rfl (Exists.intro _ (And.intro rfl wkc))) (And.intro (And.intro rfl (Exists.intro _ (And.intro rfl wkc))) True.intro)) rfl rfl rfl rfl) rfl rfl rfl ?_
     refine awp_seq (awp_region rfl ?_)
     refine sP (opp_mv (v := .ptr _ _ _) rfl rfl) rfl rfl ?_
     refine sP (opp_mv (v := .int _ _) rfl rfl) rfl rfl ?_
     refine sR (opr_callG (rl := [(1, 53), (2, 3005), (1004, 3006)]) (r1 := .tup []) (H1 := [(53, some (.agg [.osl 3006 _ _ _ _, .err _])), (3005, none), (3006, some (.arr _ _ _))]) (n1 := [3006]) rfl rfl ent33 (cg33r (Sp.fery ++ Sp.be 1 2 ++ Sp.be k.toNat 2 ++ Sp.be (Sp.size l) 4 ++ Sp.be s.toNat 4) id.toNat (by omega) (by simp only [List.length_append, Sp.be_length]; omega)) (And.intro (And.intro rfl wka) (And.intro (And.intro rfl (WkV.of (by show AV.int .i64 id = AV.int .i64 ((id.toNat : Nat) : Int); congr 1; omega))) True.intro)) (And.intro (And.intro rfl (Exists.intro _ (And.intro rfl wkc))) (And.intro (And.intro rfl (Exists.intro _ (And.intro rfl wkc))) True.intro)) rfl rfl rfl rfl) rfl rfl rfl ?_
     refine awp_seq (awp_seq (awp_region rfl ?_))
     refine sP (opp_mv (v := .sl _ _ _ _) rfl rfl) rfl rfl ?_
     refine sP (opp_lenSl rfl rfl un24) rfl rfl ?_
     refine sP (opp_mv (v := .int _ _) rfl rfl) rfl rfl ?_
     refine awp_block ?_
     refine awp_loopK (ι := Nat) (fun i => i ≤ l.length) (fun i => [(16, .top), (75, .int .i64 (i : Int)), (76, .top), (77, .top), (78, .top), (79, .top), (80, .top), (81, .top), (82, .top), (83, .top), (84, .top), (85, .top)]) (fun i => [(53, some (.agg [.osl 1004 1 0 (hdr k s id l ++ Sp.recBytes (l.take i)).length (hdr k s id l ++ Sp.recBytes (l.take i)).length, .err .nil])), (3006, none), (1004, some (.arr 1 (hdr k s id l ++ Sp.recBytes (l.take i)).length (bAt (hdr k s id l ++ Sp.recBytes (l.take i)))))]) [1004] (fun i => l.length - i) (0) (Nat.zero_le _) (by
      refine imp_over [(1004, 3006)] rfl rfl (by kernel_rfl) ?_ ?_
      ·iterate 12 refine And.intro wkv ?_
       exact True.intro
      ·refine And.intro (And.intro rfl (And.intro rfl (Exists.intro _ (And.intro rfl (by exact WkC.of (by show AV.agg [AV.osl 3006 1 0 _ _, AV.err .nil] = AV.agg [AV.osl 3006 1 0 _ _, AV.err .nil]; simp [hdr, Sp.recBytes])))))) ?_
       refine And.intro (And.intro rfl (And.intro rfl (Exists.intro _ (And.intro rfl (by exact WkC.of (by show AV.arr 1 _ _ = AV.arr 1 _ _; simp [hdr, Sp.recBytes])))))) ?_
       exact True.intro
      ) ?_
     intro i hi2
     refine awp_seq (awp_region rfl ?_)
     refine sP (opp_cmp rfl rfl rfl rfl) rfl rfl ?_
     refine awp_seq ?_
     refine awp_cond _ rfl (fun ht76 => ?_) (fun ht76 => ?_)
     ·(try simp only [cmpI, errD_nil, qa, qb, qc, qd] at ht76)
      refine awp_skip (awp_seq (awp_block (awp_seq (awp_region rfl ?_))))
      refine sP (opp_indexSl rfl rfl rfl el24 (by omega) (by omega)) rfl rfl ?_
      refine sP (opp_loadF rfl rfl ty40) rfl rfl ?_
      refine sR (opr_alloc (n := 16) rfl z40) rfl rfl rfl ?_
      refine sR0 (opr_store (v := .agg _) (trn := (.agg _)) rfl rfl rfl rfl bi rfl rfl rfl rfl fr2 ty40 (fun _ _ h => h)) rfl rfl rfl ?_
      have hrt := hgt.2 (l.getD i rcD) (by rw [List.getD_eq_getElem?_getD, List.getElem?_eq_getElem (by omega)]; exact List.getElem_mem _)
      have hrb := hi1.2 i (by omega)
      have hln : (hdr k s id l ++ Sp.recBytes (l.take i)).length ≤ 4096 := by have := size_mono l i (by omega); rw [List.length_append, hdr_len]; omega
      refine awp_region rfl ?_
      refine sP (opp_mv (v := .ptr _ _ _) rfl rfl) rfl rfl ?_
      refine sP (opp_fieldP rfl rfl fld40_0 rfl) rfl rfl ?_
      refine sP (opp_loadP rfl rfl rfl rfl bi rfl ty3) rfl rfl ?_
      refine sP (opp_fieldP rfl rfl fld40_1 rfl) rfl rfl ?_
      refine sP (opp_loadP rfl rfl rfl rfl bi rfl ty38) rfl rfl ?_
      refine sR (opr_callG (rl := [(1, 53), (2, 1004), (1004, 3010)]) (r1 := .tup []) (H1 := [(53, some (.agg [.osl 3010 _ _ _ _, .err _])), (1004, none), (3010, some (.arr _ _ _))]) (n1 := [3010]) rfl rfl ent34 (cg34r (hdr k s id l ++ Sp.recBytes (l.take i)) (l.getD i rcD).body (l.getD i rcD).tag.toNat (l.getD i rcD).nn (by omega) (by omega) hrb (by omega)) (And.intro (And.intro rfl wka) (And.intro (And.intro rfl (WkV.of (by show AV.int .i64 (l.getD i rcD).tag = AV.int .i64 (((l.getD i rcD).tag.toNat : Nat) : Int); congr 1; omega))) (And.intro (And.intro rfl wka) True.intro))) (And.intro (And.intro rfl (Exists.intro _ (And.intro rfl wkc))) (And.intro (And.intro rfl (Exists.intro _ (And.intro rfl wkc))) True.intro)) rfl rfl rfl rfl) rfl rfl rfl ?_
      refine awp_region rfl ?_
      refine sP (opp_arith rfl rfl rfl (.inl ⟨rfl, w64 (by omega)⟩)) rfl rfl ?_
      refine sP (opp_mv (v := .int _ _) rfl rfl) rfl rfl ?_
      refine Exists.intro (i + 1) (And.intro (And.intro (by omega) (by first | omega | (dsimp only; omega))) (by
       refine imp_over [(1004, 3010)] rfl rfl (by kernel_rfl) ?_ ?_
       ·iterate 12 refine And.intro wkv ?_
        exact True.intro
       ·refine And.intro (And.intro rfl (And.intro rfl (Exists.intro _ (And.intro rfl (by exact WkC.of (by show AV.agg [AV.osl 3010 1 0 _ _, AV.err .nil] = AV.agg [AV.osl 3010 1 0 _ _, AV.err .nil]; rw [recBytes_take l i (by omega), List.append_assoc])))))) ?_
        refine And.intro (And.intro rfl (And.intro rfl (Exists.intro _ (And.intro rfl (by exact WkC.of (by show AV.arr 1 _ _ = AV.arr 1 _ _; rw [recBytes_take l i (by omega), List.append_assoc])))))) ?_
        exact True.intro
       ))
     ·(try simp only [cmpI, errD_nil, qa, qb, qc, qd] at ht76)
      refine awp_exit (awp_seq ?_)
      have hie : i = l.length := by omega
      subst hie
      rw [show l.take l.length = l from List.take_length, hdr_img]
      have hil := Sp.img_length k s id l
      have hse := Sp.size_eq l
      refine awp_region rfl ?_
      refine sP (opp_mv (v := .ptr _ _ _) rfl rfl) rfl rfl ?_
      refine sR (opr_callG (rl := [(1, 53), (2, 1004)]) (r1 := .tup [.sl _ _ _ _, .err _]) (H1 := [(53, some (.agg [.osl 1004 _ _ _ _, .err _])), (1004, some (.arr _ _ _))]) (n1 := []) rfl rfl ent35 (cg35r (Sp.imgBytes k s id l) (by omega)) (And.intro (And.intro rfl wka) True.intro) (And.intro (And.intro rfl (Exists.intro _ (And.intro rfl wkc))) (And.intro (And.intro rfl (Exists.intro _ (And.intro rfl wkc))) True.intro)) rfl rfl rfl rfl) rfl rfl rfl ?_
      refine sP (opp_mv (v := .tup _) rfl rfl) rfl rfl ?_
      refine sP (opp_extract rfl rfl rfl) rfl rfl ?_
      refine sP (opp_extract rfl rfl rfl) rfl rfl ?_
      refine sP (opp_as (v := .sl _ _ _ _) rfl rfl) rfl rfl ?_
      refine sP (opp_as (v := .err _) rfl rfl) rfl rfl ?_
      refine awp_seq (awp_seq (awp_region rfl ?_))
      refine sP (opp_mv (v := .err _) rfl rfl) rfl rfl ?_
      refine sP (opp_errNil rfl rfl rfl un35 (.inr ⟨rfl, rfl⟩)) rfl rfl ?_
      refine awp_cond _ rfl (fun ht92 => ?_) (fun ht92 => ?_)
      ·(try simp only [cmpI, errD_nil, qa, qb, qc, qd] at ht92)
       exfalso; simp [ErrD.isNil] at ht92
      ·(try simp only [cmpI, errD_nil, qa, qb, qc, qd] at ht92)
       refine awp_skip (awp_seq (awp_region rfl ?_))
       refine sP (opp_mv (v := .sl _ _ _ _) rfl rfl) rfl rfl ?_
       refine sR (opr_call rfl rfl ent36 rfl (c36 (Sp.imgBytes k s id l) (by omega)) (AViews.refl _ rfl)) rfl rfl rfl ?_ -- d=95 t=38 a=94
       refine sP (opp_as (v := .sl _ _ _ _) rfl rfl) rfl rfl ?_
       refine sP (opp_as (v := .err _) rfl rfl) rfl rfl ?_
       refine awp_ret ?_
       repeat (first | refine athen_ret ?_ | refine ain_ret ?_)
       refine apost_ret (aend (l := [.sl _ _ _ _, .err _]) (.tmp (.tmp .nil)) (fun h => by cases h) (.cons (.noN rfl rfl) (.cons (.noN rfl rfl) .nil)) ⟨Wk.v ?_, rfl, rfl⟩)
       have h2 : Sp.pack k s id l = (Sp.crcSeal (Sp.imgBytes k s id l), Sp.e0) := by rw [Sp.pack, if_neg (by simpa using h1), if_neg hid, if_neg hnb, if_neg (by omega)]
       rw [h2]; exact .refl
end
end Go.Proofs.YtpmgdmbcdohgcaaDoor
/- Plain Lean: the state that records say (my own text; no program in sight). -/
set_option linter.unusedSimpArgs false
namespace Go.Fy
structure Pr where
  regs : List Nat
  pc : Nat
  state : Nat
  prio : Nat
  wait : Nat
  obj : Nat
def prAV (p : Pr) : AV := .agg [.arr 1 16 (fun j => .int .u32 ((p.regs.getD j 0 : Nat) : Int)), .int .u32 (p.pc : Int), .int .i64 (p.state : Int), .int .i64 (p.prio : Int), .int .i64 (p.wait : Int), .int .i64 (p.obj : Int)]
structure Pt where
  msgs : List (List UInt8)
  age : Nat
def ptAV (p : Pt) : AV := .agg [.sl 1 (decide (p.msgs = [])) p.msgs.length (strAt p.msgs), .int .i64 (p.age : Int)]
structure Pg where
  dirty : Bool
  data : List UInt8
def pgAV (g : Pg) : AV := .agg [.int .i64 0, .bool g.dirty, .arr 1 64 (bAt g.data)]
structure Sta where
  frame : Nat
  epoch : Nat
  procs : List Pr
  ready : List Nat
  timers : List (Nat × Nat)
  up : List Bool
  sems : List Nat
  ports : List Pt
  pages : List Pg
def pr0 : Pr := ⟨[], 0, 0, 0, 0, 0⟩
def pt0 : Pt := ⟨[], 0⟩
def pg0 : Pg := ⟨false, []⟩
def sta0 : Sta := ⟨0, 0, [], [], [], [], [], [], []⟩
def prAt (l : List Pr) (j : Nat) : AV := prAV (l.getD j pr0)
def ptAt (l : List Pt) (j : Nat) : AV := ptAV (l.getD j pt0)
def pgAt (l : List Pg) (j : Nat) : AV := pgAV (l.getD j pg0)
def natAt (l : List Nat) (j : Nat) : AV := .int .i64 ((l.getD j 0 : Nat) : Int)
def boolAt (l : List Bool) (j : Nat) : AV := .bool (l.getD j false)
def tmAt (l : List (Nat × Nat)) (j : Nat) : AV := .agg [.int .i64 (((l.getD j (0, 0)).1 : Nat) : Int), .int .i64 (((l.getD j (0, 0)).2 : Nat) : Int)]
def staAV (s : Sta) : AV := .agg [.int .i64 0, .int .i64 (s.frame : Int), .int .i64 (s.epoch : Int), rowV 21 s.procs.length (prAt s.procs), rowV 1 s.ready.length (natAt s.ready), rowV 2 s.timers.length (tmAt s.timers),
  rowV 1 s.up.length (boolAt s.up), rowV 1 s.sems.length (natAt s.sems), rowV 2 s.ports.length (ptAt s.ports), rowV 66 s.pages.length (pgAt s.pages)]
namespace Sp
/-- The messages of a port's bytes, from a place on; did they end just there? -/
def msgsQ (b : List UInt8) : Nat → Nat → List (List UInt8) → List (List UInt8) × Bool
  | 0, a, acc => (acc, decide (a = b.length))
  | n + 1, a, acc => if b.length ≤ a then (acc, false) else if b.length < a + 1 + fld b a 1 then (acc, false) else msgsQ b n (a + 1 + fld b a 1) (acc ++ [(b.drop (a + 1)).take (fld b a 1)])
def portQ (b : List UInt8) : Pt × Bool := if b.length < 2 then (⟨[], 0⟩, false) else (⟨(msgsQ b (fld b 1 1) 2 []).1, fld b 0 1⟩, (msgsQ b (fld b 1 1) 2 []).2)
def long (r : Rc) : Bool :=
  if r.tag = 1 ∨ r.tag = 2 then decide (r.body.length = 8) else if r.tag = 3 then decide (r.body.length = 68) else if r.tag = 5 then decide (r.body.length % 5 = 0)
  else if r.tag = 9 ∨ r.tag = 10 then decide (r.body.length = 65) else if r.tag = 8 then (portQ r.body).2 else true
def flags (r : Rc) : Bool := if r.tag = 9 then decide ((r.body.getD 0 0).toNat ≤ 1) else if r.tag = 6 then r.body.all fun c => decide (c.toNat ≤ 1) else true
def proc (b : List UInt8) : Pr := ⟨0 :: (List.range 15).map fun i => fld b (4 * i) 4, fld b 60 4, fld b 64 1, fld b 65 1, fld b 66 1, fld b 67 1⟩
def nums (b : List UInt8) : List Nat := b.map (·.toNat)
def timersOf (b : List UInt8) : List (Nat × Nat) := (List.range (b.length / 5)).map fun i => (fld b (5 * i) 1, fld b (5 * i + 1) 4)
def page (b : List UInt8) : Pg := ⟨decide ((b.getD 0 0).toNat = 1), b.drop 1⟩
def putR (s : Sta) (r : Rc) : Sta :=
  if r.tag = 1 then { s with frame := fld r.body 0 4, epoch := fld r.body 4 4 } else if r.tag = 3 then { s with procs := s.procs ++ [proc r.body] } else if r.tag = 4 then { s with ready := nums r.body }
  else if r.tag = 5 then { s with timers := timersOf r.body } else if r.tag = 6 then { s with up := r.body.map fun c => decide (c.toNat = 1) } else if r.tag = 7 then { s with sems := nums r.body }
  else if r.tag = 8 then { s with ports := s.ports ++ [(portQ r.body).1] } else if r.tag = 9 then { s with pages := s.pages ++ [page r.body] } else s
/-- The first record that is not right. -/
def wrong : List Rc → Nat → Er
  | [], _ => e0
  | r :: l, i => if long r = false then ea 5 i else if flags r = false then ea 4 i else wrong l (i + 1)
def fill (l : List Rc) : Sta × Er := if (wrong l 0).code ≠ 0 then (sta0, wrong l 0) else (l.foldl putR sta0, e0)
end Sp
end Go.Fy
