/- Layer 22: XferComes: pieces in any order, each any number of times: true (walks over this dump). -/
import Derived.Test.YtgaihhimkodmmaaDoorKFx
import Derived.Test.YtgaihhimkodmmaaDoorS3
namespace Go.Proofs.YtgaihhimkodmmaaDoor
attribute [local irreducible] Tryd.prog
open Go.Fy
set_option linter.unusedSimpArgs false
section
variable {ea : Nat → Addr} {cds : List Nat} {gl : Nat → Option AV} {p : Int} {x : Xid} {st : Int} {im : List UInt8}
theorem fx20 (h : Sp.Fine p x st im) (b : Bool) (hG2 : gl 2 = some (.err (.code 12))) (hG6 : gl 6 = some (.err (.code 11))) : APure (V ea cds gl) 20 [.int .i64 p, xidAV x, .int .i64 st, .sl 1 b im.length (bAt im)] false (.tup [sendAV false (Sp.fresh p x st im), .err .nil]) := by
  have h1 := c20 (ea := ea) (cds := cds) (gl := gl) p x st b im hG2 hG6
  rw [h.start] at h1; exact h1
theorem fx21 (h : Sp.Fine p x st im) (hG2 : gl 2 = some (.err (.code 12))) (hG6 : gl 6 = some (.err (.code 11))) (hG3 : gl 3 = some (.err (.code 9))) : APure (V ea cds gl) 21 [sendAV false (Sp.fresh p x st im)] false (.tup [.sl 10 false (Sp.total im) (noAt (Sp.notes p x st im)), .err .nil]) := by
  have h1 := c21 (ea := ea) (cds := cds) (gl := gl) false (Sp.fresh p x st im) hG2 hG6 hG3
  have hne : Sp.notes p x st im ≠ [] := fun e => by have := congrArg List.length e; rw [Sp.notes_length] at this; have := h.tot; simp at *; omega
  rw [h.due] at h1
  simp only [decide_eq_false hne, Sp.notes_length] at h1
  exact h1
theorem fx22 (h : Sp.Fine p x st im) (came : List Bool) (hl : came.length = Sp.total im) (k : Nat) (hk : k < Sp.total im) (hG3 : gl 3 = some (.err (.code 9))) (hG4 : gl 4 = some (.err (.code 7))) (hG5 : gl 5 = some (.err (.code 10))) (hG2 : gl 2 = some (.err (.code 12))) (hG7 : gl 7 = some (.err (.code 14))) (hG8 : gl 8 = some (.err (.code 4))) :
    APure (V ea cds gl) 22 [recvAV (!came.any id) (Sp.recvOf p x st im came), noAt (Sp.notes p x st im) k] false (.tup [recvAV false (Sp.recvOf p x st im (came.set k true)), noteAV (Sp.ackOf p x st im k), .err .nil]) := by
  have h2 := h.tot
  have h1 := c22 (ea := ea) (cds := cds) (gl := gl) (!came.any id) (Sp.recvOf p x st im came) (Sp.cutNote p x st im k k (Sp.total im)) (by have := Sp.recvOf_len (p := p) (x := x) (st := st) (im := im) came; omega) (Sp.recvOf_nil came) hG3 hG4 hG5 hG2 hG7 hG8
  rw [h.take came hl k hk] at h1
  rw [noAt, Sp.notes_get p x st im k hk]
  exact h1
set_option maxRecDepth 100000 in
theorem xcFine (b b2 : Bool) (im : List UInt8) (ord : List Int) (h0 : im.length ≤ 281474976710656) (h1 : ord.length ≤ 281474976710656) (hF : Sp.Fine 1 ⟨1, 2, 5⟩ 2 im) (hG3 : gl 3 = some (.err (.code 9))) (hG4 : gl 4 = some (.err (.code 7))) (hG5 : gl 5 = some (.err (.code 10))) (hG2 : gl 2 = some (.err (.code 12))) (hG7 : gl 7 = some (.err (.code 14))) (hG8 : gl 8 = some (.err (.code 4))) (hG6 : gl 6 = some (.err (.code 11))) :
    APure (V ea cds gl) 4 [.sl 1 b im.length (bAt im), .sl 1 b2 ord.length (iAt ord)] false (.bool true) := by
  have ht := hF.tot
  have hf := hF.lo
  have hf2 := hF.hi
  refine acalls_of_body (N := 156) Tryd.func4 rfl rfl (Nat.le_of_ble_eq_true rfl) fun C hV hN hM hO => ?_
  obtain ⟨_, _, w0, G0, σ0, _, own0⟩ := C; dsimp only at hV hN hM hO; subst hV; subst hN; subst hM
  refine awp_seq ?_
  refine awp_region rfl ?_
  refine sP (opp_as (v := .bool _) rfl rfl) rfl rfl ?_
  refine awp_seq ?_
  refine awp_seq ?_
  refine awp_region rfl ?_
  refine sR (opr_call rfl rfl ent19 rfl (c19 hG3 hG4 hG5 hG2 hG7 hG8 hG6) (AViews.refl _ rfl)) rfl rfl rfl ?_ -- d=18 t=4
  refine sP (opp_not rfl rfl) rfl rfl ?_
  refine awp_cond _ rfl (fun hc3 => ?_) (fun hc3 => ?_)
  · try simp only [cmpI, errD_nil, Bool.not_eq_true', Bool.not_eq_false', decide_eq_true_eq, decide_eq_false_iff_not] at hc3; have ht19 := hc3
    cases ht19
  · try simp only [cmpI, errD_nil, Bool.not_eq_true', Bool.not_eq_false', decide_eq_true_eq, decide_eq_false_iff_not] at hc3; have ht19 := hc3
    refine awp_skip ?_
    refine awp_seq ?_
    refine awp_region rfl ?_
    refine sP (opp_build rfl z23 bld23 rfl [.int _ _, .int _ _, .int _ _] rfl) rfl rfl ?_
    first
      | refine sP (opp_mv (v := .sl _ _ _ _) rfl rfl) rfl rfl ?_
      | refine sP (opp_mv (v := .osl _ _ _ _ _) rfl rfl) rfl rfl ?_
    refine sR (opr_call rfl rfl ent20 rfl (fx20 hF b hG2 hG6) (AViews.refl _ rfl)) rfl rfl rfl ?_ -- d=23 t=46
    refine sP (opp_mv (v := .tup _) rfl rfl) rfl rfl ?_
    refine sP (opp_extract rfl rfl rfl) rfl rfl ?_
    refine sP (opp_extract rfl rfl rfl) rfl rfl ?_
    refine sR (opr_alloc (n := 5) rfl z45) rfl rfl rfl ?_
    refine sR0 (opr_store (v := .agg _) (trn := (.agg _)) rfl rfl rfl rfl bi rfl rfl rfl rfl fr2 ty45 (fun _ _ h => h)) rfl rfl rfl ?_
    refine sP (opp_as (v := .err _) rfl rfl) rfl rfl ?_
    refine awp_seq ?_
    refine awp_seq ?_
    refine awp_region rfl ?_
    refine sP (opp_mv (v := .err _) rfl rfl) rfl rfl ?_
    refine sP (opp_errNil rfl rfl rfl un29 (.inr ⟨rfl, rfl⟩)) rfl rfl ?_
    refine awp_cond _ rfl (fun hc6 => ?_) (fun hc6 => ?_)
    · try simp only [cmpI, errD_nil, Bool.not_eq_true', Bool.not_eq_false', decide_eq_true_eq, decide_eq_false_iff_not] at hc6; have ht27 := hc6
      cases ht27
    · try simp only [cmpI, errD_nil, Bool.not_eq_true', Bool.not_eq_false', decide_eq_true_eq, decide_eq_false_iff_not] at hc6; have ht27 := hc6
      refine awp_skip ?_
      refine awp_seq ?_
      refine awp_region rfl ?_
      first
        | refine sP (opp_loadP rfl rfl rfl rfl bi rfl ty45) rfl rfl ?_
        | refine sP (opp_loadF rfl rfl ty45) rfl rfl ?_
      refine sR (opr_call rfl rfl ent21 rfl (fx21 hF hG2 hG6 hG3) (AViews.refl _ rfl)) rfl rfl rfl ?_ -- d=38 t=49
      refine sP (opp_mv (v := .tup _) rfl rfl) rfl rfl ?_
      refine sP (opp_extract rfl rfl rfl) rfl rfl ?_
      refine sP (opp_extract rfl rfl rfl) rfl rfl ?_
      first
        | refine sP (opp_as (v := .sl _ _ _ _) rfl rfl) rfl rfl ?_
        | refine sP (opp_as (v := .osl _ _ _ _ _) rfl rfl) rfl rfl ?_
      refine sP (opp_as (v := .err _) rfl rfl) rfl rfl ?_
      refine awp_seq ?_
      refine awp_seq ?_
      refine awp_region rfl ?_
      refine sP (opp_mv (v := .err _) rfl rfl) rfl rfl ?_
      refine sP (opp_errNil rfl rfl rfl un29 (.inr ⟨rfl, rfl⟩)) rfl rfl ?_
      refine sP (opp_mv (v := .bool _) rfl rfl) rfl rfl ?_
      first
        | refine sG _ rfl rfl rfl rfl (fun hg => (And.intro gi (True.intro))) (fun hg => opp_mv (v := .sl _ _ _ _) rfl rfl) ?_
        | refine sG _ rfl rfl rfl rfl (fun hg => (And.intro gi (True.intro))) (fun hg => opp_mv (v := .osl _ _ _ _ _) rfl rfl) ?_
      first
        | refine sG _ rfl rfl rfl rfl (fun hg => (And.intro gi (True.intro))) (fun hg => opp_lenSl rfl rfl un48) ?_
        | refine sG _ rfl rfl rfl rfl (fun hg => (And.intro gi (True.intro))) (fun hg => opp_lenOsl rfl rfl un48) ?_
      first
        | refine sG _ rfl rfl rfl rfl (fun hg => (And.intro gi (True.intro))) (fun hg => opp_mv (v := .sl _ _ _ _) rfl rfl) ?_
        | refine sG _ rfl rfl rfl rfl (fun hg => (And.intro gi (True.intro))) (fun hg => opp_mv (v := .osl _ _ _ _ _) rfl rfl) ?_
      first
        | refine sG _ rfl rfl rfl rfl (fun hg => (And.intro gi (True.intro))) (fun hg => opp_lenSl rfl rfl un36) ?_
        | refine sG _ rfl rfl rfl rfl (fun hg => (And.intro gi (True.intro))) (fun hg => opp_lenOsl rfl rfl un36) ?_
      first
        | refine sG _ rfl rfl rfl rfl (fun hg => (And.intro gi (And.intro gi (True.intro)))) (fun hg => opp_arith rfl rfl rfl (.inl ⟨rfl, w64 (by omega)⟩)) ?_
        | refine sG _ rfl rfl rfl rfl (fun hg => (And.intro gi (And.intro gi (True.intro)))) (fun hg => opp_arith rfl rfl rfl (.inl ⟨rfl, rfl⟩)) ?_
      refine sG _ rfl rfl rfl rfl (fun hg => (And.intro gi (And.intro gi (True.intro)))) (fun hg => opp_arith rfl rfl rfl (.inr <| .inr <| .inr <| .inl ⟨rfl, by omega, rfl⟩)) ?_
      refine sG _ rfl rfl rfl rfl (fun hg => (And.intro gi (And.intro gi (True.intro)))) (fun hg => opp_cmp rfl rfl rfl rfl) ?_
      refine sPick rfl rfl rfl rfl (by exact True.intro) rfl rfl (fun hg => gi) (fun hg => gi) ?_
      refine awp_cond _ rfl (fun hc9 => ?_) (fun hc9 => ?_)
      · try simp only [cmpI, errD_nil, Bool.not_eq_true', Bool.not_eq_false', decide_eq_true_eq, decide_eq_false_iff_not] at hc9; have ht51 := hc9
        exfalso
        have e : IntKind.i64.wrap (((im.length : Int) + 127).tdiv 128) = (Sp.total im : Int) := by rw [Int.tdiv_eq_ediv_of_nonneg (by omega), w64 (by omega)]; unfold Sp.total; omega
        rw [e] at ht51; simp [ErrD.isNil] at ht51
      · try simp only [cmpI, errD_nil, Bool.not_eq_true', Bool.not_eq_false', decide_eq_true_eq, decide_eq_false_iff_not] at hc9; have ht51 := hc9
        refine awp_skip ?_
        refine awp_seq ?_
        refine awp_region rfl ?_
        refine sR (opr_alloc (n := 8) rfl z55) rfl rfl rfl ?_
        refine awp_seq ?_
        refine awp_region rfl ?_
        first
          | refine sP (opp_mv (v := .sl _ _ _ _) rfl rfl) rfl rfl ?_
          | refine sP (opp_mv (v := .osl _ _ _ _ _) rfl rfl) rfl rfl ?_
        first
          | refine sP (opp_lenSl rfl rfl un48) rfl rfl ?_
          | refine sP (opp_lenOsl rfl rfl un48) rfl rfl ?_
        refine sR (opr_make (n := 54) rfl rfl rfl eb43 z4 (by omega) (by omega) (by omega) (by omega)) rfl rfl rfl ?_
        first
          | refine sP (opp_as (v := .sl _ _ _ _) rfl rfl) rfl rfl ?_
          | refine sP (opp_as (v := .osl _ _ _ _ _) rfl rfl) rfl rfl ?_
        refine awp_seq ?_
        refine awp_region rfl ?_
        first
          | refine sP (opp_mv (v := .sl _ _ _ _) rfl rfl) rfl rfl ?_
          | refine sP (opp_mv (v := .osl _ _ _ _ _) rfl rfl) rfl rfl ?_
        first
          | refine sP (opp_lenSl rfl rfl un48) rfl rfl ?_
          | refine sP (opp_lenOsl rfl rfl un48) rfl rfl ?_
        refine sP (opp_as (v := .int _ _) rfl rfl) rfl rfl ?_
        refine awp_seq ?_
        refine awp_seq ?_
        refine awp_region rfl ?_
        first
          | refine sP (opp_mv (v := .sl _ _ _ _) rfl rfl) rfl rfl ?_
          | refine sP (opp_mv (v := .osl _ _ _ _ _) rfl rfl) rfl rfl ?_
        first
          | refine sP (opp_lenSl rfl rfl un42) rfl rfl ?_
          | refine sP (opp_lenOsl rfl rfl un42) rfl rfl ?_
        refine sP (opp_mv (v := .int _ _) rfl rfl) rfl rfl ?_
        refine awp_block ?_
        refine awp_loopK (ι := Nat × List Bool) (fun p => p.1 ≤ ord.length ∧ p.2.length = Sp.total im) (fun p => [(4, .top), (10, .int .i64 (Sp.leftOf p.2)), (12, .top), (13, .top), (14, .top), (15, .top), (16, .top), (17, .top), (59, .int .i64 p.1), (60, .top), (61, .top), (62, .top), (63, .top), (64, .top), (65, .top), (66, .top), (67, .top), (68, .top), (69, .top), (70, .top), (71, .top), (72, .top), (73, .top), (74, .top), (75, .top), (76, .top), (77, .top), (78, .top), (79, .top), (80, .top), (81, .top), (82, .top), (83, .top), (84, .top), (85, .top), (86, .top), (87, .top), (88, .top), (89, .top), (90, .top), (91, .top), (92, .top), (93, .top), (94, .top), (95, .top), (96, .top), (97, .top), (98, .top), (99, .top), (100, .top), (101, .top), (102, .top), (103, .top), (104, .top), (105, .top), (106, .top), (107, .top), (108, .top), (109, .top), (110, .top), (111, .top), (112, .top), (113, .top), (114, .top), (115, .top), (116, .top), (117, .top), (118, .top), (119, .top), (120, .top), (121, .top), (122, .top), (123, .top), (124, .top), (125, .top), (126, .top), (127, .top), (128, .top), (129, .top), (130, .top), (131, .top), (132, .top), (133, .top), (134, .top), (135, .top), (136, .top), (137, .top), (138, .top), (139, .top), (140, .top), (141, .top), (142, .top), (143, .top), (144, .top), (145, .top), (146, .top), (147, .top), (148, .top), (149, .top), (150, .top), (151, .top), (152, .top), (153, .top), (154, .top), (155, .top)]) (fun p => [(8, some (recvAV (!p.2.any id) (Sp.recvOf 1 ⟨1, 2, 5⟩ 2 im p.2))), (54, some (.arr 1 (Sp.total im) (blAt p.2)))]) [] (fun p => ord.length - p.1) ((0, List.replicate (Sp.total im) false)) (⟨Nat.zero_le _, by simp⟩) (by
          refine imp_over [] rfl rfl (by kernel_rfl) ?_ ?_
          · refine And.intro wkv ?_
            refine And.intro (by exact Or.inr (And.intro rfl (WkV.of (by show AV.int _ _ = AV.int _ _; rw [Sp.leftOf_replicate])))) ?_
            refine And.intro wkv ?_
            refine And.intro wkv ?_
            refine And.intro wkv ?_
            refine And.intro wkv ?_
            refine And.intro wkv ?_
            refine And.intro wkv ?_
            refine And.intro wkv ?_
            refine And.intro wkv ?_
            refine And.intro wkv ?_
            refine And.intro wkv ?_
            refine And.intro wkv ?_
            refine And.intro wkv ?_
            refine And.intro wkv ?_
            refine And.intro wkv ?_
            refine And.intro wkv ?_
            refine And.intro wkv ?_
            refine And.intro wkv ?_
            refine And.intro wkv ?_
            refine And.intro wkv ?_
            refine And.intro wkv ?_
            refine And.intro wkv ?_
            refine And.intro wkv ?_
            refine And.intro wkv ?_
            refine And.intro wkv ?_
            refine And.intro wkv ?_
            refine And.intro wkv ?_
            refine And.intro wkv ?_
            refine And.intro wkv ?_
            refine And.intro wkv ?_
            refine And.intro wkv ?_
            refine And.intro wkv ?_
            refine And.intro wkv ?_
            refine And.intro wkv ?_
            refine And.intro wkv ?_
            refine And.intro wkv ?_
            refine And.intro wkv ?_
            refine And.intro wkv ?_
            refine And.intro wkv ?_
            refine And.intro wkv ?_
            refine And.intro wkv ?_
            refine And.intro wkv ?_
            refine And.intro wkv ?_
            refine And.intro wkv ?_
            refine And.intro wkv ?_
            refine And.intro wkv ?_
            refine And.intro wkv ?_
            refine And.intro wkv ?_
            refine And.intro wkv ?_
            refine And.intro wkv ?_
            refine And.intro wkv ?_
            refine And.intro wkv ?_
            refine And.intro wkv ?_
            refine And.intro wkv ?_
            refine And.intro wkv ?_
            refine And.intro wkv ?_
            refine And.intro wkv ?_
            refine And.intro wkv ?_
            refine And.intro wkv ?_
            refine And.intro wkv ?_
            refine And.intro wkv ?_
            refine And.intro wkv ?_
            refine And.intro wkv ?_
            refine And.intro wkv ?_
            refine And.intro wkv ?_
            refine And.intro wkv ?_
            refine And.intro wkv ?_
            refine And.intro wkv ?_
            refine And.intro wkv ?_
            refine And.intro wkv ?_
            refine And.intro wkv ?_
            refine And.intro wkv ?_
            refine And.intro wkv ?_
            refine And.intro wkv ?_
            refine And.intro wkv ?_
            refine And.intro wkv ?_
            refine And.intro wkv ?_
            refine And.intro wkv ?_
            refine And.intro wkv ?_
            refine And.intro wkv ?_
            refine And.intro wkv ?_
            refine And.intro wkv ?_
            refine And.intro wkv ?_
            refine And.intro wkv ?_
            refine And.intro wkv ?_
            refine And.intro wkv ?_
            refine And.intro wkv ?_
            refine And.intro wkv ?_
            refine And.intro wkv ?_
            refine And.intro wkv ?_
            refine And.intro wkv ?_
            refine And.intro wkv ?_
            refine And.intro wkv ?_
            refine And.intro wkv ?_
            refine And.intro wkv ?_
            refine And.intro wkv ?_
            refine And.intro wkv ?_
            refine And.intro wkv ?_
            refine And.intro wkv ?_
            refine And.intro wkv ?_
            refine And.intro wkv ?_
            refine And.intro wkv ?_
            refine And.intro wkv ?_
            refine And.intro wkv ?_
            exact True.intro
          · refine And.intro (And.intro rfl (And.intro rfl (Exists.intro _ (And.intro rfl (by have e : Sp.recvOf 1 ⟨1, 2, 5⟩ 2 im (List.replicate (Sp.total im) false) = Sp.zeroR := (by rw [Sp.recvOf, Sp.any_replicate]; rfl); show WkC _ (recvAV _ _); rw [e, Sp.any_replicate]; exact Wk.c wkt))))) ?_
            refine And.intro (And.intro rfl (And.intro rfl (Exists.intro _ (And.intro rfl (by exact WkC.arr (fun j hj => by simp only [blAt, List.getD_eq_getElem?_getD, List.getElem?_replicate]; split <;> rfl)))))) ?_
            exact True.intro
          ) ?_
        intro p hi1; obtain ⟨i, came⟩ := p; dsimp only at hi1 ⊢; have hl := hi1.2; have hlo := Sp.leftOf_le came
        refine awp_seq ?_
        refine awp_region rfl ?_
        refine sP (opp_cmp rfl rfl rfl rfl) rfl rfl ?_
        refine awp_seq ?_
        refine awp_cond _ rfl (fun hc15 => ?_) (fun hc15 => ?_)
        · try simp only [cmpI, errD_nil, Bool.not_eq_true', Bool.not_eq_false', decide_eq_true_eq, decide_eq_false_iff_not] at hc15; have ht60 := hc15
          refine awp_skip ?_
          refine awp_seq ?_
          refine awp_block ?_
          refine awp_seq ?_
          refine awp_region rfl ?_
          first
            | refine sP (opp_indexSl rfl rfl rfl el42 (by omega) (by omega)) rfl rfl ?_
            | refine sP (opp_indexOsl0 rfl rfl rfl el42 (by omega) (by omega)) rfl rfl ?_
            | refine sP (opp_indexOsl rfl rfl rfl el42 (by omega) (by omega)) rfl rfl ?_
          first
            | refine sP (opp_loadP rfl rfl rfl rfl bi rfl ty3) rfl rfl ?_
            | refine sP (opp_loadF rfl rfl ty3) rfl rfl ?_
          refine sP (opp_as (v := .int _ _) rfl rfl) rfl rfl ?_
          refine awp_seq ?_
          refine awp_seq ?_
          generalize ord.getD (Int.toNat (i : Int)) 0 = o
          refine awp_region rfl ?_
          refine sP (opp_mv (v := .int _ _) rfl rfl) rfl rfl ?_
          refine sP (opp_cmp rfl rfl rfl rfl) rfl rfl ?_
          refine sP (opp_mv (v := .bool _) rfl rfl) rfl rfl ?_
          refine sG _ rfl rfl rfl rfl (fun hg => (And.intro gi (True.intro))) (fun hg => opp_mv (v := .int _ _) rfl rfl) ?_
          first
            | refine sG _ rfl rfl rfl rfl (fun hg => (And.intro gi (True.intro))) (fun hg => opp_mv (v := .sl _ _ _ _) rfl rfl) ?_
            | refine sG _ rfl rfl rfl rfl (fun hg => (And.intro gi (True.intro))) (fun hg => opp_mv (v := .osl _ _ _ _ _) rfl rfl) ?_
          first
            | refine sG _ rfl rfl rfl rfl (fun hg => (And.intro gi (True.intro))) (fun hg => opp_lenSl rfl rfl un48) ?_
            | refine sG _ rfl rfl rfl rfl (fun hg => (And.intro gi (True.intro))) (fun hg => opp_lenOsl rfl rfl un48) ?_
          refine sG _ rfl rfl rfl rfl (fun hg => (And.intro gi (And.intro gi (True.intro)))) (fun hg => opp_cmp rfl rfl rfl rfl) ?_
          refine sPick rfl rfl rfl rfl (by exact True.intro) rfl rfl (fun hg => gi) (fun hg => gi) ?_
          refine awp_cond _ rfl (fun hc18 => ?_) (fun hc18 => ?_)
          · try simp only [cmpI, errD_nil, Bool.not_eq_true', Bool.not_eq_false', decide_eq_true_eq, decide_eq_false_iff_not] at hc18; have ht70 := hc18
            refine awp_exit ?_
            refine awp_region rfl ?_
            first
              | refine sP (opp_arith rfl rfl rfl (.inl ⟨rfl, w64 (by omega)⟩)) rfl rfl ?_
              | refine sP (opp_arith rfl rfl rfl (.inl ⟨rfl, rfl⟩)) rfl rfl ?_
            refine sP (opp_mv (v := .int _ _) rfl rfl) rfl rfl ?_
            refine Exists.intro ((i + 1, came)) (And.intro (And.intro (⟨by show i + 1 ≤ ord.length; omega, hl⟩) (by omega)) (by
              refine imp_over [] rfl rfl (by kernel_rfl) ?_ ?_
              · refine And.intro wkv ?_
                refine And.intro wkv ?_
                refine And.intro wkv ?_
                refine And.intro wkv ?_
                refine And.intro wkv ?_
                refine And.intro wkv ?_
                refine And.intro wkv ?_
                refine And.intro wkv ?_
                refine And.intro wkv ?_
                refine And.intro wkv ?_
                refine And.intro wkv ?_
                refine And.intro wkv ?_
                refine And.intro wkv ?_
                refine And.intro wkv ?_
                refine And.intro wkv ?_
                refine And.intro wkv ?_
                refine And.intro wkv ?_
                refine And.intro wkv ?_
                refine And.intro wkv ?_
                refine And.intro wkv ?_
                refine And.intro wkv ?_
                refine And.intro wkv ?_
                refine And.intro wkv ?_
                refine And.intro wkv ?_
                refine And.intro wkv ?_
                refine And.intro wkv ?_
                refine And.intro wkv ?_
                refine And.intro wkv ?_
                refine And.intro wkv ?_
                refine And.intro wkv ?_
                refine And.intro wkv ?_
                refine And.intro wkv ?_
                refine And.intro wkv ?_
                refine And.intro wkv ?_
                refine And.intro wkv ?_
                refine And.intro wkv ?_
                refine And.intro wkv ?_
                refine And.intro wkv ?_
                refine And.intro wkv ?_
                refine And.intro wkv ?_
                refine And.intro wkv ?_
                refine And.intro wkv ?_
                refine And.intro wkv ?_
                refine And.intro wkv ?_
                refine And.intro wkv ?_
                refine And.intro wkv ?_
                refine And.intro wkv ?_
                refine And.intro wkv ?_
                refine And.intro wkv ?_
                refine And.intro wkv ?_
                refine And.intro wkv ?_
                refine And.intro wkv ?_
                refine And.intro wkv ?_
                refine And.intro wkv ?_
                refine And.intro wkv ?_
                refine And.intro wkv ?_
                refine And.intro wkv ?_
                refine And.intro wkv ?_
                refine And.intro wkv ?_
                refine And.intro wkv ?_
                refine And.intro wkv ?_
                refine And.intro wkv ?_
                refine And.intro wkv ?_
                refine And.intro wkv ?_
                refine And.intro wkv ?_
                refine And.intro wkv ?_
                refine And.intro wkv ?_
                refine And.intro wkv ?_
                refine And.intro wkv ?_
                refine And.intro wkv ?_
                refine And.intro wkv ?_
                refine And.intro wkv ?_
                refine And.intro wkv ?_
                refine And.intro wkv ?_
                refine And.intro wkv ?_
                refine And.intro wkv ?_
                refine And.intro wkv ?_
                refine And.intro wkv ?_
                refine And.intro wkv ?_
                refine And.intro wkv ?_
                refine And.intro wkv ?_
                refine And.intro wkv ?_
                refine And.intro wkv ?_
                refine And.intro wkv ?_
                refine And.intro wkv ?_
                refine And.intro wkv ?_
                refine And.intro wkv ?_
                refine And.intro wkv ?_
                refine And.intro wkv ?_
                refine And.intro wkv ?_
                refine And.intro wkv ?_
                refine And.intro wkv ?_
                refine And.intro wkv ?_
                refine And.intro wkv ?_
                refine And.intro wkv ?_
                refine And.intro wkv ?_
                refine And.intro wkv ?_
                refine And.intro wkv ?_
                refine And.intro wkv ?_
                refine And.intro wkv ?_
                refine And.intro wkv ?_
                refine And.intro wkv ?_
                refine And.intro wkv ?_
                refine And.intro wkv ?_
                refine And.intro wkv ?_
                exact True.intro
              · refine And.intro (And.intro rfl (And.intro rfl (Exists.intro _ (And.intro rfl wkc)))) ?_
                refine And.intro (And.intro rfl (And.intro rfl (Exists.intro _ (And.intro rfl wkc)))) ?_
                exact True.intro
              ))
          · try simp only [cmpI, errD_nil, Bool.not_eq_true', Bool.not_eq_false', decide_eq_true_eq, decide_eq_false_iff_not] at hc18; have ht70 := hc18
            refine awp_skip ?_
            refine awp_seq ?_
            have ho : 0 ≤ o ∧ o < (Sp.total im : Int) := by simpa using ht70
            refine awp_draw hmix rfl (by kernel_rfl) ?_
            first
              | refine dP (fun n => Nat.beq n 8) (opp_loadP rfl rfl rfl rfl bi rfl ty55) rfl rfl ?_
              | refine dP (fun n => Nat.beq n 8) (opp_loadF rfl rfl ty55) rfl rfl ?_
            first
              | refine dP (fun _ => false) (opp_mv (v := .sl _ _ _ _) rfl rfl) rfl rfl ?_
              | refine dP (fun _ => false) (opp_mv (v := .osl _ _ _ _ _) rfl rfl) rfl rfl ?_
            refine dP (fun _ => false) (opp_mv (v := .int _ _) rfl rfl) rfl rfl ?_
            first
              | refine dP (fun _ => false) (opp_indexSl rfl rfl rfl el48 (by omega) (by omega)) rfl rfl ?_
              | refine dP (fun _ => false) (opp_indexOsl0 rfl rfl rfl el48 (by omega) (by omega)) rfl rfl ?_
              | refine dP (fun _ => false) (opp_indexOsl rfl rfl rfl el48 (by omega) (by omega)) rfl rfl ?_
            first
              | refine dP (fun n => !([13, 14] : List Nat).contains n) (opp_loadP rfl rfl rfl rfl bi rfl ty26) rfl rfl ?_
              | refine dP (fun n => !([13, 14] : List Nat).contains n) (opp_loadF rfl rfl ty26) rfl rfl ?_
            refine dR (fun n => !([13, 14] : List Nat).contains n) (opr_call rfl rfl ent22 rfl (fx22 hF came hl o.toNat (by omega) hG3 hG4 hG5 hG2 hG7 hG8) (AViews.refl _ rfl)) rfl rfl rfl ?_ -- d=77 t=56
            refine dP (fun _ => false) (opp_mv (v := .tup _) rfl rfl) rfl rfl ?_
            refine dP (fun _ => false) (opp_extract rfl rfl rfl) rfl rfl ?_
            refine dP (fun _ => false) (opp_extract rfl rfl rfl) rfl rfl ?_
            refine dP (fun _ => false) (opp_extract rfl rfl rfl) rfl rfl ?_
            refine dR (fun _ => false) (opr_alloc (n := 13) rfl z55) rfl rfl rfl ?_
            refine dR (fun _ => false) (opr_alloc (n := 14) rfl z26) rfl rfl rfl ?_
            refine dR0 (fun n => Nat.beq n 13) (opr_store (v := .agg _) (trn := (.agg _)) rfl rfl rfl rfl bi rfl rfl rfl rfl fr2 ty55 (fun _ _ h => h)) rfl rfl rfl ?_
            refine dR0 (fun n => Nat.beq n 14) (opr_store (v := .agg _) (trn := (.agg _)) rfl rfl rfl rfl bi rfl rfl rfl rfl fr2 ty26 (fun _ _ h => h)) rfl rfl rfl ?_
            refine dP (fun _ => false) (opp_as (v := .err _) rfl rfl) rfl rfl ?_
            refine And.intro (by kernel_rfl) ?_
            refine awp_seq ?_
            refine awp_seq ?_
            refine awp_draw hmix rfl (by kernel_rfl) ?_
            refine dP (fun _ => false) (opp_mv (v := .err _) rfl rfl) rfl rfl ?_
            refine dP (fun _ => false) (opp_errNil rfl rfl rfl un29 (.inr ⟨rfl, rfl⟩)) rfl rfl ?_
            refine dP (fun _ => false) (opp_mv (v := .bool _) rfl rfl) rfl rfl ?_
            first
              | refine dG _ (fun _ => false) rfl rfl rfl rfl (fun hg => (And.intro gi (True.intro))) (fun hg => opp_fieldP rfl rfl fld26_0 rfl) ?_
              | refine dG _ (fun _ => false) rfl rfl rfl rfl (fun hg => (And.intro gi (True.intro))) (fun hg => opp_fieldF rfl rfl rfl fld26_0 rfl rfl) ?_
            first
              | refine dG _ (fun n => Nat.beq n 14) rfl rfl rfl rfl (fun hg => (And.intro gi (True.intro))) (fun hg => opp_loadP rfl rfl rfl rfl bi rfl ty3) ?_
              | refine dG _ (fun n => Nat.beq n 14) rfl rfl rfl rfl (fun hg => (And.intro gi (True.intro))) (fun hg => opp_loadF rfl rfl ty3) ?_
            refine dG _ (fun _ => false) rfl rfl rfl rfl (fun hg => (And.intro gi (And.intro gi (True.intro)))) (fun hg => opp_cmp rfl rfl rfl rfl) ?_
            refine dPick (fun _ => false) rfl rfl rfl rfl (by exact True.intro) rfl rfl (fun hg => gi) (fun hg => gi) ?_
            refine dP (fun _ => false) (opp_mv (v := .bool _) rfl rfl) rfl rfl ?_
            first
              | refine dG _ (fun _ => false) rfl rfl rfl rfl (fun hg => (And.intro gi (True.intro))) (fun hg => opp_fieldP rfl rfl fld26_4 rfl) ?_
              | refine dG _ (fun _ => false) rfl rfl rfl rfl (fun hg => (And.intro gi (True.intro))) (fun hg => opp_fieldF rfl rfl rfl fld26_4 rfl rfl) ?_
            first
              | refine dG _ (fun n => Nat.beq n 14) rfl rfl rfl rfl (fun hg => (And.intro gi (True.intro))) (fun hg => opp_loadP rfl rfl rfl rfl bi rfl ty3) ?_
              | refine dG _ (fun n => Nat.beq n 14) rfl rfl rfl rfl (fun hg => (And.intro gi (True.intro))) (fun hg => opp_loadF rfl rfl ty3) ?_
            refine dG _ (fun _ => false) rfl rfl rfl rfl (fun hg => (And.intro gi (True.intro))) (fun hg => opp_mv (v := .int _ _) rfl rfl) ?_
            refine dG _ (fun _ => false) rfl rfl rfl rfl (fun hg => (And.intro gi (And.intro gi (True.intro)))) (fun hg => opp_cmp rfl rfl rfl rfl) ?_
            refine dPick (fun _ => false) rfl rfl rfl rfl (by exact True.intro) rfl rfl (fun hg => gi) (fun hg => gi) ?_
            refine dP (fun _ => false) (opp_mv (v := .bool _) rfl rfl) rfl rfl ?_
            first
              | refine dG _ (fun _ => false) rfl rfl rfl rfl (fun hg => (And.intro gi (True.intro))) (fun hg => opp_fieldP rfl rfl fld26_5 rfl) ?_
              | refine dG _ (fun _ => false) rfl rfl rfl rfl (fun hg => (And.intro gi (True.intro))) (fun hg => opp_fieldF rfl rfl rfl fld26_5 rfl rfl) ?_
            first
              | refine dG _ (fun n => Nat.beq n 14) rfl rfl rfl rfl (fun hg => (And.intro gi (True.intro))) (fun hg => opp_loadP rfl rfl rfl rfl bi rfl ty3) ?_
              | refine dG _ (fun n => Nat.beq n 14) rfl rfl rfl rfl (fun hg => (And.intro gi (True.intro))) (fun hg => opp_loadF rfl rfl ty3) ?_
            first
              | refine dG _ (fun _ => false) rfl rfl rfl rfl (fun hg => (And.intro gi (True.intro))) (fun hg => opp_mv (v := .sl _ _ _ _) rfl rfl) ?_
              | refine dG _ (fun _ => false) rfl rfl rfl rfl (fun hg => (And.intro gi (True.intro))) (fun hg => opp_mv (v := .osl _ _ _ _ _) rfl rfl) ?_
            first
              | refine dG _ (fun n => !([] : List Nat).contains n) rfl rfl rfl rfl (fun hg => (And.intro gi (True.intro))) (fun hg => opp_lenSl rfl rfl un48) ?_
              | refine dG _ (fun n => !([] : List Nat).contains n) rfl rfl rfl rfl (fun hg => (And.intro gi (True.intro))) (fun hg => opp_lenOsl rfl rfl un48) ?_
            refine dG _ (fun _ => false) rfl rfl rfl rfl (fun hg => (And.intro gi (And.intro gi (True.intro)))) (fun hg => opp_cmp rfl rfl rfl rfl) ?_
            refine dPick (fun _ => false) rfl rfl rfl rfl (by exact True.intro) rfl rfl (fun hg => gi) (fun hg => gi) ?_
            refine dP (fun _ => false) (opp_mv (v := .bool _) rfl rfl) rfl rfl ?_
            first
              | refine dG _ (fun _ => false) rfl rfl rfl rfl (fun hg => (And.intro gi (True.intro))) (fun hg => opp_fieldP rfl rfl fld26_2 rfl) ?_
              | refine dG _ (fun _ => false) rfl rfl rfl rfl (fun hg => (And.intro gi (True.intro))) (fun hg => opp_fieldF rfl rfl rfl fld26_2 rfl rfl) ?_
            first
              | refine dG _ (fun n => Nat.beq n 14) rfl rfl rfl rfl (fun hg => (And.intro gi (True.intro))) (fun hg => opp_loadP rfl rfl rfl rfl bi rfl ty23) ?_
              | refine dG _ (fun n => Nat.beq n 14) rfl rfl rfl rfl (fun hg => (And.intro gi (True.intro))) (fun hg => opp_loadF rfl rfl ty23) ?_
            first
              | refine dG _ (fun _ => false) rfl rfl rfl rfl (fun hg => (And.intro gi (True.intro))) (fun hg => opp_mv (v := .sl _ _ _ _) rfl rfl) ?_
              | refine dG _ (fun _ => false) rfl rfl rfl rfl (fun hg => (And.intro gi (True.intro))) (fun hg => opp_mv (v := .osl _ _ _ _ _) rfl rfl) ?_
            refine dG _ (fun _ => false) rfl rfl rfl rfl (fun hg => (And.intro gi (True.intro))) (fun hg => opp_mv (v := .int _ _) rfl rfl) ?_
            first
              | refine dG _ (fun _ => false) rfl rfl rfl rfl (fun hg => (And.intro gi (And.intro gi (True.intro)))) (fun hg => opp_indexSl rfl rfl rfl el48 (by omega) (by omega)) ?_
              | refine dG _ (fun _ => false) rfl rfl rfl rfl (fun hg => (And.intro gi (And.intro gi (True.intro)))) (fun hg => opp_indexOsl0 rfl rfl rfl el48 (by omega) (by omega)) ?_
              | refine dG _ (fun _ => false) rfl rfl rfl rfl (fun hg => (And.intro gi (And.intro gi (True.intro)))) (fun hg => opp_indexOsl rfl rfl rfl el48 (by omega) (by omega)) ?_
            first
              | refine dG _ (fun _ => false) rfl rfl rfl rfl (fun hg => (And.intro gi (True.intro))) (fun hg => opp_fieldP rfl rfl fld26_2 rfl) ?_
              | refine dG _ (fun _ => false) rfl rfl rfl rfl (fun hg => (And.intro gi (True.intro))) (fun hg => opp_fieldF rfl rfl rfl fld26_2 rfl rfl) ?_
            first
              | refine dG _ (fun n => !([] : List Nat).contains n) rfl rfl rfl rfl (fun hg => (And.intro gi (True.intro))) (fun hg => opp_loadP rfl rfl rfl rfl bi rfl ty23) ?_
              | refine dG _ (fun n => !([] : List Nat).contains n) rfl rfl rfl rfl (fun hg => (And.intro gi (True.intro))) (fun hg => opp_loadF rfl rfl ty23) ?_
            refine dG _ (fun _ => false) rfl rfl rfl rfl (fun hg => (And.intro gi (And.intro gi (True.intro)))) (fun hg => opp_eqAgg rfl rfl rfl (eq23 ..) eg23 rfl (.inr ⟨rfl, rfl⟩)) ?_
            refine dPick (fun _ => false) rfl rfl rfl rfl (by exact True.intro) rfl rfl (fun hg => gi) (fun hg => gi) ?_
            refine And.intro (by kernel_rfl) ?_
            refine awp_cond _ rfl (fun hc22 => ?_) (fun hc22 => ?_)
            · try simp only [cmpI, errD_nil, Bool.not_eq_true', Bool.not_eq_false', decide_eq_true_eq, decide_eq_false_iff_not] at hc22; have ht110 := hc22
              exfalso
              have e : ((o.toNat : Nat) : Int) = o := by omega
              rw [Sp.notes_get _ _ _ _ _ (by omega)] at ht110
              simp [Sp.ackOf, Sp.cutNote, e, ErrD.isNil] at ht110
            · try simp only [cmpI, errD_nil, Bool.not_eq_true', Bool.not_eq_false', decide_eq_true_eq, decide_eq_false_iff_not] at hc22; have ht110 := hc22
              refine awp_skip ?_
              refine awp_seq ?_
              refine awp_region rfl ?_
              first
                | refine sP (opp_loadP rfl rfl rfl rfl bi rfl ty55) rfl rfl ?_
                | refine sP (opp_loadF rfl rfl ty55) rfl rfl ?_
              refine sR0 (opr_store (v := .agg _) (trn := (.agg _)) rfl rfl rfl rfl bi rfl rfl rfl rfl fr2 ty55 (fun _ _ h => h)) rfl rfl rfl ?_
              refine awp_seq ?_
              refine awp_seq ?_
              have hk : o.toNat < Sp.total im := by omega
              refine awp_region rfl ?_
              first
                | refine sP (opp_mv (v := .sl _ _ _ _) rfl rfl) rfl rfl ?_
                | refine sP (opp_mv (v := .osl _ _ _ _ _) rfl rfl) rfl rfl ?_
              refine sP (opp_mv (v := .int _ _) rfl rfl) rfl rfl ?_
              first
                | refine sP (opp_indexSl rfl rfl rfl el43 (by omega) (by omega)) rfl rfl ?_
                | refine sP (opp_indexOsl0 rfl rfl rfl el43 (by omega) (by omega)) rfl rfl ?_
                | refine sP (opp_indexOsl rfl rfl rfl el43 (by omega) (by omega)) rfl rfl ?_
              first
                | refine sP (opp_loadP rfl rfl rfl rfl bi rfl ty4) rfl rfl ?_
                | refine sP (opp_loadF rfl rfl ty4) rfl rfl ?_
              refine sP (opp_not rfl rfl) rfl rfl ?_
              refine awp_cond _ rfl (fun hc25 => ?_) (fun hc25 => ?_)
              · try simp only [cmpI, errD_nil, Bool.not_eq_true', Bool.not_eq_false', decide_eq_true_eq, decide_eq_false_iff_not] at hc25; have ht116 := hc25
                refine awp_seq ?_
                refine awp_region rfl ?_
                first
                  | refine sP (opp_mv (v := .sl _ _ _ _) rfl rfl) rfl rfl ?_
                  | refine sP (opp_mv (v := .osl _ _ _ _ _) rfl rfl) rfl rfl ?_
                refine sP (opp_mv (v := .int _ _) rfl rfl) rfl rfl ?_
                first
                  | refine sP (opp_indexSl rfl rfl rfl el43 (by omega) (by omega)) rfl rfl ?_
                  | refine sP (opp_indexOsl0 rfl rfl rfl el43 (by omega) (by omega)) rfl rfl ?_
                  | refine sP (opp_indexOsl rfl rfl rfl el43 (by omega) (by omega)) rfl rfl ?_
                refine sR0 (opr_storeA (v := .bool _) rfl rfl rfl (by omega) rfl rfl rfl rfl rfl ty4) rfl rfl rfl ?_
                refine awp_region rfl ?_
                refine sP (opp_mv (v := .int _ _) rfl rfl) rfl rfl ?_
                first
                  | refine sP (opp_arith rfl rfl rfl (.inr <| .inl ⟨rfl, w64 (by omega)⟩)) rfl rfl ?_
                  | refine sP (opp_arith rfl rfl rfl (.inr <| .inl ⟨rfl, rfl⟩)) rfl rfl ?_
                refine sP (opp_as (v := .int _ _) rfl rfl) rfl rfl ?_
                refine awp_seq ?_
                refine awp_region rfl ?_
                first
                  | refine sP (opp_loadP rfl rfl rfl rfl bi rfl ty55) rfl rfl ?_
                  | refine sP (opp_loadF rfl rfl ty55) rfl rfl ?_
                refine sR (opr_call rfl rfl ent23 rfl (c23 false (Sp.recvOf 1 ⟨1, 2, 5⟩ 2 im (came.set o.toNat true)) (by have := Sp.recvOf_len (p := 1) (x := ⟨1, 2, 5⟩) (st := 2) (im := im) (came.set o.toNat true); omega) hG3) (AViews.refl _ rfl)) rfl rfl rfl ?_ -- d=124 t=58
                refine sP (opp_mv (v := .tup _) rfl rfl) rfl rfl ?_
                refine sP (opp_extract rfl rfl rfl) rfl rfl ?_
                refine sP (opp_extract rfl rfl rfl) rfl rfl ?_
                refine sP (opp_extract rfl rfl rfl) rfl rfl ?_
                first
                  | refine sP (opp_as (v := .sl _ _ _ _) rfl rfl) rfl rfl ?_
                  | refine sP (opp_as (v := .osl _ _ _ _ _) rfl rfl) rfl rfl ?_
                refine sP (opp_as (v := .bool _) rfl rfl) rfl rfl ?_
                refine sP (opp_as (v := .err _) rfl rfl) rfl rfl ?_
                refine awp_seq ?_
                refine awp_region rfl ?_
                refine sP (opp_mv (v := .err _) rfl rfl) rfl rfl ?_
                refine sP (opp_errNil rfl rfl rfl un29 (.inr ⟨rfl, rfl⟩)) rfl rfl ?_
                refine sP (opp_mv (v := .bool _) rfl rfl) rfl rfl ?_
                refine sG _ rfl rfl rfl rfl (fun hg => (And.intro gi (True.intro))) (fun hg => opp_mv (v := .bool _) rfl rfl) ?_
                refine sG _ rfl rfl rfl rfl (fun hg => (And.intro gi (True.intro))) (fun hg => opp_mv (v := .int _ _) rfl rfl) ?_
                refine sG _ rfl rfl rfl rfl (fun hg => (And.intro gi (And.intro gi (True.intro)))) (fun hg => opp_cmp rfl rfl rfl rfl) ?_
                refine sG _ rfl rfl rfl rfl (fun hg => (And.intro gi (And.intro gi (True.intro)))) (fun hg => opp_boolEq rfl rfl rfl un4 (.inr ⟨rfl, rfl⟩)) ?_
                refine sPick rfl rfl rfl rfl (by exact True.intro) rfl rfl (fun hg => gi) (fun hg => gi) ?_
                refine sP (opp_mv (v := .bool _) rfl rfl) rfl rfl ?_
                refine sG _ rfl rfl rfl rfl (fun hg => (And.intro gi (True.intro))) (fun hg => opp_mv (v := .bool _) rfl rfl) ?_
                refine sG _ rfl rfl rfl rfl (fun hg => (And.intro gi (True.intro))) (fun hg => opp_mv (v := .bool _) rfl rfl) ?_
                first
                  | refine sG _ rfl rfl rfl rfl (fun hg => (And.intro gi (True.intro))) (fun hg => opp_mv (v := .sl _ _ _ _) rfl rfl) ?_
                  | refine sG _ rfl rfl rfl rfl (fun hg => (And.intro gi (True.intro))) (fun hg => opp_mv (v := .osl _ _ _ _ _) rfl rfl) ?_
                refine sG _ rfl rfl rfl rfl (fun hg => (And.intro gi (True.intro))) (fun hg => opp_bytesStr rfl rfl _ rfl (fun j hj => rfl) un36 unu8 un9) ?_
                first
                  | refine sG _ rfl rfl rfl rfl (fun hg => (And.intro gi (True.intro))) (fun hg => opp_mv (v := .sl _ _ _ _) rfl rfl) ?_
                  | refine sG _ rfl rfl rfl rfl (fun hg => (And.intro gi (True.intro))) (fun hg => opp_mv (v := .osl _ _ _ _ _) rfl rfl) ?_
                refine sG _ rfl rfl rfl rfl (fun hg => (And.intro gi (True.intro))) (fun hg => opp_bytesStr rfl rfl _ rfl (fun j hj => rfl) un36 unu8 un9) ?_
                refine sG _ rfl rfl rfl rfl (fun hg => (And.intro gi (And.intro gi (True.intro)))) (fun hg => opp_strEq rfl rfl rfl (.inr ⟨rfl, rfl⟩)) ?_
                refine sPickG _ rfl rfl rfl rfl rfl rfl (fun hg => by first | exact True.intro | exact And.intro hg True.intro | (refine And.intro ?_ True.intro; simp_all; done)) rfl rfl (fun h0 hg => g2) (fun h0 hg => g2) ?_
                refine sPick rfl rfl rfl rfl (by exact True.intro) rfl rfl (fun hg => gi) (fun hg => gi) ?_
                refine sP (opp_mv (v := .bool _) rfl rfl) rfl rfl ?_
                refine sG _ rfl rfl rfl rfl (fun hg => (And.intro gi (True.intro))) (fun hg => opp_mv (v := .bool _) rfl rfl) ?_
                refine sG _ rfl rfl rfl rfl (fun hg => (And.intro gi (True.intro))) (fun hg => opp_not rfl rfl) ?_
                refine sG _ rfl rfl rfl rfl (fun hg => (And.intro gi (True.intro))) (fun hg => opp_mv (v := .bool _) rfl rfl) ?_
                first
                  | refine sG _ rfl rfl rfl rfl (fun hg => (And.intro gi (True.intro))) (fun hg => opp_mv (v := .sl _ _ _ _) rfl rfl) ?_
                  | refine sG _ rfl rfl rfl rfl (fun hg => (And.intro gi (True.intro))) (fun hg => opp_mv (v := .osl _ _ _ _ _) rfl rfl) ?_
                first
                  | refine sG _ rfl rfl rfl rfl (fun hg => (And.intro gi (True.intro))) (fun hg => opp_lenSl rfl rfl un36) ?_
                  | refine sG _ rfl rfl rfl rfl (fun hg => (And.intro gi (True.intro))) (fun hg => opp_lenOsl rfl rfl un36) ?_
                refine sG _ rfl rfl rfl rfl (fun hg => (And.intro gi (And.intro gi (True.intro)))) (fun hg => opp_cmp rfl rfl rfl rfl) ?_
                refine sPickG _ rfl rfl rfl rfl rfl rfl (fun hg => by first | exact True.intro | exact And.intro hg True.intro | (refine And.intro ?_ True.intro; simp_all; done)) rfl rfl (fun h0 hg => g2) (fun h0 hg => g2) ?_
                refine sPick rfl rfl rfl rfl (by exact True.intro) rfl rfl (fun hg => gi) (fun hg => gi) ?_
                refine awp_cond _ rfl (fun hc30 => ?_) (fun hc30 => ?_)
                · try simp only [cmpI, errD_nil, Bool.not_eq_true', Bool.not_eq_false', decide_eq_true_eq, decide_eq_false_iff_not] at hc30; have ht154 := hc30
                  exfalso
                  have hw := hF.whole (came.set o.toNat true) (by simpa using hl)
                  have hls := Sp.leftOf_set came o.toNat (by omega)
                  have hlz := Sp.leftOf_zero (came := came.set o.toNat true)
                  rw [ht116] at hls
                  rw [hw] at ht154
                  by_cases hall : (came.set o.toNat true).all id = true
                  · rw [if_pos hall] at ht154
                    have h9 := hlz.2 hall
                    simp at hls
                    simp at ht154; omega
                  · rw [if_neg hall] at ht154
                    have h9 := mt hlz.1 hall
                    simp at hls
                    simp at ht154; omega
                · try simp only [cmpI, errD_nil, Bool.not_eq_true', Bool.not_eq_false', decide_eq_true_eq, decide_eq_false_iff_not] at hc30; have ht154 := hc30
                  refine awp_skip ?_
                  refine awp_region rfl ?_
                  first
                    | refine sP (opp_arith rfl rfl rfl (.inl ⟨rfl, w64 (by omega)⟩)) rfl rfl ?_
                    | refine sP (opp_arith rfl rfl rfl (.inl ⟨rfl, rfl⟩)) rfl rfl ?_
                  refine sP (opp_mv (v := .int _ _) rfl rfl) rfl rfl ?_
                  have hls := Sp.leftOf_set came o.toNat (by omega)
                  rw [ht116] at hls
                  simp only [Bool.false_eq_true, if_false] at hls
                  refine Exists.intro ((i + 1, came.set o.toNat true)) (And.intro (And.intro (⟨by show i + 1 ≤ ord.length; omega, by simpa using hl⟩) (by omega)) (by
                    refine imp_over [] rfl rfl (by kernel_rfl) ?_ ?_
                    · refine And.intro wkv ?_
                      refine And.intro (by exact Or.inr (And.intro rfl (WkV.of (by show AV.int _ _ = AV.int _ (Sp.leftOf (came.set o.toNat true) : Int); congr 1; omega)))) ?_
                      refine And.intro wkv ?_
                      refine And.intro wkv ?_
                      refine And.intro wkv ?_
                      refine And.intro wkv ?_
                      refine And.intro wkv ?_
                      refine And.intro wkv ?_
                      refine And.intro wkv ?_
                      refine And.intro wkv ?_
                      refine And.intro wkv ?_
                      refine And.intro wkv ?_
                      refine And.intro wkv ?_
                      refine And.intro wkv ?_
                      refine And.intro wkv ?_
                      refine And.intro wkv ?_
                      refine And.intro wkv ?_
                      refine And.intro wkv ?_
                      refine And.intro wkv ?_
                      refine And.intro wkv ?_
                      refine And.intro wkv ?_
                      refine And.intro wkv ?_
                      refine And.intro wkv ?_
                      refine And.intro wkv ?_
                      refine And.intro wkv ?_
                      refine And.intro wkv ?_
                      refine And.intro wkv ?_
                      refine And.intro wkv ?_
                      refine And.intro wkv ?_
                      refine And.intro wkv ?_
                      refine And.intro wkv ?_
                      refine And.intro wkv ?_
                      refine And.intro wkv ?_
                      refine And.intro wkv ?_
                      refine And.intro wkv ?_
                      refine And.intro wkv ?_
                      refine And.intro wkv ?_
                      refine And.intro wkv ?_
                      refine And.intro wkv ?_
                      refine And.intro wkv ?_
                      refine And.intro wkv ?_
                      refine And.intro wkv ?_
                      refine And.intro wkv ?_
                      refine And.intro wkv ?_
                      refine And.intro wkv ?_
                      refine And.intro wkv ?_
                      refine And.intro wkv ?_
                      refine And.intro wkv ?_
                      refine And.intro wkv ?_
                      refine And.intro wkv ?_
                      refine And.intro wkv ?_
                      refine And.intro wkv ?_
                      refine And.intro wkv ?_
                      refine And.intro wkv ?_
                      refine And.intro wkv ?_
                      refine And.intro wkv ?_
                      refine And.intro wkv ?_
                      refine And.intro wkv ?_
                      refine And.intro wkv ?_
                      refine And.intro wkv ?_
                      refine And.intro wkv ?_
                      refine And.intro wkv ?_
                      refine And.intro wkv ?_
                      refine And.intro wkv ?_
                      refine And.intro wkv ?_
                      refine And.intro wkv ?_
                      refine And.intro wkv ?_
                      refine And.intro wkv ?_
                      refine And.intro wkv ?_
                      refine And.intro wkv ?_
                      refine And.intro wkv ?_
                      refine And.intro wkv ?_
                      refine And.intro wkv ?_
                      refine And.intro wkv ?_
                      refine And.intro wkv ?_
                      refine And.intro wkv ?_
                      refine And.intro wkv ?_
                      refine And.intro wkv ?_
                      refine And.intro wkv ?_
                      refine And.intro wkv ?_
                      refine And.intro wkv ?_
                      refine And.intro wkv ?_
                      refine And.intro wkv ?_
                      refine And.intro wkv ?_
                      refine And.intro wkv ?_
                      refine And.intro wkv ?_
                      refine And.intro wkv ?_
                      refine And.intro wkv ?_
                      refine And.intro wkv ?_
                      refine And.intro wkv ?_
                      refine And.intro wkv ?_
                      refine And.intro wkv ?_
                      refine And.intro wkv ?_
                      refine And.intro wkv ?_
                      refine And.intro wkv ?_
                      refine And.intro wkv ?_
                      refine And.intro wkv ?_
                      refine And.intro wkv ?_
                      refine And.intro wkv ?_
                      refine And.intro wkv ?_
                      refine And.intro wkv ?_
                      refine And.intro wkv ?_
                      refine And.intro wkv ?_
                      refine And.intro wkv ?_
                      refine And.intro wkv ?_
                      exact True.intro
                    · refine And.intro (And.intro rfl (And.intro rfl (Exists.intro _ (And.intro rfl (by rw [Sp.any_set came o.toNat (by omega)]; exact WkC.refl _))))) ?_
                      refine And.intro (And.intro rfl (And.intro rfl (Exists.intro _ (And.intro rfl (by exact WkC.arr (fun j hj => by simp only [blAt]; rw [Sp.set_get came o.toNat j (by omega)]; split <;> rfl)))))) ?_
                      exact True.intro
                    ))
              · try simp only [cmpI, errD_nil, Bool.not_eq_true', Bool.not_eq_false', decide_eq_true_eq, decide_eq_false_iff_not] at hc25; have ht116 := hc25
                refine awp_skip ?_
                refine awp_seq ?_
                refine awp_region rfl ?_
                first
                  | refine sP (opp_loadP rfl rfl rfl rfl bi rfl ty55) rfl rfl ?_
                  | refine sP (opp_loadF rfl rfl ty55) rfl rfl ?_
                refine sR (opr_call rfl rfl ent23 rfl (c23 false (Sp.recvOf 1 ⟨1, 2, 5⟩ 2 im (came.set o.toNat true)) (by have := Sp.recvOf_len (p := 1) (x := ⟨1, 2, 5⟩) (st := 2) (im := im) (came.set o.toNat true); omega) hG3) (AViews.refl _ rfl)) rfl rfl rfl ?_ -- d=124 t=58
                refine sP (opp_mv (v := .tup _) rfl rfl) rfl rfl ?_
                refine sP (opp_extract rfl rfl rfl) rfl rfl ?_
                refine sP (opp_extract rfl rfl rfl) rfl rfl ?_
                refine sP (opp_extract rfl rfl rfl) rfl rfl ?_
                first
                  | refine sP (opp_as (v := .sl _ _ _ _) rfl rfl) rfl rfl ?_
                  | refine sP (opp_as (v := .osl _ _ _ _ _) rfl rfl) rfl rfl ?_
                refine sP (opp_as (v := .bool _) rfl rfl) rfl rfl ?_
                refine sP (opp_as (v := .err _) rfl rfl) rfl rfl ?_
                refine awp_seq ?_
                refine awp_region rfl ?_
                refine sP (opp_mv (v := .err _) rfl rfl) rfl rfl ?_
                refine sP (opp_errNil rfl rfl rfl un29 (.inr ⟨rfl, rfl⟩)) rfl rfl ?_
                refine sP (opp_mv (v := .bool _) rfl rfl) rfl rfl ?_
                refine sG _ rfl rfl rfl rfl (fun hg => (And.intro gi (True.intro))) (fun hg => opp_mv (v := .bool _) rfl rfl) ?_
                refine sG _ rfl rfl rfl rfl (fun hg => (And.intro gi (True.intro))) (fun hg => opp_mv (v := .int _ _) rfl rfl) ?_
                refine sG _ rfl rfl rfl rfl (fun hg => (And.intro gi (And.intro gi (True.intro)))) (fun hg => opp_cmp rfl rfl rfl rfl) ?_
                refine sG _ rfl rfl rfl rfl (fun hg => (And.intro gi (And.intro gi (True.intro)))) (fun hg => opp_boolEq rfl rfl rfl un4 (.inr ⟨rfl, rfl⟩)) ?_
                refine sPick rfl rfl rfl rfl (by exact True.intro) rfl rfl (fun hg => gi) (fun hg => gi) ?_
                refine sP (opp_mv (v := .bool _) rfl rfl) rfl rfl ?_
                refine sG _ rfl rfl rfl rfl (fun hg => (And.intro gi (True.intro))) (fun hg => opp_mv (v := .bool _) rfl rfl) ?_
                refine sG _ rfl rfl rfl rfl (fun hg => (And.intro gi (True.intro))) (fun hg => opp_mv (v := .bool _) rfl rfl) ?_
                first
                  | refine sG _ rfl rfl rfl rfl (fun hg => (And.intro gi (True.intro))) (fun hg => opp_mv (v := .sl _ _ _ _) rfl rfl) ?_
                  | refine sG _ rfl rfl rfl rfl (fun hg => (And.intro gi (True.intro))) (fun hg => opp_mv (v := .osl _ _ _ _ _) rfl rfl) ?_
                refine sG _ rfl rfl rfl rfl (fun hg => (And.intro gi (True.intro))) (fun hg => opp_bytesStr rfl rfl _ rfl (fun j hj => rfl) un36 unu8 un9) ?_
                first
                  | refine sG _ rfl rfl rfl rfl (fun hg => (And.intro gi (True.intro))) (fun hg => opp_mv (v := .sl _ _ _ _) rfl rfl) ?_
                  | refine sG _ rfl rfl rfl rfl (fun hg => (And.intro gi (True.intro))) (fun hg => opp_mv (v := .osl _ _ _ _ _) rfl rfl) ?_
                refine sG _ rfl rfl rfl rfl (fun hg => (And.intro gi (True.intro))) (fun hg => opp_bytesStr rfl rfl _ rfl (fun j hj => rfl) un36 unu8 un9) ?_
                refine sG _ rfl rfl rfl rfl (fun hg => (And.intro gi (And.intro gi (True.intro)))) (fun hg => opp_strEq rfl rfl rfl (.inr ⟨rfl, rfl⟩)) ?_
                refine sPickG _ rfl rfl rfl rfl rfl rfl (fun hg => by first | exact True.intro | exact And.intro hg True.intro | (refine And.intro ?_ True.intro; simp_all; done)) rfl rfl (fun h0 hg => g2) (fun h0 hg => g2) ?_
                refine sPick rfl rfl rfl rfl (by exact True.intro) rfl rfl (fun hg => gi) (fun hg => gi) ?_
                refine sP (opp_mv (v := .bool _) rfl rfl) rfl rfl ?_
                refine sG _ rfl rfl rfl rfl (fun hg => (And.intro gi (True.intro))) (fun hg => opp_mv (v := .bool _) rfl rfl) ?_
                refine sG _ rfl rfl rfl rfl (fun hg => (And.intro gi (True.intro))) (fun hg => opp_not rfl rfl) ?_
                refine sG _ rfl rfl rfl rfl (fun hg => (And.intro gi (True.intro))) (fun hg => opp_mv (v := .bool _) rfl rfl) ?_
                first
                  | refine sG _ rfl rfl rfl rfl (fun hg => (And.intro gi (True.intro))) (fun hg => opp_mv (v := .sl _ _ _ _) rfl rfl) ?_
                  | refine sG _ rfl rfl rfl rfl (fun hg => (And.intro gi (True.intro))) (fun hg => opp_mv (v := .osl _ _ _ _ _) rfl rfl) ?_
                first
                  | refine sG _ rfl rfl rfl rfl (fun hg => (And.intro gi (True.intro))) (fun hg => opp_lenSl rfl rfl un36) ?_
                  | refine sG _ rfl rfl rfl rfl (fun hg => (And.intro gi (True.intro))) (fun hg => opp_lenOsl rfl rfl un36) ?_
                refine sG _ rfl rfl rfl rfl (fun hg => (And.intro gi (And.intro gi (True.intro)))) (fun hg => opp_cmp rfl rfl rfl rfl) ?_
                refine sPickG _ rfl rfl rfl rfl rfl rfl (fun hg => by first | exact True.intro | exact And.intro hg True.intro | (refine And.intro ?_ True.intro; simp_all; done)) rfl rfl (fun h0 hg => g2) (fun h0 hg => g2) ?_
                refine sPick rfl rfl rfl rfl (by exact True.intro) rfl rfl (fun hg => gi) (fun hg => gi) ?_
                refine awp_cond _ rfl (fun hc34 => ?_) (fun hc34 => ?_)
                · try simp only [cmpI, errD_nil, Bool.not_eq_true', Bool.not_eq_false', decide_eq_true_eq, decide_eq_false_iff_not] at hc34; have ht154 := hc34
                  exfalso
                  have hw := hF.whole (came.set o.toNat true) (by simpa using hl)
                  have hls := Sp.leftOf_set came o.toNat (by omega)
                  have hlz := Sp.leftOf_zero (came := came.set o.toNat true)
                  rw [ht116] at hls
                  rw [hw] at ht154
                  by_cases hall : (came.set o.toNat true).all id = true
                  · rw [if_pos hall] at ht154
                    have h9 := hlz.2 hall
                    simp at hls
                    simp at ht154; omega
                  · rw [if_neg hall] at ht154
                    have h9 := mt hlz.1 hall
                    simp at hls
                    simp at ht154; omega
                · try simp only [cmpI, errD_nil, Bool.not_eq_true', Bool.not_eq_false', decide_eq_true_eq, decide_eq_false_iff_not] at hc34; have ht154 := hc34
                  refine awp_skip ?_
                  refine awp_region rfl ?_
                  first
                    | refine sP (opp_arith rfl rfl rfl (.inl ⟨rfl, w64 (by omega)⟩)) rfl rfl ?_
                    | refine sP (opp_arith rfl rfl rfl (.inl ⟨rfl, rfl⟩)) rfl rfl ?_
                  refine sP (opp_mv (v := .int _ _) rfl rfl) rfl rfl ?_
                  have hsm : came.set o.toNat true = came := Sp.set_same came _ (by simpa using ht116)
                  refine Exists.intro ((i + 1, came.set o.toNat true)) (And.intro (And.intro (⟨by show i + 1 ≤ ord.length; omega, by simpa using hl⟩) (by omega)) (by
                    refine imp_over [] rfl rfl (by kernel_rfl) ?_ ?_
                    · refine And.intro wkv ?_
                      refine And.intro (by rw [hsm]; exact Or.inr (And.intro rfl (WkV.refl _))) ?_
                      refine And.intro wkv ?_
                      refine And.intro wkv ?_
                      refine And.intro wkv ?_
                      refine And.intro wkv ?_
                      refine And.intro wkv ?_
                      refine And.intro wkv ?_
                      refine And.intro wkv ?_
                      refine And.intro wkv ?_
                      refine And.intro wkv ?_
                      refine And.intro wkv ?_
                      refine And.intro wkv ?_
                      refine And.intro wkv ?_
                      refine And.intro wkv ?_
                      refine And.intro wkv ?_
                      refine And.intro wkv ?_
                      refine And.intro wkv ?_
                      refine And.intro wkv ?_
                      refine And.intro wkv ?_
                      refine And.intro wkv ?_
                      refine And.intro wkv ?_
                      refine And.intro wkv ?_
                      refine And.intro wkv ?_
                      refine And.intro wkv ?_
                      refine And.intro wkv ?_
                      refine And.intro wkv ?_
                      refine And.intro wkv ?_
                      refine And.intro wkv ?_
                      refine And.intro wkv ?_
                      refine And.intro wkv ?_
                      refine And.intro wkv ?_
                      refine And.intro wkv ?_
                      refine And.intro wkv ?_
                      refine And.intro wkv ?_
                      refine And.intro wkv ?_
                      refine And.intro wkv ?_
                      refine And.intro wkv ?_
                      refine And.intro wkv ?_
                      refine And.intro wkv ?_
                      refine And.intro wkv ?_
                      refine And.intro wkv ?_
                      refine And.intro wkv ?_
                      refine And.intro wkv ?_
                      refine And.intro wkv ?_
                      refine And.intro wkv ?_
                      refine And.intro wkv ?_
                      refine And.intro wkv ?_
                      refine And.intro wkv ?_
                      refine And.intro wkv ?_
                      refine And.intro wkv ?_
                      refine And.intro wkv ?_
                      refine And.intro wkv ?_
                      refine And.intro wkv ?_
                      refine And.intro wkv ?_
                      refine And.intro wkv ?_
                      refine And.intro wkv ?_
                      refine And.intro wkv ?_
                      refine And.intro wkv ?_
                      refine And.intro wkv ?_
                      refine And.intro wkv ?_
                      refine And.intro wkv ?_
                      refine And.intro wkv ?_
                      refine And.intro wkv ?_
                      refine And.intro wkv ?_
                      refine And.intro wkv ?_
                      refine And.intro wkv ?_
                      refine And.intro wkv ?_
                      refine And.intro wkv ?_
                      refine And.intro wkv ?_
                      refine And.intro wkv ?_
                      refine And.intro wkv ?_
                      refine And.intro wkv ?_
                      refine And.intro wkv ?_
                      refine And.intro wkv ?_
                      refine And.intro wkv ?_
                      refine And.intro wkv ?_
                      refine And.intro wkv ?_
                      refine And.intro wkv ?_
                      refine And.intro wkv ?_
                      refine And.intro wkv ?_
                      refine And.intro wkv ?_
                      refine And.intro wkv ?_
                      refine And.intro wkv ?_
                      refine And.intro wkv ?_
                      refine And.intro wkv ?_
                      refine And.intro wkv ?_
                      refine And.intro wkv ?_
                      refine And.intro wkv ?_
                      refine And.intro wkv ?_
                      refine And.intro wkv ?_
                      refine And.intro wkv ?_
                      refine And.intro wkv ?_
                      refine And.intro wkv ?_
                      refine And.intro wkv ?_
                      refine And.intro wkv ?_
                      refine And.intro wkv ?_
                      refine And.intro wkv ?_
                      refine And.intro wkv ?_
                      refine And.intro wkv ?_
                      refine And.intro wkv ?_
                      refine And.intro wkv ?_
                      refine And.intro wkv ?_
                      refine And.intro wkv ?_
                      refine And.intro wkv ?_
                      exact True.intro
                    · refine And.intro (And.intro rfl (And.intro rfl (Exists.intro _ (And.intro rfl (by rw [Sp.any_set came o.toNat (by omega)]; exact WkC.refl _))))) ?_
                      refine And.intro (And.intro rfl (And.intro rfl (Exists.intro _ (And.intro rfl (by rw [hsm]; exact WkC.refl _))))) ?_
                      exact True.intro
                    ))
        · try simp only [cmpI, errD_nil, Bool.not_eq_true', Bool.not_eq_false', decide_eq_true_eq, decide_eq_false_iff_not] at hc15; have ht60 := hc15
          refine awp_exit ?_
          refine awp_seq ?_
          refine awp_region rfl ?_
          refine sP (opp_as (v := .bool _) rfl rfl) rfl rfl ?_
          refine awp_ret ?_
          repeat (first | refine athen_ret ?_ | refine ain_ret ?_)
          first
            | refine apost_ret (aend1 (r0 := .bool _) (.tmp .nil) (.noN rfl rfl) ⟨Wk.v ?_, rfl, rfl⟩)
            | refine apost_ret (aend1s (r0 := .bool _) (.tmp .nil) shut rfl ⟨Wk.v ?_, rfl, rfl⟩)
          exact .refl
set_option maxRecDepth 100000 in
theorem xcElse (b b2 : Bool) (im : List UInt8) (ord : List Int) (h0 : im.length ≤ 281474976710656) (h1 : ord.length ≤ 281474976710656) (hn : ¬ (1 ≤ im.length ∧ im.length ≤ 4096)) (hG3 : gl 3 = some (.err (.code 9))) (hG4 : gl 4 = some (.err (.code 7))) (hG5 : gl 5 = some (.err (.code 10))) (hG2 : gl 2 = some (.err (.code 12))) (hG7 : gl 7 = some (.err (.code 14))) (hG8 : gl 8 = some (.err (.code 4))) (hG6 : gl 6 = some (.err (.code 11))) :
    APure (V ea cds gl) 4 [.sl 1 b im.length (bAt im), .sl 1 b2 ord.length (iAt ord)] false (.bool true) := by
  refine acalls_of_body (N := 156) Tryd.func4 rfl rfl (Nat.le_of_ble_eq_true rfl) fun C hV hN hM hO => ?_
  obtain ⟨_, _, w0, G0, σ0, _, own0⟩ := C; dsimp only at hV hN hM hO; subst hV; subst hN; subst hM
  refine awp_seq ?_
  refine awp_region rfl ?_
  refine sP (opp_as (v := .bool _) rfl rfl) rfl rfl ?_
  refine awp_seq ?_
  refine awp_seq ?_
  refine awp_region rfl ?_
  refine sR (opr_call rfl rfl ent19 rfl (c19 hG3 hG4 hG5 hG2 hG7 hG8 hG6) (AViews.refl _ rfl)) rfl rfl rfl ?_ -- d=18 t=4
  refine sP (opp_not rfl rfl) rfl rfl ?_
  refine awp_cond _ rfl (fun hc3 => ?_) (fun hc3 => ?_)
  · try simp only [cmpI, errD_nil, Bool.not_eq_true', Bool.not_eq_false', decide_eq_true_eq, decide_eq_false_iff_not] at hc3; have ht19 := hc3
    cases ht19
  · try simp only [cmpI, errD_nil, Bool.not_eq_true', Bool.not_eq_false', decide_eq_true_eq, decide_eq_false_iff_not] at hc3; have ht19 := hc3
    refine awp_skip ?_
    refine awp_seq ?_
    refine awp_region rfl ?_
    refine sP (opp_build rfl z23 bld23 rfl [.int _ _, .int _ _, .int _ _] rfl) rfl rfl ?_
    first
      | refine sP (opp_mv (v := .sl _ _ _ _) rfl rfl) rfl rfl ?_
      | refine sP (opp_mv (v := .osl _ _ _ _ _) rfl rfl) rfl rfl ?_
    refine sR (opr_call rfl rfl ent20 rfl (c20 1 ⟨1, 2, 5⟩ 2 b im hG2 hG6) (AViews.refl _ rfl)) rfl rfl rfl ?_ -- d=23 t=46
    refine sP (opp_mv (v := .tup _) rfl rfl) rfl rfl ?_
    refine sP (opp_extract rfl rfl rfl) rfl rfl ?_
    refine sP (opp_extract rfl rfl rfl) rfl rfl ?_
    refine sR (opr_alloc (n := 5) rfl z45) rfl rfl rfl ?_
    refine sR0 (opr_store (v := .agg _) (trn := (.agg _)) rfl rfl rfl rfl bi rfl rfl rfl rfl fr2 ty45 (fun _ _ h => h)) rfl rfl rfl ?_
    refine sP (opp_as (v := .err _) rfl rfl) rfl rfl ?_
    refine awp_seq ?_
    refine awp_seq ?_
    refine awp_region rfl ?_
    refine sP (opp_mv (v := .err _) rfl rfl) rfl rfl ?_
    refine sP (opp_errNil rfl rfl rfl un29 (.inr ⟨rfl, rfl⟩)) rfl rfl ?_
    refine awp_cond _ rfl (fun hc6 => ?_) (fun hc6 => ?_)
    · try simp only [cmpI, errD_nil, Bool.not_eq_true', Bool.not_eq_false', decide_eq_true_eq, decide_eq_false_iff_not] at hc6; have ht27 := hc6
      refine awp_seq ?_
      refine awp_region rfl ?_
      first
        | refine sP (opp_mv (v := .sl _ _ _ _) rfl rfl) rfl rfl ?_
        | refine sP (opp_mv (v := .osl _ _ _ _ _) rfl rfl) rfl rfl ?_
      first
        | refine sP (opp_lenSl rfl rfl un36) rfl rfl ?_
        | refine sP (opp_lenOsl rfl rfl un36) rfl rfl ?_
      refine sP (opp_cmp rfl rfl rfl rfl) rfl rfl ?_
      refine sP (opp_mv (v := .bool _) rfl rfl) rfl rfl ?_
      first
        | refine sG _ rfl rfl rfl rfl (fun hg => (And.intro gi (True.intro))) (fun hg => opp_mv (v := .sl _ _ _ _) rfl rfl) ?_
        | refine sG _ rfl rfl rfl rfl (fun hg => (And.intro gi (True.intro))) (fun hg => opp_mv (v := .osl _ _ _ _ _) rfl rfl) ?_
      first
        | refine sG _ rfl rfl rfl rfl (fun hg => (And.intro gi (True.intro))) (fun hg => opp_lenSl rfl rfl un36) ?_
        | refine sG _ rfl rfl rfl rfl (fun hg => (And.intro gi (True.intro))) (fun hg => opp_lenOsl rfl rfl un36) ?_
      refine sG _ rfl rfl rfl rfl (fun hg => (And.intro gi (And.intro gi (True.intro)))) (fun hg => opp_cmp rfl rfl rfl rfl) ?_
      refine sPick rfl rfl rfl rfl (by exact True.intro) rfl rfl (fun hg => gi) (fun hg => gi) ?_
      refine sP (opp_as (v := .bool _) rfl rfl) rfl rfl ?_
      refine awp_ret ?_
      repeat (first | refine athen_ret ?_ | refine ain_ret ?_)
      first
        | refine apost_ret (aend1 (r0 := .bool _) (.tmp .nil) (.noN rfl rfl) ⟨Wk.v ?_, rfl, rfl⟩)
        | refine apost_ret (aend1s (r0 := .bool _) (.tmp .nil) shut rfl ⟨Wk.v ?_, rfl, rfl⟩)
      refine .of (congrArg AV.bool ?_)
      by_cases h9 : im.length = 0 <;> simp [cmpI, h9]; omega
    · try simp only [cmpI, errD_nil, Bool.not_eq_true', Bool.not_eq_false', decide_eq_true_eq, decide_eq_false_iff_not] at hc6; have ht27 := hc6
      exfalso
      have hcu : (Sp.cut 1 ⟨1, 2, 5⟩ 2 im).2 = 11 := by
        have hw : Sp.within im.length 1 4096 = false := by simp only [Sp.within, decide_eq_false_iff_not]; omega
        rw [Sp.cut, if_neg (by decide), if_pos hw]
      have hst : (Sp.start 1 ⟨1, 2, 5⟩ 2 im).2 = 11 := by rw [Sp.start, if_pos (by rw [hcu]; decide)]; exact hcu
      rw [hst] at ht27; cases ht27
theorem c4 (b b2 : Bool) (im : List UInt8) (ord : List Int) (h0 : im.length ≤ 281474976710656) (h1 : ord.length ≤ 281474976710656) (hG3 : gl 3 = some (.err (.code 9))) (hG4 : gl 4 = some (.err (.code 7))) (hG5 : gl 5 = some (.err (.code 10))) (hG2 : gl 2 = some (.err (.code 12))) (hG7 : gl 7 = some (.err (.code 14))) (hG8 : gl 8 = some (.err (.code 4))) (hG6 : gl 6 = some (.err (.code 11))) :
    APure (V ea cds gl) 4 [.sl 1 b im.length (bAt im), .sl 1 b2 ord.length (iAt ord)] false (.bool true) := by
  by_cases hn : 1 ≤ im.length ∧ im.length ≤ 4096
  · exact xcFine b b2 im ord h0 h1 ⟨by decide, by decide, by decide, hn.1, hn.2⟩ hG3 hG4 hG5 hG2 hG7 hG8 hG6
  · exact xcElse b b2 im ord h0 h1 hn hG3 hG4 hG5 hG2 hG7 hG8 hG6
end
end Go.Proofs.YtgaihhimkodmmaaDoor

