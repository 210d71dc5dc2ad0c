/- Layer 22: XferArrives: an image and its acknowledgements over a link that loses and doubles: true (walks over this dump). -/
import Derived.Test.YtgaihhimkodmmaaDoorKGx
import Derived.Test.YtgaihhimkodmmaaDoorKHx
namespace Go.Proofs.YtgaihhimkodmmaaDoor
attribute [local irreducible] Tryd.prog
open Go.Fy
set_option linter.unusedSimpArgs false
set_option linter.unusedVariables false
/-- A row of numbers, whole. -/
structure Nums where
  nil : Bool
  n : Nat
  f : Nat → Int
noncomputable def lossAV (l : Nums × Nums) : AV := .agg [.sl 1 l.1.nil l.1.n (fun i => .int .i64 (l.1.f i)), .sl 1 l.2.nil l.2.n (fun i => .int .i64 (l.2.f i))]
/-- What goes out at a boundary. -/
def ntsOf (p : Int) (x : Xid) (st : Int) (im : List UInt8) (A : List Bool) (t : Int) (i : Nat) : List Note := if t ≤ i then [] else (Sp.dueL im A).map fun j => Sp.cutNote p x st im j j (Sp.total im)
def rnOf (t : Int) (i : Nat) : Nat := if t ≤ i then i else i + 1
theorem nts_get {p : Int} {x : Xid} {st : Int} {im : List UInt8} {A : List Bool} {t : Int} {i k : Nat} (h : ¬ t ≤ i) (hk : k < (Sp.dueL im A).length) : noAt (ntsOf p x st im A t i) k = noteAV (Sp.cutNote p x st im ((Sp.dueL im A).getD k 0) ((Sp.dueL im A).getD k 0) (Sp.total im)) := by
  rw [noAt, ntsOf, if_neg h]; simp [List.getD_eq_getElem?_getD, hk]
theorem arr_clean {a b c : Bool} {A2 A3 : List Bool} {D : List Nat} {k d m : Nat} (hcl : (a && !b && !c) = true) (hm : m < k + 1) (h : a = true → ∀ m, m < k → A2.getD (D.getD m 0) false = true) (ho : Sp.Ord A2 A3) (hd : D.getD k 0 = d) (h2 : b = false → c = false → A3.getD d false = true) : A3.getD (D.getD m 0) false = true := by
  simp only [Bool.and_eq_true, Bool.not_eq_true'] at hcl
  rcases Nat.lt_or_ge m k with e | e
  · exact ho _ (h hcl.1.1 m e)
  · obtain rfl : m = k := by omega
    rw [hd]; exact h2 hcl.1.2 hcl.2
section
variable {ea : Nat → Addr} {cds : List Nat} {gl : Nat → Option AV} {p : Int} {x : Xid} {st : Int} {im : List UInt8}
theorem fx24 (h : Sp.Fine p x st im) (A : List Bool) (i : Nat) (t : Int) (ht : t ≤ 9223372036854775807) (hl : A.length = Sp.total im) (hG2 : gl 2 = some (.err (.code 12))) (hG6 : gl 6 = some (.err (.code 11))) (hG3 : gl 3 = some (.err (.code 9))) :
    APure (V ea cds gl) 24 [sendAV false (Sp.sendOf p x st im A i), .int .i64 t] false (.tup [sendAV false (Sp.sendOf p x st im A (rnOf t i)), .sl 10 (decide (ntsOf p x st im A t i = [])) (ntsOf p x st im A t i).length (noAt (ntsOf p x st im A t i)), .bool (decide ((i : Int) < t)), .err .nil]) := by
  have h1 := c24 (ea := ea) (cds := cds) (gl := gl) false (Sp.sendOf p x st im A i) t (fun h => by cases h) ht hG2 hG6 hG3
  rw [h.round A i t hl] at h1
  by_cases e : t ≤ i
  · rw [if_pos e] at h1; rw [rnOf, if_pos e, ntsOf, if_pos e, decide_eq_false (show ¬ (i : Int) < t by omega)]; exact h1
  · rw [if_neg e] at h1; rw [rnOf, if_neg e, ntsOf, if_neg e, decide_eq_true (show (i : Int) < t by omega)]; exact h1
theorem fx27 (h : Sp.Fine p x st im) (A : List Bool) (r : Nat) (hl : A.length = Sp.total im) (k : Nat) (hk : k < Sp.total im) (hG2 : gl 2 = some (.err (.code 12))) (hG6 : gl 6 = some (.err (.code 11))) (hG3 : gl 3 = some (.err (.code 9))) (hG4 : gl 4 = some (.err (.code 7))) (hG8 : gl 8 = some (.err (.code 4))) (hG5 : gl 5 = some (.err (.code 10))) :
    APure (V ea cds gl) 27 [sendAV false (Sp.sendOf p x st im A r), noteAV (Sp.ackOf p x st im k)] false (.tup [sendAV false (Sp.sendOf p x st im (A.set k true) r), .bool (!A.getD k false), .err .nil]) := by
  have h1 := c27 (ea := ea) (cds := cds) (gl := gl) false (Sp.sendOf p x st im A r) (Sp.ackOf p x st im k) (fun h => by cases h) hG2 hG6 hG3 hG4 hG8 hG5
  rw [h.ack A r hl k hk] at h1
  exact h1
theorem fx28 (h : Sp.Fine p x st im) (A : List Bool) (r : Nat) (hl : A.length = Sp.total im) (hG2 : gl 2 = some (.err (.code 12))) (hG6 : gl 6 = some (.err (.code 11))) (hG3 : gl 3 = some (.err (.code 9))) :
    APure (V ea cds gl) 28 [sendAV false (Sp.sendOf p x st im A r)] false (.tup [.bool (A.all id), .err .nil]) := by
  have h1 := c28 (ea := ea) (cds := cds) (gl := gl) false (Sp.sendOf p x st im A r) hG2 hG6 hG3
  rw [h.arrived A r hl] at h1
  exact h1
theorem fx22b (h : Sp.Fine p x st im) (came : List Bool) (hl : came.length = Sp.total im) (k : Nat) (hk : k < Sp.total im) (hG3 : gl 3 = some (.err (.code 9))) (hG4 : gl 4 = some (.err (.code 7))) (hG5 : gl 5 = some (.err (.code 10))) (hG2 : gl 2 = some (.err (.code 12))) (hG7 : gl 7 = some (.err (.code 14))) (hG8 : gl 8 = some (.err (.code 4))) :
    APure (V ea cds gl) 22 [recvAV (!came.any id) (Sp.recvOf p x st im came), noteAV (Sp.cutNote p x st im k k (Sp.total im))] false (.tup [recvAV false (Sp.recvOf p x st im (came.set k true)), noteAV (Sp.ackOf p x st im k), .err .nil]) := by
  have h1 := fx22 (ea := ea) (cds := cds) (gl := gl) h came hl k hk hG3 hG4 hG5 hG2 hG7 hG8
  rw [noAt, Sp.notes_get p x st im k hk] at h1
  exact h1
set_option maxRecDepth 100000 in
theorem xaFine (b b2 : Bool) (im : List UInt8) (tr : Int) (n : Nat) (L : Nat → Nums × Nums) (h0 : im.length ≤ 281474976710656) (htr : tr ≤ 9223372036854775807) (h1 : n ≤ 281474976710656) (hL : ∀ j, (L j).1.n ≤ 281474976710656 ∧ (L j).2.n ≤ 281474976710656) (hF : Sp.Fine 0 ⟨3, 1, 9⟩ 1 im) (hG3 : gl 3 = some (.err (.code 9))) (hG4 : gl 4 = some (.err (.code 7))) (hG5 : gl 5 = some (.err (.code 10))) (hG2 : gl 2 = some (.err (.code 12))) (hG7 : gl 7 = some (.err (.code 14))) (hG8 : gl 8 = some (.err (.code 4))) (hG6 : gl 6 = some (.err (.code 11))) :
    APure (V ea cds gl) 5 [.sl 1 b im.length (bAt im), .int .i64 tr, .sl 2 b2 n (fun j => lossAV (L j))] false (.bool true) := by
  have ht := hF.tot
  have hf := hF.lo
  have hf2 := hF.hi
  refine acalls_of_body (N := 191) Tryd.func5 rfl rfl (Nat.le_of_ble_eq_true rfl) fun C hV hN hM hO => ?_
  obtain ⟨_, _, w0, G0, σ0, _, own0⟩ := C; dsimp only at hV hN hM hO; subst hV; subst hN; subst hM
  refine awp_seq ?_
  refine awp_region rfl ?_
  refine sP (opp_as (v := .bool _) rfl rfl) rfl rfl ?_
  refine awp_seq ?_
  refine awp_seq ?_
  refine awp_region rfl ?_
  refine sR (opr_call rfl rfl ent19 rfl (c19 hG3 hG4 hG5 hG2 hG7 hG8 hG6) (AViews.refl _ rfl)) rfl rfl rfl ?_ -- d=27 t=4
  refine sP (opp_not rfl rfl) rfl rfl ?_
  refine awp_cond _ rfl (fun hc3 => ?_) (fun hc3 => ?_)
  · try simp only [cmpI, errD_nil, Bool.not_eq_true', Bool.not_eq_false', decide_eq_true_eq, decide_eq_false_iff_not] at hc3; have ht28 := hc3
    cases ht28
  · try simp only [cmpI, errD_nil, Bool.not_eq_true', Bool.not_eq_false', decide_eq_true_eq, decide_eq_false_iff_not] at hc3; have ht28 := hc3
    refine awp_skip ?_
    refine awp_seq ?_
    refine awp_region rfl ?_
    refine sP (opp_build rfl z23 bld23 rfl [.int _ _, .int _ _, .int _ _] rfl) rfl rfl ?_
    first
      | refine sP (opp_mv (v := .sl _ _ _ _) rfl rfl) rfl rfl ?_
      | refine sP (opp_mv (v := .osl _ _ _ _ _) rfl rfl) rfl rfl ?_
    refine sR (opr_call rfl rfl ent20 rfl (fx20 hF b hG2 hG6) (AViews.refl _ rfl)) rfl rfl rfl ?_ -- d=32 t=46
    refine sP (opp_mv (v := .tup _) rfl rfl) rfl rfl ?_
    refine sP (opp_extract rfl rfl rfl) rfl rfl ?_
    refine sP (opp_extract rfl rfl rfl) rfl rfl ?_
    refine sR (opr_alloc (n := 7) rfl z45) rfl rfl rfl ?_
    refine sR0 (opr_store (v := .agg _) (trn := (.agg _)) rfl rfl rfl rfl bi rfl rfl rfl rfl fr2 ty45 (fun _ _ h => h)) rfl rfl rfl ?_
    refine sP (opp_as (v := .err _) rfl rfl) rfl rfl ?_
    refine awp_seq ?_
    refine awp_seq ?_
    refine awp_region rfl ?_
    refine sP (opp_mv (v := .err _) rfl rfl) rfl rfl ?_
    refine sP (opp_errNil rfl rfl rfl un29 (.inr ⟨rfl, rfl⟩)) rfl rfl ?_
    refine awp_cond _ rfl (fun hc6 => ?_) (fun hc6 => ?_)
    · try simp only [cmpI, errD_nil, Bool.not_eq_true', Bool.not_eq_false', decide_eq_true_eq, decide_eq_false_iff_not] at hc6; have ht36 := hc6
      cases ht36
    · try simp only [cmpI, errD_nil, Bool.not_eq_true', Bool.not_eq_false', decide_eq_true_eq, decide_eq_false_iff_not] at hc6; have ht36 := hc6
      refine awp_skip ?_
      refine awp_seq ?_
      refine awp_region rfl ?_
      refine sR (opr_alloc (n := 9) rfl z55) rfl rfl rfl ?_
      refine awp_seq ?_
      refine awp_seq ?_
      refine awp_region rfl ?_
      first
        | refine sP (opp_mv (v := .sl _ _ _ _) rfl rfl) rfl rfl ?_
        | refine sP (opp_mv (v := .osl _ _ _ _ _) rfl rfl) rfl rfl ?_
      first
        | refine sP (opp_lenSl rfl rfl un61) rfl rfl ?_
        | refine sP (opp_lenOsl rfl rfl un61) rfl rfl ?_
      refine sP (opp_mv (v := .int _ _) rfl rfl) rfl rfl ?_
      refine awp_block ?_
      refine awp_loopK (ι := Nat × List Bool × List Bool) (fun p => p.1 ≤ n ∧ p.2.1.length = Sp.total im ∧ p.2.2.length = Sp.total im ∧ Sp.Ord p.2.1 p.2.2) (fun p => [(6, .top), (10, .top), (11, .top), (12, .top), (13, .top), (14, .top), (15, .top), (16, .top), (17, .top), (18, .top), (19, .top), (20, .top), (21, .top), (22, .top), (23, .top), (24, .top), (25, .top), (26, .top), (47, .int .i64 p.1), (48, .top), (49, .top), (50, .top), (51, .top), (52, .top), (53, .top), (54, .top), (55, .top), (56, .top), (57, .top), (58, .top), (59, .top), (60, .top), (61, .top), (62, .top), (63, .top), (64, .top), (65, .top), (66, .top), (67, .top), (68, .top), (69, .top), (70, .top), (71, .top), (72, .top), (73, .top), (74, .top), (75, .top), (76, .top), (77, .top), (78, .top), (79, .top), (80, .top), (81, .top), (82, .top), (83, .top), (84, .top), (85, .top), (86, .top), (87, .top), (88, .top), (89, .top), (90, .top), (91, .top), (92, .top), (93, .top), (94, .top), (95, .top), (96, .top), (97, .top), (98, .top), (99, .top), (100, .top), (101, .top), (102, .top), (103, .top), (104, .top), (105, .top), (106, .top), (107, .top), (108, .top), (109, .top), (110, .top), (111, .top), (112, .top), (113, .top), (114, .top), (115, .top), (116, .top), (117, .top), (118, .top), (119, .top), (120, .top), (121, .top), (122, .top), (123, .top), (124, .top), (125, .top), (126, .top), (127, .top), (128, .top), (129, .top), (130, .top), (131, .top), (132, .top), (133, .top), (134, .top), (135, .top), (136, .top), (137, .top), (138, .top), (139, .top), (140, .top), (141, .top), (142, .top), (143, .top), (144, .top), (145, .top), (146, .top), (147, .top), (148, .top), (149, .top), (150, .top), (151, .top), (152, .top), (153, .top), (154, .top), (155, .top), (156, .top), (157, .top), (158, .top), (159, .top), (160, .top), (161, .top), (162, .top), (163, .top), (164, .top), (165, .top), (166, .top), (167, .top), (168, .top), (169, .top), (170, .top), (171, .top), (172, .top), (173, .top), (174, .top), (175, .top), (176, .top), (177, .top), (178, .top), (179, .top), (180, .top), (181, .top), (182, .top), (183, .top), (184, .top), (185, .top), (186, .top), (187, .top), (188, .top), (189, .top), (190, .top)]) (fun p => [(7, some (sendAV false (Sp.sendOf 0 ⟨3, 1, 9⟩ 1 im p.2.1 p.1))), (9, some (recvAV (!p.2.2.any id) (Sp.recvOf 0 ⟨3, 1, 9⟩ 1 im p.2.2)))]) [] (fun p => n - p.1) ((0, List.replicate (Sp.total im) false, List.replicate (Sp.total im) false)) (⟨Nat.zero_le _, by simp, by simp, Sp.Ord.refl _⟩) (by
        refine imp_over [] rfl rfl (by kernel_rfl) ?_ ?_
        · refine And.intro wkv ?_
          refine And.intro wkv ?_
          refine And.intro wkv ?_
          refine And.intro wkv ?_
          refine And.intro wkv ?_
          refine And.intro wkv ?_
          refine And.intro wkv ?_
          refine And.intro wkv ?_
          refine And.intro wkv ?_
          refine And.intro wkv ?_
          refine And.intro wkv ?_
          refine And.intro wkv ?_
          refine And.intro wkv ?_
          refine And.intro wkv ?_
          refine And.intro wkv ?_
          refine And.intro wkv ?_
          refine And.intro wkv ?_
          refine And.intro wkv ?_
          refine And.intro wkv ?_
          refine And.intro wkv ?_
          refine And.intro wkv ?_
          refine And.intro wkv ?_
          refine And.intro wkv ?_
          refine And.intro wkv ?_
          refine And.intro wkv ?_
          refine And.intro wkv ?_
          refine And.intro wkv ?_
          refine And.intro wkv ?_
          refine And.intro wkv ?_
          refine And.intro wkv ?_
          refine And.intro wkv ?_
          refine And.intro wkv ?_
          refine And.intro wkv ?_
          refine And.intro wkv ?_
          refine And.intro wkv ?_
          refine And.intro wkv ?_
          refine And.intro wkv ?_
          refine And.intro wkv ?_
          refine And.intro wkv ?_
          refine And.intro wkv ?_
          refine And.intro wkv ?_
          refine And.intro wkv ?_
          refine And.intro wkv ?_
          refine And.intro wkv ?_
          refine And.intro wkv ?_
          refine And.intro wkv ?_
          refine And.intro wkv ?_
          refine And.intro wkv ?_
          refine And.intro wkv ?_
          refine And.intro wkv ?_
          refine And.intro wkv ?_
          refine And.intro wkv ?_
          refine And.intro wkv ?_
          refine And.intro wkv ?_
          refine And.intro wkv ?_
          refine And.intro wkv ?_
          refine And.intro wkv ?_
          refine And.intro wkv ?_
          refine And.intro wkv ?_
          refine And.intro wkv ?_
          refine And.intro wkv ?_
          refine And.intro wkv ?_
          refine And.intro wkv ?_
          refine And.intro wkv ?_
          refine And.intro wkv ?_
          refine And.intro wkv ?_
          refine And.intro wkv ?_
          refine And.intro wkv ?_
          refine And.intro wkv ?_
          refine And.intro wkv ?_
          refine And.intro wkv ?_
          refine And.intro wkv ?_
          refine And.intro wkv ?_
          refine And.intro wkv ?_
          refine And.intro wkv ?_
          refine And.intro wkv ?_
          refine And.intro wkv ?_
          refine And.intro wkv ?_
          refine And.intro wkv ?_
          refine And.intro wkv ?_
          refine And.intro wkv ?_
          refine And.intro wkv ?_
          refine And.intro wkv ?_
          refine And.intro wkv ?_
          refine And.intro wkv ?_
          refine And.intro wkv ?_
          refine And.intro wkv ?_
          refine And.intro wkv ?_
          refine And.intro wkv ?_
          refine And.intro wkv ?_
          refine And.intro wkv ?_
          refine And.intro wkv ?_
          refine And.intro wkv ?_
          refine And.intro wkv ?_
          refine And.intro wkv ?_
          refine And.intro wkv ?_
          refine And.intro wkv ?_
          refine And.intro wkv ?_
          refine And.intro wkv ?_
          refine And.intro wkv ?_
          refine And.intro wkv ?_
          refine And.intro wkv ?_
          refine And.intro wkv ?_
          refine And.intro wkv ?_
          refine And.intro wkv ?_
          refine And.intro wkv ?_
          refine And.intro wkv ?_
          refine And.intro wkv ?_
          refine And.intro wkv ?_
          refine And.intro wkv ?_
          refine And.intro wkv ?_
          refine And.intro wkv ?_
          refine And.intro wkv ?_
          refine And.intro wkv ?_
          refine And.intro wkv ?_
          refine And.intro wkv ?_
          refine And.intro wkv ?_
          refine And.intro wkv ?_
          refine And.intro wkv ?_
          refine And.intro wkv ?_
          refine And.intro wkv ?_
          refine And.intro wkv ?_
          refine And.intro wkv ?_
          refine And.intro wkv ?_
          refine And.intro wkv ?_
          refine And.intro wkv ?_
          refine And.intro wkv ?_
          refine And.intro wkv ?_
          refine And.intro wkv ?_
          refine And.intro wkv ?_
          refine And.intro wkv ?_
          refine And.intro wkv ?_
          refine And.intro wkv ?_
          refine And.intro wkv ?_
          refine And.intro wkv ?_
          refine And.intro wkv ?_
          refine And.intro wkv ?_
          refine And.intro wkv ?_
          refine And.intro wkv ?_
          refine And.intro wkv ?_
          refine And.intro wkv ?_
          refine And.intro wkv ?_
          refine And.intro wkv ?_
          refine And.intro wkv ?_
          refine And.intro wkv ?_
          refine And.intro wkv ?_
          refine And.intro wkv ?_
          refine And.intro wkv ?_
          refine And.intro wkv ?_
          refine And.intro wkv ?_
          refine And.intro wkv ?_
          refine And.intro wkv ?_
          refine And.intro wkv ?_
          refine And.intro wkv ?_
          refine And.intro wkv ?_
          refine And.intro wkv ?_
          refine And.intro wkv ?_
          refine And.intro wkv ?_
          refine And.intro wkv ?_
          refine And.intro wkv ?_
          refine And.intro wkv ?_
          refine And.intro wkv ?_
          exact True.intro
        · refine And.intro (And.intro rfl (And.intro rfl (Exists.intro _ (And.intro rfl wkc)))) ?_
          refine And.intro (And.intro rfl (And.intro rfl (Exists.intro _ (And.intro rfl (by have e : Sp.recvOf 0 ⟨3, 1, 9⟩ 1 im (List.replicate (Sp.total im) false) = Sp.zeroR := (by rw [Sp.recvOf, Sp.any_replicate]; rfl); show WkC _ (recvAV _ _); rw [e, Sp.any_replicate]; exact Wk.c wkt))))) ?_
          exact True.intro
        ) ?_
      intro p hi1; obtain ⟨i, A, cm⟩ := p; dsimp only at hi1 ⊢; have hlA := hi1.2.1; have hlc := hi1.2.2.1; have hoA := hi1.2.2.2
      refine awp_seq ?_
      refine awp_region rfl ?_
      refine sP (opp_cmp rfl rfl rfl rfl) rfl rfl ?_
      refine awp_seq ?_
      refine awp_cond _ rfl (fun hc10 => ?_) (fun hc10 => ?_)
      · try simp only [cmpI, errD_nil, Bool.not_eq_true', Bool.not_eq_false', decide_eq_true_eq, decide_eq_false_iff_not] at hc10; have ht48 := hc10
        refine awp_skip ?_
        refine awp_seq ?_
        refine awp_block ?_
        refine awp_seq ?_
        refine awp_region rfl ?_
        refine sP (opp_mv (v := .int _ _) rfl rfl) rfl rfl ?_
        first
          | refine sP (opp_indexSl rfl rfl rfl el61 (by omega) (by omega)) rfl rfl ?_
          | refine sP (opp_indexOsl0 rfl rfl rfl el61 (by omega) (by omega)) rfl rfl ?_
          | refine sP (opp_indexOsl rfl rfl rfl el61 (by omega) (by omega)) rfl rfl ?_
        first
          | refine sP (opp_loadP rfl rfl rfl rfl bi rfl ty63) rfl rfl ?_
          | refine sP (opp_loadF rfl rfl ty63) rfl rfl ?_
        refine sR (opr_alloc (n := 11) rfl z63) rfl rfl rfl ?_
        refine sP (opp_as (v := .int _ _) rfl rfl) rfl rfl ?_
        refine sR0 (opr_store (v := .agg _) (trn := (.agg _)) rfl rfl rfl rfl bi rfl rfl rfl rfl fr2 ty63 (fun _ _ h => h)) rfl rfl rfl ?_
        refine awp_seq ?_
        generalize hl0 : L (Int.toNat (i : Int)) = l
        have hlL : l.1.n ≤ 281474976710656 ∧ l.2.n ≤ 281474976710656 := by rw [← hl0]; exact hL _
        refine awp_region rfl ?_
        first
          | refine sP (opp_loadP rfl rfl rfl rfl bi rfl ty45) rfl rfl ?_
          | refine sP (opp_loadF rfl rfl ty45) rfl rfl ?_
        refine sP (opp_mv (v := .int _ _) rfl rfl) rfl rfl ?_
        refine sR (opr_call rfl rfl ent24 rfl (fx24 hF A i tr htr hlA hG2 hG6 hG3) (AViews.refl _ rfl)) rfl rfl rfl ?_ -- d=55 t=64
        refine sP (opp_mv (v := .tup _) rfl rfl) rfl rfl ?_
        refine sP (opp_extract rfl rfl rfl) rfl rfl ?_
        refine sP (opp_extract rfl rfl rfl) rfl rfl ?_
        refine sP (opp_extract rfl rfl rfl) rfl rfl ?_
        refine sP (opp_extract rfl rfl rfl) rfl rfl ?_
        refine sR (opr_alloc (n := 12) rfl z45) rfl rfl rfl ?_
        refine sR0 (opr_store (v := .agg _) (trn := (.agg _)) rfl rfl rfl rfl bi rfl rfl rfl rfl fr2 ty45 (fun _ _ h => h)) rfl rfl rfl ?_
        first
          | refine sP (opp_as (v := .sl _ _ _ _) rfl rfl) rfl rfl ?_
          | refine sP (opp_as (v := .osl _ _ _ _ _) rfl rfl) rfl rfl ?_
        refine sP (opp_as (v := .bool _) rfl rfl) rfl rfl ?_
        refine sP (opp_as (v := .err _) rfl rfl) rfl rfl ?_
        refine awp_seq ?_
        refine awp_seq ?_
        refine awp_region rfl ?_
        refine sP (opp_mv (v := .err _) rfl rfl) rfl rfl ?_
        refine sP (opp_errNil rfl rfl rfl un29 (.inr ⟨rfl, rfl⟩)) rfl rfl ?_
        refine sP (opp_mv (v := .bool _) rfl rfl) rfl rfl ?_
        refine sG _ rfl rfl rfl rfl (fun hg => (And.intro gi (True.intro))) (fun hg => opp_mv (v := .bool _) rfl rfl) ?_
        refine sG _ rfl rfl rfl rfl (fun hg => (And.intro gi (True.intro))) (fun hg => opp_mv (v := .int _ _) rfl rfl) ?_
        refine sG _ rfl rfl rfl rfl (fun hg => (And.intro gi (True.intro))) (fun hg => opp_mv (v := .int _ _) rfl rfl) ?_
        refine sG _ rfl rfl rfl rfl (fun hg => (And.intro gi (And.intro gi (True.intro)))) (fun hg => opp_cmp rfl rfl rfl rfl) ?_
        refine sG _ rfl rfl rfl rfl (fun hg => (And.intro gi (And.intro gi (True.intro)))) (fun hg => opp_boolEq rfl rfl rfl un4 (.inr ⟨rfl, rfl⟩)) ?_
        refine sPick rfl rfl rfl rfl (by exact True.intro) rfl rfl (fun hg => gi) (fun hg => gi) ?_
        refine awp_cond _ rfl (fun hc14 => ?_) (fun hc14 => ?_)
        · try simp only [cmpI, errD_nil, Bool.not_eq_true', Bool.not_eq_false', decide_eq_true_eq, decide_eq_false_iff_not] at hc14; have ht68 := hc14
          exfalso
          simp [ErrD.isNil] at ht68
        · try simp only [cmpI, errD_nil, Bool.not_eq_true', Bool.not_eq_false', decide_eq_true_eq, decide_eq_false_iff_not] at hc14; have ht68 := hc14
          refine awp_skip ?_
          refine awp_seq ?_
          refine awp_seq ?_
          refine awp_region rfl ?_
          refine sP (opp_mv (v := .bool _) rfl rfl) rfl rfl ?_
          refine sP (opp_not rfl rfl) rfl rfl ?_
          refine awp_cond _ rfl (fun hc16 => ?_) (fun hc16 => ?_)
          · try simp only [cmpI, errD_nil, Bool.not_eq_true', Bool.not_eq_false', decide_eq_true_eq, decide_eq_false_iff_not] at hc16; have ht70 := hc16
            refine awp_seq ?_
            refine awp_region rfl ?_
            first
              | refine sP (opp_mv (v := .sl _ _ _ _) rfl rfl) rfl rfl ?_
              | refine sP (opp_mv (v := .osl _ _ _ _ _) rfl rfl) rfl rfl ?_
            first
              | refine sP (opp_lenSl rfl rfl un48) rfl rfl ?_
              | refine sP (opp_lenOsl rfl rfl un48) rfl rfl ?_
            refine sP (opp_cmp rfl rfl rfl rfl) rfl rfl ?_
            refine sP (opp_as (v := .bool _) rfl rfl) rfl rfl ?_
            refine awp_ret ?_
            repeat (first | refine athen_ret ?_ | refine ain_ret ?_)
            first
              | refine apost_ret (aend1 (r0 := .bool _) (.tmp .nil) (.noN rfl rfl) ⟨Wk.v ?_, rfl, rfl⟩)
              | refine apost_ret (aend1s (r0 := .bool _) (.tmp .nil) shut rfl ⟨Wk.v ?_, rfl, rfl⟩)
            have hit : tr ≤ (i : Int) := by simpa using ht70
            refine .of (congrArg AV.bool ?_)
            rw [ntsOf, if_pos hit]; simp [cmpI]
          · try simp only [cmpI, errD_nil, Bool.not_eq_true', Bool.not_eq_false', decide_eq_true_eq, decide_eq_false_iff_not] at hc16; have ht70 := hc16
            refine awp_skip ?_
            refine awp_seq ?_
            have hit : ¬ tr ≤ (i : Int) := by simpa using ht70
            have hnl : (ntsOf 0 ⟨3, 1, 9⟩ 1 im A tr i).length = (Sp.dueL im A).length := by rw [ntsOf, if_neg hit]; simp
            have hdl := Sp.dueL_len im A
            refine awp_region rfl ?_
            refine sP (opp_as (v := .bool _) rfl rfl) rfl rfl ?_
            refine awp_seq ?_
            refine awp_seq ?_
            refine awp_region rfl ?_
            first
              | refine sP (opp_mv (v := .sl _ _ _ _) rfl rfl) rfl rfl ?_
              | refine sP (opp_mv (v := .osl _ _ _ _ _) rfl rfl) rfl rfl ?_
            first
              | refine sP (opp_lenSl rfl rfl un48) rfl rfl ?_
              | refine sP (opp_lenOsl rfl rfl un48) rfl rfl ?_
            refine sP (opp_mv (v := .int _ _) rfl rfl) rfl rfl ?_
            refine awp_block ?_
            refine awp_loopK (ι := Nat × List Bool × List Bool × Bool) (fun p => p.1 ≤ (Sp.dueL im A).length ∧ p.2.1.length = Sp.total im ∧ p.2.2.1.length = Sp.total im ∧ Sp.Ord A p.2.1 ∧ Sp.Ord p.2.1 p.2.2.1 ∧ (p.2.2.2 = true → ∀ m, m < p.1 → p.2.1.getD ((Sp.dueL im A).getD m 0) false = true)) (fun p => [(6, .top), (16, .bool p.2.2.2), (17, .top), (18, .top), (19, .top), (20, .top), (21, .top), (22, .top), (23, .top), (76, .int .i64 p.1), (77, .top), (78, .top), (79, .top), (80, .top), (81, .top), (82, .top), (83, .top), (84, .top), (85, .top), (86, .top), (87, .top), (88, .top), (89, .top), (90, .top), (91, .top), (92, .top), (93, .top), (94, .top), (95, .top), (96, .top), (97, .top), (98, .top), (99, .top), (100, .top), (101, .top), (102, .top), (103, .top), (104, .top), (105, .top), (106, .top), (107, .top), (108, .top), (109, .top), (110, .top), (111, .top), (112, .top), (113, .top), (114, .top), (115, .top), (116, .top), (117, .top), (118, .top), (119, .top), (120, .top), (121, .top), (122, .top), (123, .top), (124, .top), (125, .top), (126, .top), (127, .top), (128, .top), (129, .top), (130, .top), (131, .top), (132, .top), (133, .top), (134, .top), (135, .top), (136, .top), (137, .top), (138, .top), (139, .top), (140, .top), (141, .top), (142, .top), (143, .top), (144, .top), (145, .top), (146, .top), (147, .top), (148, .top), (149, .top), (150, .top), (151, .top), (152, .top)]) (fun p => [(12, some (sendAV false (Sp.sendOf 0 ⟨3, 1, 9⟩ 1 im p.2.1 (rnOf tr i)))), (9, some (recvAV (!p.2.2.1.any id) (Sp.recvOf 0 ⟨3, 1, 9⟩ 1 im p.2.2.1)))]) [] (fun p => (Sp.dueL im A).length - p.1) ((0, A, cm, true)) (⟨Nat.zero_le _, hlA, hlc, Sp.Ord.refl _, hoA, fun _ m hm => absurd hm (Nat.not_lt_zero _)⟩) (by
              refine imp_over [] rfl rfl (by kernel_rfl) ?_ ?_
              · refine And.intro wkv ?_
                refine And.intro wkv ?_
                refine And.intro wkv ?_
                refine And.intro wkv ?_
                refine And.intro wkv ?_
                refine And.intro wkv ?_
                refine And.intro wkv ?_
                refine And.intro wkv ?_
                refine And.intro wkv ?_
                refine And.intro wkv ?_
                refine And.intro wkv ?_
                refine And.intro wkv ?_
                refine And.intro wkv ?_
                refine And.intro wkv ?_
                refine And.intro wkv ?_
                refine And.intro wkv ?_
                refine And.intro wkv ?_
                refine And.intro wkv ?_
                refine And.intro wkv ?_
                refine And.intro wkv ?_
                refine And.intro wkv ?_
                refine And.intro wkv ?_
                refine And.intro wkv ?_
                refine And.intro wkv ?_
                refine And.intro wkv ?_
                refine And.intro wkv ?_
                refine And.intro wkv ?_
                refine And.intro wkv ?_
                refine And.intro wkv ?_
                refine And.intro wkv ?_
                refine And.intro wkv ?_
                refine And.intro wkv ?_
                refine And.intro wkv ?_
                refine And.intro wkv ?_
                refine And.intro wkv ?_
                refine And.intro wkv ?_
                refine And.intro wkv ?_
                refine And.intro wkv ?_
                refine And.intro wkv ?_
                refine And.intro wkv ?_
                refine And.intro wkv ?_
                refine And.intro wkv ?_
                refine And.intro wkv ?_
                refine And.intro wkv ?_
                refine And.intro wkv ?_
                refine And.intro wkv ?_
                refine And.intro wkv ?_
                refine And.intro wkv ?_
                refine And.intro wkv ?_
                refine And.intro wkv ?_
                refine And.intro wkv ?_
                refine And.intro wkv ?_
                refine And.intro wkv ?_
                refine And.intro wkv ?_
                refine And.intro wkv ?_
                refine And.intro wkv ?_
                refine And.intro wkv ?_
                refine And.intro wkv ?_
                refine And.intro wkv ?_
                refine And.intro wkv ?_
                refine And.intro wkv ?_
                refine And.intro wkv ?_
                refine And.intro wkv ?_
                refine And.intro wkv ?_
                refine And.intro wkv ?_
                refine And.intro wkv ?_
                refine And.intro wkv ?_
                refine And.intro wkv ?_
                refine And.intro wkv ?_
                refine And.intro wkv ?_
                refine And.intro wkv ?_
                refine And.intro wkv ?_
                refine And.intro wkv ?_
                refine And.intro wkv ?_
                refine And.intro wkv ?_
                refine And.intro wkv ?_
                refine And.intro wkv ?_
                refine And.intro wkv ?_
                refine And.intro wkv ?_
                refine And.intro wkv ?_
                refine And.intro wkv ?_
                refine And.intro wkv ?_
                refine And.intro wkv ?_
                refine And.intro wkv ?_
                refine And.intro wkv ?_
                refine And.intro wkv ?_
                exact True.intro
              · refine And.intro (And.intro rfl (And.intro rfl (Exists.intro _ (And.intro rfl wkc)))) ?_
                refine And.intro (And.intro rfl (And.intro rfl (Exists.intro _ (And.intro rfl wkc)))) ?_
                exact True.intro
              ) ?_
            intro p hi2; obtain ⟨k, A2, cm2, cl⟩ := p; dsimp only at hi2 ⊢; have hl2 := hi2.2.1; have hc2l := hi2.2.2.1
            refine awp_seq ?_
            refine awp_region rfl ?_
            refine sP (opp_cmp rfl rfl rfl rfl) rfl rfl ?_
            refine awp_seq ?_
            refine awp_cond _ rfl (fun hc21 => ?_) (fun hc21 => ?_)
            · try simp only [cmpI, errD_nil, Bool.not_eq_true', Bool.not_eq_false', decide_eq_true_eq, decide_eq_false_iff_not] at hc21; have ht77 := hc21
              refine awp_skip ?_
              refine awp_seq ?_
              refine awp_block ?_
              refine awp_seq ?_
              have hk : k < (Sp.dueL im A).length := by omega
              refine awp_region rfl ?_
              refine sP (opp_mv (v := .int _ _) rfl rfl) rfl rfl ?_
              first
                | refine sP (opp_indexSl rfl rfl rfl el48 (by omega) (by omega)) rfl rfl ?_
                | refine sP (opp_indexOsl0 rfl rfl rfl el48 (by omega) (by omega)) rfl rfl ?_
                | refine sP (opp_indexOsl rfl rfl rfl el48 (by omega) (by omega)) rfl rfl ?_
              first
                | refine sP (opp_loadP rfl rfl rfl rfl bi rfl ty26) rfl rfl ?_
                | refine sP (opp_loadF rfl rfl ty26) rfl rfl ?_
              rw [show Int.toNat (k : Int) = k from rfl, nts_get hit hk]
              have hdg := Sp.dueL_get hk
              have hiv := hi2.2.2.2.2.2
              generalize hdd : (Sp.dueL im A).getD k 0 = d at hdg ⊢
              obtain ⟨hd, hAd⟩ := hdg
              have hsl : (Sp.sendOf 0 ⟨3, 1, 9⟩ 1 im A i).acked.length = A.length := rfl
              have hix : (Sp.cutNote 0 ⟨3, 1, 9⟩ 1 im d d (Sp.total im)).index = (d : Int) := rfl
              refine sR (opr_alloc (n := 18) rfl z26) rfl rfl rfl ?_
              refine sP (opp_as (v := .int _ _) rfl rfl) rfl rfl ?_
              refine sR0 (opr_store (v := .agg _) (trn := (.agg _)) rfl rfl rfl rfl bi rfl rfl rfl rfl fr2 ty26 (fun _ _ h => h)) rfl rfl rfl ?_
              refine awp_seq ?_
              refine awp_seq ?_
              refine awp_region rfl ?_
              first
                | refine sP (opp_fieldP rfl rfl fld26_4 rfl) rfl rfl ?_
                | refine sP (opp_fieldF rfl rfl rfl fld26_4 rfl rfl) rfl rfl ?_
              first
                | refine sP (opp_loadP rfl rfl rfl rfl bi rfl ty3) rfl rfl ?_
                | refine sP (opp_loadF rfl rfl ty3) rfl rfl ?_
              refine sP (opp_cmp rfl rfl rfl rfl) rfl rfl ?_
              refine sP (opp_mv (v := .bool _) rfl rfl) rfl rfl ?_
              first
                | refine sG _ rfl rfl rfl rfl (fun hg => (And.intro gi (True.intro))) (fun hg => opp_fieldP rfl rfl fld26_4 rfl) ?_
                | refine sG _ rfl rfl rfl rfl (fun hg => (And.intro gi (True.intro))) (fun hg => opp_fieldF rfl rfl rfl fld26_4 rfl rfl) ?_
              first
                | refine sG _ rfl rfl rfl rfl (fun hg => (And.intro gi (True.intro))) (fun hg => opp_loadP rfl rfl rfl rfl bi rfl ty3) ?_
                | refine sG _ rfl rfl rfl rfl (fun hg => (And.intro gi (True.intro))) (fun hg => opp_loadF rfl rfl ty3) ?_
              first
                | refine sG _ rfl rfl rfl rfl (fun hg => (And.intro gi (True.intro))) (fun hg => opp_fieldP rfl rfl fld45_4 rfl) ?_
                | refine sG _ rfl rfl rfl rfl (fun hg => (And.intro gi (True.intro))) (fun hg => opp_fieldF rfl rfl rfl fld45_4 rfl rfl) ?_
              first
                | refine sG _ rfl rfl rfl rfl (fun hg => (And.intro gi (True.intro))) (fun hg => opp_loadP rfl rfl rfl rfl bi rfl ty43) ?_
                | refine sG _ rfl rfl rfl rfl (fun hg => (And.intro gi (True.intro))) (fun hg => opp_loadF rfl rfl ty43) ?_
              first
                | refine sG _ rfl rfl rfl rfl (fun hg => (And.intro gi (True.intro))) (fun hg => opp_lenSl rfl rfl un43) ?_
                | refine sG _ rfl rfl rfl rfl (fun hg => (And.intro gi (True.intro))) (fun hg => opp_lenOsl rfl rfl un43) ?_
              refine sG _ rfl rfl rfl rfl (fun hg => (And.intro gi (And.intro gi (True.intro)))) (fun hg => opp_cmp rfl rfl rfl rfl) ?_
              refine sPick rfl rfl rfl rfl (by exact True.intro) rfl rfl (fun hg => gi) (fun hg => gi) ?_
              refine sP (opp_mv (v := .bool _) rfl rfl) rfl rfl ?_
              first
                | refine sG _ rfl rfl rfl rfl (fun hg => (And.intro gi (True.intro))) (fun hg => opp_fieldP rfl rfl fld45_4 rfl) ?_
                | refine sG _ rfl rfl rfl rfl (fun hg => (And.intro gi (True.intro))) (fun hg => opp_fieldF rfl rfl rfl fld45_4 rfl rfl) ?_
              first
                | refine sG _ rfl rfl rfl rfl (fun hg => (And.intro gi (True.intro))) (fun hg => opp_loadP rfl rfl rfl rfl bi rfl ty43) ?_
                | refine sG _ rfl rfl rfl rfl (fun hg => (And.intro gi (True.intro))) (fun hg => opp_loadF rfl rfl ty43) ?_
              first
                | refine sG _ rfl rfl rfl rfl (fun hg => (And.intro gi (True.intro))) (fun hg => opp_fieldP rfl rfl fld26_4 rfl) ?_
                | refine sG _ rfl rfl rfl rfl (fun hg => (And.intro gi (True.intro))) (fun hg => opp_fieldF rfl rfl rfl fld26_4 rfl rfl) ?_
              first
                | refine sG _ rfl rfl rfl rfl (fun hg => (And.intro gi (True.intro))) (fun hg => opp_loadP rfl rfl rfl rfl bi rfl ty3) ?_
                | refine sG _ rfl rfl rfl rfl (fun hg => (And.intro gi (True.intro))) (fun hg => opp_loadF rfl rfl ty3) ?_
              first
                | refine sG _ rfl rfl rfl rfl (fun hg => (And.intro gi (And.intro gi (True.intro)))) (fun hg => opp_indexSl rfl rfl rfl el43 (by omega) (by omega)) ?_
                | refine sG _ rfl rfl rfl rfl (fun hg => (And.intro gi (And.intro gi (True.intro)))) (fun hg => opp_indexOsl0 rfl rfl rfl el43 (by omega) (by omega)) ?_
                | refine sG _ rfl rfl rfl rfl (fun hg => (And.intro gi (And.intro gi (True.intro)))) (fun hg => opp_indexOsl rfl rfl rfl el43 (by omega) (by omega)) ?_
              first
                | refine sG _ rfl rfl rfl rfl (fun hg => (And.intro gi (True.intro))) (fun hg => opp_loadP rfl rfl rfl rfl bi rfl ty4) ?_
                | refine sG _ rfl rfl rfl rfl (fun hg => (And.intro gi (True.intro))) (fun hg => opp_loadF rfl rfl ty4) ?_
              refine sPick rfl rfl rfl rfl (by exact True.intro) rfl rfl (fun hg => gi) (fun hg => gi) ?_
              refine awp_cond _ rfl (fun hc24 => ?_) (fun hc24 => ?_)
              · try simp only [cmpI, errD_nil, Bool.not_eq_true', Bool.not_eq_false', decide_eq_true_eq, decide_eq_false_iff_not] at hc24; have ht99 := hc24
                exfalso
                rw [hix, hsl, Int.toNat_natCast, show (Sp.sendOf 0 ⟨3, 1, 9⟩ 1 im A i).acked.getD d false = A.getD d false from rfl, hAd, decide_eq_false (show ¬ (d : Int) < 0 by omega), decide_eq_false (show ¬ (A.length : Int) ≤ d by omega)] at ht99
                cases ht99
              · try simp only [cmpI, errD_nil, Bool.not_eq_true', Bool.not_eq_false', decide_eq_true_eq, decide_eq_false_iff_not] at hc24; have ht99 := hc24
                refine awp_skip ?_
                refine awp_seq ?_
                refine awp_seq ?_
                refine awp_region rfl ?_
                refine sP (opp_as (v := .int _ _) rfl rfl) rfl rfl ?_
                refine awp_block ?_
                refine awp_loopK (ι := Nat × List Bool × List Bool) (fun p => p.1 ≤ Sp.times (Sp.fate l.1.n l.1.f k) ∧ p.2.1.length = Sp.total im ∧ p.2.2.length = Sp.total im ∧ Sp.Ord A2 p.2.1 ∧ Sp.Ord p.2.1 p.2.2 ∧ (1 ≤ p.1 → 1 ≤ Sp.times (Sp.fate l.2.n l.2.f k) → p.2.1.getD d false = true)) (fun p => [(6, .top), (19, .int .i64 p.1), (20, .top), (21, .top), (22, .top), (23, .top), (100, .top), (101, .top), (102, .top), (103, .top), (104, .top), (105, .top), (106, .top), (107, .top), (108, .top), (109, .top), (110, .top), (111, .top), (112, .top), (113, .top), (114, .top), (115, .top), (116, .top), (117, .top), (118, .top), (119, .top), (120, .top), (121, .top), (122, .top), (123, .top), (124, .top), (125, .top), (126, .top), (127, .top), (128, .top), (129, .top), (130, .top), (131, .top), (132, .top), (133, .top), (134, .top), (135, .top), (136, .top)]) (fun p => [(12, some (sendAV false (Sp.sendOf 0 ⟨3, 1, 9⟩ 1 im p.2.1 (rnOf tr i)))), (9, some (recvAV (!p.2.2.any id) (Sp.recvOf 0 ⟨3, 1, 9⟩ 1 im p.2.2)))]) [] (fun p => Sp.times (Sp.fate l.1.n l.1.f k) - p.1) ((0, A2, cm2)) (⟨Nat.zero_le _, hl2, hc2l, Sp.Ord.refl _, hi2.2.2.2.2.1, fun h => absurd h (Nat.not_succ_le_zero 0)⟩) (by
                  refine imp_over [] rfl rfl (by kernel_rfl) ?_ ?_
                  · refine And.intro wkv ?_
                    refine And.intro wkv ?_
                    refine And.intro wkv ?_
                    refine And.intro wkv ?_
                    refine And.intro wkv ?_
                    refine And.intro wkv ?_
                    refine And.intro wkv ?_
                    refine And.intro wkv ?_
                    refine And.intro wkv ?_
                    refine And.intro wkv ?_
                    refine And.intro wkv ?_
                    refine And.intro wkv ?_
                    refine And.intro wkv ?_
                    refine And.intro wkv ?_
                    refine And.intro wkv ?_
                    refine And.intro wkv ?_
                    refine And.intro wkv ?_
                    refine And.intro wkv ?_
                    refine And.intro wkv ?_
                    refine And.intro wkv ?_
                    refine And.intro wkv ?_
                    refine And.intro wkv ?_
                    refine And.intro wkv ?_
                    refine And.intro wkv ?_
                    refine And.intro wkv ?_
                    refine And.intro wkv ?_
                    refine And.intro wkv ?_
                    refine And.intro wkv ?_
                    refine And.intro wkv ?_
                    refine And.intro wkv ?_
                    refine And.intro wkv ?_
                    refine And.intro wkv ?_
                    refine And.intro wkv ?_
                    refine And.intro wkv ?_
                    refine And.intro wkv ?_
                    refine And.intro wkv ?_
                    refine And.intro wkv ?_
                    refine And.intro wkv ?_
                    refine And.intro wkv ?_
                    refine And.intro wkv ?_
                    refine And.intro wkv ?_
                    refine And.intro wkv ?_
                    refine And.intro wkv ?_
                    exact True.intro
                  · refine And.intro (And.intro rfl (And.intro rfl (Exists.intro _ (And.intro rfl wkc)))) ?_
                    refine And.intro (And.intro rfl (And.intro rfl (Exists.intro _ (And.intro rfl wkc)))) ?_
                    exact True.intro
                  ) ?_
                intro p hi3; obtain ⟨q, A3, cm3⟩ := p; dsimp only at hi3 ⊢; have hl3 := hi3.2.1; have hc3l := hi3.2.2.1; have htp := Sp.times_le (Sp.fate l.1.n l.1.f k); have htq := Sp.times_le (Sp.fate l.2.n l.2.f k)
                refine awp_seq ?_
                refine awp_seq ?_
                refine awp_region rfl ?_
                refine sP (opp_mv (v := .int _ _) rfl rfl) rfl rfl ?_
                first
                  | refine sP (opp_fieldP rfl rfl fld63_0 rfl) rfl rfl ?_
                  | refine sP (opp_fieldF rfl rfl rfl fld63_0 rfl rfl) rfl rfl ?_
                first
                  | refine sP (opp_loadP rfl rfl rfl rfl bi rfl ty42) rfl rfl ?_
                  | refine sP (opp_loadF rfl rfl ty42) rfl rfl ?_
                refine sP (opp_mv (v := .int _ _) rfl rfl) rfl rfl ?_
                refine sR (opr_call rfl rfl ent26 rfl (c26 l.1.nil l.1.n l.1.f k (by omega) (by omega)) (AViews.refl _ rfl)) rfl rfl rfl ?_ -- d=104 t=3
                refine sR (opr_call rfl rfl ent25 rfl (c25 _) (AViews.refl _ rfl)) rfl rfl rfl ?_ -- d=105 t=3
                refine sP (opp_cmp rfl rfl rfl rfl) rfl rfl ?_
                refine awp_cond _ rfl (fun hc27 => ?_) (fun hc27 => ?_)
                · try simp only [cmpI, errD_nil, Bool.not_eq_true', Bool.not_eq_false', decide_eq_true_eq, decide_eq_false_iff_not] at hc27; have ht106 := hc27
                  refine awp_skip ?_
                  refine awp_seq ?_
                  refine awp_block ?_
                  refine awp_seq ?_
                  refine awp_region rfl ?_
                  first
                    | refine sP (opp_loadP rfl rfl rfl rfl bi rfl ty55) rfl rfl ?_
                    | refine sP (opp_loadF rfl rfl ty55) rfl rfl ?_
                  first
                    | refine sP (opp_loadP rfl rfl rfl rfl bi rfl ty26) rfl rfl ?_
                    | refine sP (opp_loadF rfl rfl ty26) rfl rfl ?_
                  refine sR (opr_call rfl rfl ent22 rfl (fx22b hF cm3 hc3l d hd hG3 hG4 hG5 hG2 hG7 hG8) (AViews.refl _ rfl)) rfl rfl rfl ?_ -- d=112 t=56
                  refine sP (opp_mv (v := .tup _) rfl rfl) rfl rfl ?_
                  refine sP (opp_extract rfl rfl rfl) rfl rfl ?_
                  refine sP (opp_extract rfl rfl rfl) rfl rfl ?_
                  refine sP (opp_extract rfl rfl rfl) rfl rfl ?_
                  refine sR (opr_alloc (n := 20) rfl z55) rfl rfl rfl ?_
                  refine sR (opr_alloc (n := 21) rfl z26) rfl rfl rfl ?_
                  refine sR0 (opr_store (v := .agg _) (trn := (.agg _)) rfl rfl rfl rfl bi rfl rfl rfl rfl fr2 ty55 (fun _ _ h => h)) rfl rfl rfl ?_
                  refine sR0 (opr_store (v := .agg _) (trn := (.agg _)) rfl rfl rfl rfl bi rfl rfl rfl rfl fr2 ty26 (fun _ _ h => h)) rfl rfl rfl ?_
                  refine sP (opp_as (v := .err _) rfl rfl) rfl rfl ?_
                  refine awp_seq ?_
                  refine awp_seq ?_
                  refine awp_region rfl ?_
                  refine sP (opp_mv (v := .err _) rfl rfl) rfl rfl ?_
                  refine sP (opp_errNil rfl rfl rfl un29 (.inr ⟨rfl, rfl⟩)) rfl rfl ?_
                  refine awp_cond _ rfl (fun hc30 => ?_) (fun hc30 => ?_)
                  · try simp only [cmpI, errD_nil, Bool.not_eq_true', Bool.not_eq_false', decide_eq_true_eq, decide_eq_false_iff_not] at hc30; have ht117 := hc30
                    cases ht117
                  · try simp only [cmpI, errD_nil, Bool.not_eq_true', Bool.not_eq_false', decide_eq_true_eq, decide_eq_false_iff_not] at hc30; have ht117 := hc30
                    refine awp_skip ?_
                    refine awp_seq ?_
                    refine awp_region rfl ?_
                    first
                      | refine sP (opp_loadP rfl rfl rfl rfl bi rfl ty55) rfl rfl ?_
                      | refine sP (opp_loadF rfl rfl ty55) rfl rfl ?_
                    refine sR0 (opr_store (v := .agg _) (trn := (.agg _)) rfl rfl rfl rfl bi rfl rfl rfl rfl fr2 ty55 (fun _ _ h => h)) rfl rfl rfl ?_
                    refine awp_seq ?_
                    refine awp_region rfl ?_
                    refine sP (opp_as (v := .int _ _) rfl rfl) rfl rfl ?_
                    refine awp_block ?_
                    refine awp_loopK (ι := Nat × List Bool) (fun p => p.1 ≤ Sp.times (Sp.fate l.2.n l.2.f k) ∧ p.2.length = Sp.total im ∧ Sp.Ord A2 p.2 ∧ Sp.Ord p.2 (cm3.set d true) ∧ (1 ≤ p.1 → p.2.getD d false = true)) (fun p => [(6, .top), (22, .top), (23, .int .i64 p.1), (119, .top), (120, .top), (121, .top), (122, .top), (123, .top), (124, .top), (125, .top), (126, .top), (127, .top), (128, .top), (129, .top), (130, .top), (131, .top), (132, .top), (133, .top), (134, .top), (135, .top), (136, .top)]) (fun p => [(12, some (sendAV false (Sp.sendOf 0 ⟨3, 1, 9⟩ 1 im p.2 (rnOf tr i))))]) [] (fun p => Sp.times (Sp.fate l.2.n l.2.f k) - p.1) ((0, A3)) (⟨Nat.zero_le _, hl3, hi3.2.2.2.1, hi3.2.2.2.2.1.trans (Sp.ord_set cm3 d (by omega)), fun h => absurd h (Nat.not_succ_le_zero 0)⟩) (by
                      refine imp_over [] rfl rfl (by kernel_rfl) ?_ ?_
                      · refine And.intro wkv ?_
                        refine And.intro wkv ?_
                        refine And.intro wkv ?_
                        refine And.intro wkv ?_
                        refine And.intro wkv ?_
                        refine And.intro wkv ?_
                        refine And.intro wkv ?_
                        refine And.intro wkv ?_
                        refine And.intro wkv ?_
                        refine And.intro wkv ?_
                        refine And.intro wkv ?_
                        refine And.intro wkv ?_
                        refine And.intro wkv ?_
                        refine And.intro wkv ?_
                        refine And.intro wkv ?_
                        refine And.intro wkv ?_
                        refine And.intro wkv ?_
                        refine And.intro wkv ?_
                        refine And.intro wkv ?_
                        refine And.intro wkv ?_
                        refine And.intro wkv ?_
                        exact True.intro
                      · refine And.intro (And.intro rfl (And.intro rfl (Exists.intro _ (And.intro rfl wkc)))) ?_
                        exact True.intro
                      ) ?_
                    intro p hi4; obtain ⟨j, A4⟩ := p; dsimp only at hi4 ⊢; have hl4 := hi4.2.1
                    refine awp_seq ?_
                    refine awp_seq ?_
                    refine awp_region rfl ?_
                    refine sP (opp_mv (v := .int _ _) rfl rfl) rfl rfl ?_
                    first
                      | refine sP (opp_fieldP rfl rfl fld63_1 rfl) rfl rfl ?_
                      | refine sP (opp_fieldF rfl rfl rfl fld63_1 rfl rfl) rfl rfl ?_
                    first
                      | refine sP (opp_loadP rfl rfl rfl rfl bi rfl ty42) rfl rfl ?_
                      | refine sP (opp_loadF rfl rfl ty42) rfl rfl ?_
                    refine sP (opp_mv (v := .int _ _) rfl rfl) rfl rfl ?_
                    refine sR (opr_call rfl rfl ent26 rfl (c26 l.2.nil l.2.n l.2.f k (by omega) (by omega)) (AViews.refl _ rfl)) rfl rfl rfl ?_ -- d=123 t=3
                    refine sR (opr_call rfl rfl ent25 rfl (c25 _) (AViews.refl _ rfl)) rfl rfl rfl ?_ -- d=124 t=3
                    refine sP (opp_cmp rfl rfl rfl rfl) rfl rfl ?_
                    refine awp_cond _ rfl (fun hc34 => ?_) (fun hc34 => ?_)
                    · try simp only [cmpI, errD_nil, Bool.not_eq_true', Bool.not_eq_false', decide_eq_true_eq, decide_eq_false_iff_not] at hc34; have ht125 := hc34
                      refine awp_skip ?_
                      refine awp_seq ?_
                      refine awp_block ?_
                      refine awp_seq ?_
                      refine awp_region rfl ?_
                      first
                        | refine sP (opp_loadP rfl rfl rfl rfl bi rfl ty45) rfl rfl ?_
                        | refine sP (opp_loadF rfl rfl ty45) rfl rfl ?_
                      first
                        | refine sP (opp_loadP rfl rfl rfl rfl bi rfl ty26) rfl rfl ?_
                        | refine sP (opp_loadF rfl rfl ty26) rfl rfl ?_
                      refine sR (opr_call rfl rfl ent27 rfl (fx27 hF A4 (rnOf tr i) hl4 d hd hG2 hG6 hG3 hG4 hG8 hG5) (AViews.refl _ rfl)) rfl rfl rfl ?_ -- d=131 t=68
                      refine sP (opp_mv (v := .tup _) rfl rfl) rfl rfl ?_
                      refine sP (opp_extract rfl rfl rfl) rfl rfl ?_
                      refine sP (opp_extract rfl rfl rfl) rfl rfl ?_
                      refine sP (opp_extract rfl rfl rfl) rfl rfl ?_
                      refine sR0 (opr_store (v := .agg _) (trn := (.agg _)) rfl rfl rfl rfl bi rfl rfl rfl rfl fr2 ty45 (fun _ _ h => h)) rfl rfl rfl ?_
                      refine sP (opp_as (v := .err _) rfl rfl) rfl rfl ?_
                      refine awp_seq ?_
                      refine awp_region rfl ?_
                      refine sP (opp_mv (v := .err _) rfl rfl) rfl rfl ?_
                      refine sP (opp_errNil rfl rfl rfl un29 (.inr ⟨rfl, rfl⟩)) rfl rfl ?_
                      refine awp_cond _ rfl (fun hc37 => ?_) (fun hc37 => ?_)
                      · try simp only [cmpI, errD_nil, Bool.not_eq_true', Bool.not_eq_false', decide_eq_true_eq, decide_eq_false_iff_not] at hc37; have ht136 := hc37
                        cases ht136
                      · try simp only [cmpI, errD_nil, Bool.not_eq_true', Bool.not_eq_false', decide_eq_true_eq, decide_eq_false_iff_not] at hc37; have ht136 := hc37
                        refine awp_skip ?_
                        refine awp_region rfl ?_
                        refine sP (opp_mv (v := .int _ _) rfl rfl) rfl rfl ?_
                        first
                          | refine sP (opp_arith rfl rfl rfl (.inl ⟨rfl, w64 (by omega)⟩)) rfl rfl ?_
                          | refine sP (opp_arith rfl rfl rfl (.inl ⟨rfl, rfl⟩)) rfl rfl ?_
                        refine sP (opp_as (v := .int _ _) rfl rfl) rfl rfl ?_
                        refine Exists.intro ((j + 1, A4.set d true)) (And.intro (And.intro (⟨by show j + 1 ≤ _; omega, by simpa using hl4, hi4.2.2.1.trans (Sp.ord_set A4 d (by omega)), hi4.2.2.2.1.set d (by omega) (Sp.set_self cm3 d (by omega)), fun _ => Sp.set_self A4 d (by omega)⟩) (by omega)) (by
                          refine imp_over [] rfl rfl (by kernel_rfl) ?_ ?_
                          · refine And.intro wkv ?_
                            refine And.intro wkv ?_
                            refine And.intro wkv ?_
                            refine And.intro wkv ?_
                            refine And.intro wkv ?_
                            refine And.intro wkv ?_
                            refine And.intro wkv ?_
                            refine And.intro wkv ?_
                            refine And.intro wkv ?_
                            refine And.intro wkv ?_
                            refine And.intro wkv ?_
                            refine And.intro wkv ?_
                            refine And.intro wkv ?_
                            refine And.intro wkv ?_
                            refine And.intro wkv ?_
                            refine And.intro wkv ?_
                            refine And.intro wkv ?_
                            refine And.intro wkv ?_
                            refine And.intro wkv ?_
                            refine And.intro wkv ?_
                            refine And.intro wkv ?_
                            exact True.intro
                          · refine And.intro (And.intro rfl (And.intro rfl (Exists.intro _ (And.intro rfl wkc)))) ?_
                            exact True.intro
                          ))
                    · try simp only [cmpI, errD_nil, Bool.not_eq_true', Bool.not_eq_false', decide_eq_true_eq, decide_eq_false_iff_not] at hc34; have ht125 := hc34
                      refine awp_exit ?_
                      refine awp_region rfl ?_
                      refine sP (opp_mv (v := .int _ _) rfl rfl) rfl rfl ?_
                      first
                        | refine sP (opp_arith rfl rfl rfl (.inl ⟨rfl, w64 (by omega)⟩)) rfl rfl ?_
                        | refine sP (opp_arith rfl rfl rfl (.inl ⟨rfl, rfl⟩)) rfl rfl ?_
                      refine sP (opp_as (v := .int _ _) rfl rfl) rfl rfl ?_
                      refine Exists.intro ((q + 1, A4, cm3.set d true)) (And.intro (And.intro (⟨by show q + 1 ≤ _; omega, hl4, by simpa using hc3l, hi4.2.2.1, hi4.2.2.2.1, fun _ hg => hi4.2.2.2.2 (by omega)⟩) (by omega)) (by
                        refine imp_over [] rfl rfl (by kernel_rfl) ?_ ?_
                        · refine And.intro wkv ?_
                          refine And.intro wkv ?_
                          refine And.intro wkv ?_
                          refine And.intro wkv ?_
                          refine And.intro wkv ?_
                          refine And.intro wkv ?_
                          refine And.intro wkv ?_
                          refine And.intro wkv ?_
                          refine And.intro wkv ?_
                          refine And.intro wkv ?_
                          refine And.intro wkv ?_
                          refine And.intro wkv ?_
                          refine And.intro wkv ?_
                          refine And.intro wkv ?_
                          refine And.intro wkv ?_
                          refine And.intro wkv ?_
                          refine And.intro wkv ?_
                          refine And.intro wkv ?_
                          refine And.intro wkv ?_
                          refine And.intro wkv ?_
                          refine And.intro wkv ?_
                          refine And.intro wkv ?_
                          refine And.intro wkv ?_
                          refine And.intro wkv ?_
                          refine And.intro wkv ?_
                          refine And.intro wkv ?_
                          refine And.intro wkv ?_
                          refine And.intro wkv ?_
                          refine And.intro wkv ?_
                          refine And.intro wkv ?_
                          refine And.intro wkv ?_
                          refine And.intro wkv ?_
                          refine And.intro wkv ?_
                          refine And.intro wkv ?_
                          refine And.intro wkv ?_
                          refine And.intro wkv ?_
                          refine And.intro wkv ?_
                          refine And.intro wkv ?_
                          refine And.intro wkv ?_
                          refine And.intro wkv ?_
                          refine And.intro wkv ?_
                          refine And.intro wkv ?_
                          refine And.intro wkv ?_
                          exact True.intro
                        · refine And.intro (And.intro rfl (And.intro rfl (Exists.intro _ (And.intro rfl wkc)))) ?_
                          refine And.intro (And.intro rfl (And.intro rfl (Exists.intro _ (And.intro rfl (by rw [Sp.any_set cm3 d (by omega)]; exact WkC.refl _))))) ?_
                          exact True.intro
                        ))
                · try simp only [cmpI, errD_nil, Bool.not_eq_true', Bool.not_eq_false', decide_eq_true_eq, decide_eq_false_iff_not] at hc27; have ht106 := hc27
                  refine awp_exit ?_
                  refine awp_region rfl ?_
                  refine sP (opp_mv (v := .bool _) rfl rfl) rfl rfl ?_
                  refine sP (opp_mv (v := .bool _) rfl rfl) rfl rfl ?_
                  first
                    | refine sG _ rfl rfl rfl rfl (fun hg => (And.intro gi (True.intro))) (fun hg => opp_fieldP rfl rfl fld63_0 rfl) ?_
                    | refine sG _ rfl rfl rfl rfl (fun hg => (And.intro gi (True.intro))) (fun hg => opp_fieldF rfl rfl rfl fld63_0 rfl rfl) ?_
                  first
                    | refine sG _ rfl rfl rfl rfl (fun hg => (And.intro gi (True.intro))) (fun hg => opp_loadP rfl rfl rfl rfl bi rfl ty42) ?_
                    | refine sG _ rfl rfl rfl rfl (fun hg => (And.intro gi (True.intro))) (fun hg => opp_loadF rfl rfl ty42) ?_
                  refine sG _ rfl rfl rfl rfl (fun hg => (And.intro gi (True.intro))) (fun hg => opp_mv (v := .int _ _) rfl rfl) ?_
                  refine sGR _ rfl rfl rfl rfl (fun hg => (And.intro gi (And.intro gi (And.intro gi (True.intro))))) (fun hg => (opr_call rfl rfl ent26 rfl (c26 l.1.nil l.1.n l.1.f k (by omega) (by omega)) (AViews.refl _ rfl))) ?_
                  refine sG _ rfl rfl rfl rfl (fun hg => (And.intro gi (And.intro gi (True.intro)))) (fun hg => opp_cmp rfl rfl rfl rfl) ?_
                  refine sPick rfl rfl rfl rfl (by exact True.intro) rfl rfl (fun hg => gi) (fun hg => gi) ?_
                  refine sP (opp_mv (v := .bool _) rfl rfl) rfl rfl ?_
                  first
                    | refine sG _ rfl rfl rfl rfl (fun hg => (And.intro gi (True.intro))) (fun hg => opp_fieldP rfl rfl fld63_1 rfl) ?_
                    | refine sG _ rfl rfl rfl rfl (fun hg => (And.intro gi (True.intro))) (fun hg => opp_fieldF rfl rfl rfl fld63_1 rfl rfl) ?_
                  first
                    | refine sG _ rfl rfl rfl rfl (fun hg => (And.intro gi (True.intro))) (fun hg => opp_loadP rfl rfl rfl rfl bi rfl ty42) ?_
                    | refine sG _ rfl rfl rfl rfl (fun hg => (And.intro gi (True.intro))) (fun hg => opp_loadF rfl rfl ty42) ?_
                  refine sG _ rfl rfl rfl rfl (fun hg => (And.intro gi (True.intro))) (fun hg => opp_mv (v := .int _ _) rfl rfl) ?_
                  refine sGR _ rfl rfl rfl rfl (fun hg => (And.intro gi (And.intro gi (And.intro gi (True.intro))))) (fun hg => (opr_call rfl rfl ent26 rfl (c26 l.2.nil l.2.n l.2.f k (by omega) (by omega)) (AViews.refl _ rfl))) ?_
                  refine sG _ rfl rfl rfl rfl (fun hg => (And.intro gi (And.intro gi (True.intro)))) (fun hg => opp_cmp rfl rfl rfl rfl) ?_
                  refine sPick rfl rfl rfl rfl (by exact True.intro) rfl rfl (fun hg => gi) (fun hg => gi) ?_
                  refine sP (opp_as (v := .bool _) rfl rfl) rfl rfl ?_
                  refine awp_region rfl ?_
                  first
                    | refine sP (opp_arith rfl rfl rfl (.inl ⟨rfl, w64 (by omega)⟩)) rfl rfl ?_
                    | refine sP (opp_arith rfl rfl rfl (.inl ⟨rfl, rfl⟩)) rfl rfl ?_
                  refine sP (opp_mv (v := .int _ _) rfl rfl) rfl rfl ?_
                  refine Exists.intro ((k + 1, A3, cm3, cl && !decide (Sp.fate l.1.n l.1.f k = 1) && !decide (Sp.fate l.2.n l.2.f k = 1))) (And.intro (And.intro (⟨by show k + 1 ≤ _; omega, hl3, hc3l, hi2.2.2.2.1.trans hi3.2.2.2.1, hi3.2.2.2.2.1, fun hcl m hm => arr_clean hcl hm (fun hc => hiv hc) hi3.2.2.2.1 hdd (fun h9 h10 => hi3.2.2.2.2.2 (by have := Sp.times_pos (of_decide_eq_false h9); omega) (Sp.times_pos (of_decide_eq_false h10)))⟩) (by omega)) (by
                    refine imp_over [] rfl rfl (by kernel_rfl) ?_ ?_
                    · refine And.intro wkv ?_
                      refine And.intro (by exact Or.inr (And.intro rfl (WkV.of (by show AV.bool _ = AV.bool _; cases cl <;> simp [cmpI])))) ?_
                      refine And.intro wkv ?_
                      refine And.intro wkv ?_
                      refine And.intro wkv ?_
                      refine And.intro wkv ?_
                      refine And.intro wkv ?_
                      refine And.intro wkv ?_
                      refine And.intro wkv ?_
                      refine And.intro wkv ?_
                      refine And.intro wkv ?_
                      refine And.intro wkv ?_
                      refine And.intro wkv ?_
                      refine And.intro wkv ?_
                      refine And.intro wkv ?_
                      refine And.intro wkv ?_
                      refine And.intro wkv ?_
                      refine And.intro wkv ?_
                      refine And.intro wkv ?_
                      refine And.intro wkv ?_
                      refine And.intro wkv ?_
                      refine And.intro wkv ?_
                      refine And.intro wkv ?_
                      refine And.intro wkv ?_
                      refine And.intro wkv ?_
                      refine And.intro wkv ?_
                      refine And.intro wkv ?_
                      refine And.intro wkv ?_
                      refine And.intro wkv ?_
                      refine And.intro wkv ?_
                      refine And.intro wkv ?_
                      refine And.intro wkv ?_
                      refine And.intro wkv ?_
                      refine And.intro wkv ?_
                      refine And.intro wkv ?_
                      refine And.intro wkv ?_
                      refine And.intro wkv ?_
                      refine And.intro wkv ?_
                      refine And.intro wkv ?_
                      refine And.intro wkv ?_
                      refine And.intro wkv ?_
                      refine And.intro wkv ?_
                      refine And.intro wkv ?_
                      refine And.intro wkv ?_
                      refine And.intro wkv ?_
                      refine And.intro wkv ?_
                      refine And.intro wkv ?_
                      refine And.intro wkv ?_
                      refine And.intro wkv ?_
                      refine And.intro wkv ?_
                      refine And.intro wkv ?_
                      refine And.intro wkv ?_
                      refine And.intro wkv ?_
                      refine And.intro wkv ?_
                      refine And.intro wkv ?_
                      refine And.intro wkv ?_
                      refine And.intro wkv ?_
                      refine And.intro wkv ?_
                      refine And.intro wkv ?_
                      refine And.intro wkv ?_
                      refine And.intro wkv ?_
                      refine And.intro wkv ?_
                      refine And.intro wkv ?_
                      refine And.intro wkv ?_
                      refine And.intro wkv ?_
                      refine And.intro wkv ?_
                      refine And.intro wkv ?_
                      refine And.intro wkv ?_
                      refine And.intro wkv ?_
                      refine And.intro wkv ?_
                      refine And.intro wkv ?_
                      refine And.intro wkv ?_
                      refine And.intro wkv ?_
                      refine And.intro wkv ?_
                      refine And.intro wkv ?_
                      refine And.intro wkv ?_
                      refine And.intro wkv ?_
                      refine And.intro wkv ?_
                      refine And.intro wkv ?_
                      refine And.intro wkv ?_
                      refine And.intro wkv ?_
                      refine And.intro wkv ?_
                      refine And.intro wkv ?_
                      refine And.intro wkv ?_
                      refine And.intro wkv ?_
                      refine And.intro wkv ?_
                      exact True.intro
                    · refine And.intro (And.intro rfl (And.intro rfl (Exists.intro _ (And.intro rfl wkc)))) ?_
                      refine And.intro (And.intro rfl (And.intro rfl (Exists.intro _ (And.intro rfl wkc)))) ?_
                      exact True.intro
                    ))
            · try simp only [cmpI, errD_nil, Bool.not_eq_true', Bool.not_eq_false', decide_eq_true_eq, decide_eq_false_iff_not] at hc21; have ht77 := hc21
              refine awp_exit ?_
              refine awp_seq ?_
              have hk : k = (Sp.dueL im A).length := by omega
              refine awp_region rfl ?_
              first
                | refine sP (opp_loadP rfl rfl rfl rfl bi rfl ty45) rfl rfl ?_
                | refine sP (opp_loadF rfl rfl ty45) rfl rfl ?_
              refine sR0 (opr_store (v := .agg _) (trn := (.agg _)) rfl rfl rfl rfl bi rfl rfl rfl rfl fr2 ty45 (fun _ _ h => h)) rfl rfl rfl ?_
              refine awp_seq ?_
              have hal : cl = true → A2.all id = true := fun hc => Sp.dueL_all hl2 hi2.2.2.2.1 (fun m hm => hi2.2.2.2.2.2 hc m (by omega))
              refine awp_region rfl ?_
              first
                | refine sP (opp_loadP rfl rfl rfl rfl bi rfl ty45) rfl rfl ?_
                | refine sP (opp_loadF rfl rfl ty45) rfl rfl ?_
              refine sR (opr_call rfl rfl ent28 rfl (fx28 hF A2 (rnOf tr i) hl2 hG2 hG6 hG3) (AViews.refl _ rfl)) rfl rfl rfl ?_ -- d=156 t=70
              refine sP (opp_mv (v := .tup _) rfl rfl) rfl rfl ?_
              refine sP (opp_extract rfl rfl rfl) rfl rfl ?_
              refine sP (opp_extract rfl rfl rfl) rfl rfl ?_
              refine sP (opp_as (v := .bool _) rfl rfl) rfl rfl ?_
              refine sP (opp_as (v := .err _) rfl rfl) rfl rfl ?_
              refine awp_seq ?_
              refine awp_seq ?_
              refine awp_region rfl ?_
              refine sP (opp_mv (v := .err _) rfl rfl) rfl rfl ?_
              refine sP (opp_errNil rfl rfl rfl un29 (.inr ⟨rfl, rfl⟩)) rfl rfl ?_
              refine sP (opp_mv (v := .bool _) rfl rfl) rfl rfl ?_
              refine sG _ rfl rfl rfl rfl (fun hg => (And.intro gi (True.intro))) (fun hg => opp_mv (v := .bool _) rfl rfl) ?_
              refine sG _ rfl rfl rfl rfl (fun hg => (And.intro gi (True.intro))) (fun hg => opp_mv (v := .bool _) rfl rfl) ?_
              refine sG _ rfl rfl rfl rfl (fun hg => (And.intro gi (True.intro))) (fun hg => opp_mv (v := .bool _) rfl rfl) ?_
              refine sG _ rfl rfl rfl rfl (fun hg => (And.intro gi (True.intro))) (fun hg => opp_not rfl rfl) ?_
              refine sPickG _ rfl rfl rfl rfl rfl rfl (fun hg => by first | exact True.intro | exact And.intro hg True.intro | (refine And.intro ?_ True.intro; simp_all; done)) rfl rfl (fun h0 hg => g2) (fun h0 hg => g2) ?_
              refine sPick rfl rfl rfl rfl (by exact True.intro) rfl rfl (fun hg => gi) (fun hg => gi) ?_
              refine awp_cond _ rfl (fun hc45 => ?_) (fun hc45 => ?_)
              · try simp only [cmpI, errD_nil, Bool.not_eq_true', Bool.not_eq_false', decide_eq_true_eq, decide_eq_false_iff_not] at hc45; have ht167 := hc45
                exfalso
                cases cl <;> simp_all [ErrD.isNil]
              · try simp only [cmpI, errD_nil, Bool.not_eq_true', Bool.not_eq_false', decide_eq_true_eq, decide_eq_false_iff_not] at hc45; have ht167 := hc45
                refine awp_skip ?_
                refine awp_seq ?_
                have hwh := hF.whole cm2 hc2l
                refine awp_region rfl ?_
                first
                  | refine sP (opp_loadP rfl rfl rfl rfl bi rfl ty55) rfl rfl ?_
                  | refine sP (opp_loadF rfl rfl ty55) rfl rfl ?_
                refine sR (opr_call rfl rfl ent23 rfl (c23 (!cm2.any id) (Sp.recvOf 0 ⟨3, 1, 9⟩ 1 im cm2) (by have := Sp.recvOf_len (p := 0) (x := ⟨3, 1, 9⟩) (st := 1) (im := im) cm2; omega) hG3) (AViews.refl _ rfl)) rfl rfl rfl ?_ -- d=170 t=58
                refine sP (opp_mv (v := .tup _) rfl rfl) rfl rfl ?_
                refine sP (opp_extract rfl rfl rfl) rfl rfl ?_
                refine sP (opp_extract rfl rfl rfl) rfl rfl ?_
                refine sP (opp_extract rfl rfl rfl) rfl rfl ?_
                first
                  | refine sP (opp_as (v := .sl _ _ _ _) rfl rfl) rfl rfl ?_
                  | refine sP (opp_as (v := .osl _ _ _ _ _) rfl rfl) rfl rfl ?_
                refine sP (opp_as (v := .bool _) rfl rfl) rfl rfl ?_
                refine sP (opp_as (v := .err _) rfl rfl) rfl rfl ?_
                refine awp_seq ?_
                refine awp_region rfl ?_
                refine sP (opp_mv (v := .err _) rfl rfl) rfl rfl ?_
                refine sP (opp_errNil rfl rfl rfl un29 (.inr ⟨rfl, rfl⟩)) rfl rfl ?_
                refine sP (opp_mv (v := .bool _) rfl rfl) rfl rfl ?_
                refine sG _ rfl rfl rfl rfl (fun hg => (And.intro gi (True.intro))) (fun hg => opp_mv (v := .bool _) rfl rfl) ?_
                refine sG _ rfl rfl rfl rfl (fun hg => (And.intro gi (True.intro))) (fun hg => opp_mv (v := .bool _) rfl rfl) ?_
                refine sG _ rfl rfl rfl rfl (fun hg => (And.intro gi (True.intro))) (fun hg => opp_mv (v := .bool _) rfl rfl) ?_
                refine sG _ rfl rfl rfl rfl (fun hg => (And.intro gi (True.intro))) (fun hg => opp_not rfl rfl) ?_
                refine sG _ rfl rfl rfl rfl (fun hg => (And.intro gi (True.intro))) (fun hg => opp_mv (v := .bool _) rfl rfl) ?_
                first
                  | refine sG _ rfl rfl rfl rfl (fun hg => (And.intro gi (True.intro))) (fun hg => opp_mv (v := .sl _ _ _ _) rfl rfl) ?_
                  | refine sG _ rfl rfl rfl rfl (fun hg => (And.intro gi (True.intro))) (fun hg => opp_mv (v := .osl _ _ _ _ _) rfl rfl) ?_
                refine sG _ rfl rfl rfl rfl (fun hg => (And.intro gi (True.intro))) (fun hg => opp_bytesStr rfl rfl _ rfl (fun j hj => rfl) un36 unu8 un9) ?_
                first
                  | refine sG _ rfl rfl rfl rfl (fun hg => (And.intro gi (True.intro))) (fun hg => opp_mv (v := .sl _ _ _ _) rfl rfl) ?_
                  | refine sG _ rfl rfl rfl rfl (fun hg => (And.intro gi (True.intro))) (fun hg => opp_mv (v := .osl _ _ _ _ _) rfl rfl) ?_
                refine sG _ rfl rfl rfl rfl (fun hg => (And.intro gi (True.intro))) (fun hg => opp_bytesStr rfl rfl _ rfl (fun j hj => rfl) un36 unu8 un9) ?_
                refine sG _ rfl rfl rfl rfl (fun hg => (And.intro gi (And.intro gi (True.intro)))) (fun hg => opp_strEq rfl rfl rfl (.inr ⟨rfl, rfl⟩)) ?_
                refine sPickG _ rfl rfl rfl rfl rfl rfl (fun hg => by first | exact True.intro | exact And.intro hg True.intro | (refine And.intro ?_ True.intro; simp_all; done)) rfl rfl (fun h0 hg => g2) (fun h0 hg => g2) ?_
                refine sPickG _ rfl rfl rfl rfl rfl rfl (fun hg => by first | exact True.intro | exact And.intro hg True.intro | (refine And.intro ?_ True.intro; simp_all; done)) rfl rfl (fun h0 hg => g2) (fun h0 hg => g2) ?_
                refine sPick rfl rfl rfl rfl (by exact True.intro) rfl rfl (fun hg => gi) (fun hg => gi) ?_
                refine awp_cond _ rfl (fun hc48 => ?_) (fun hc48 => ?_)
                · try simp only [cmpI, errD_nil, Bool.not_eq_true', Bool.not_eq_false', decide_eq_true_eq, decide_eq_false_iff_not] at hc48; have ht189 := hc48
                  exfalso
                  rw [hwh] at ht189
                  cases hA2 : A2.all id with
                  | false => rw [hA2] at ht189; split at ht189 <;> simp [ErrD.isNil] at ht189
                  | true => rw [if_pos (hi2.2.2.2.2.1.all (by omega) hA2)] at ht189; simp [ErrD.isNil] at ht189
                · try simp only [cmpI, errD_nil, Bool.not_eq_true', Bool.not_eq_false', decide_eq_true_eq, decide_eq_false_iff_not] at hc48; have ht189 := hc48
                  refine awp_skip ?_
                  refine awp_region rfl ?_
                  first
                    | refine sP (opp_arith rfl rfl rfl (.inl ⟨rfl, w64 (by omega)⟩)) rfl rfl ?_
                    | refine sP (opp_arith rfl rfl rfl (.inl ⟨rfl, rfl⟩)) rfl rfl ?_
                  refine sP (opp_mv (v := .int _ _) rfl rfl) rfl rfl ?_
                  refine Exists.intro ((i + 1, A2, cm2)) (And.intro (And.intro (⟨by show i + 1 ≤ n; omega, hl2, hc2l, hi2.2.2.2.2.1⟩) (by omega)) (by
                    refine imp_over [] rfl rfl (by kernel_rfl) ?_ ?_
                    · refine And.intro wkv ?_
                      refine And.intro wkv ?_
                      refine And.intro wkv ?_
                      refine And.intro wkv ?_
                      refine And.intro wkv ?_
                      refine And.intro wkv ?_
                      refine And.intro wkv ?_
                      refine And.intro wkv ?_
                      refine And.intro wkv ?_
                      refine And.intro wkv ?_
                      refine And.intro wkv ?_
                      refine And.intro wkv ?_
                      refine And.intro wkv ?_
                      refine And.intro wkv ?_
                      refine And.intro wkv ?_
                      refine And.intro wkv ?_
                      refine And.intro wkv ?_
                      refine And.intro wkv ?_
                      refine And.intro wkv ?_
                      refine And.intro wkv ?_
                      refine And.intro wkv ?_
                      refine And.intro wkv ?_
                      refine And.intro wkv ?_
                      refine And.intro wkv ?_
                      refine And.intro wkv ?_
                      refine And.intro wkv ?_
                      refine And.intro wkv ?_
                      refine And.intro wkv ?_
                      refine And.intro wkv ?_
                      refine And.intro wkv ?_
                      refine And.intro wkv ?_
                      refine And.intro wkv ?_
                      refine And.intro wkv ?_
                      refine And.intro wkv ?_
                      refine And.intro wkv ?_
                      refine And.intro wkv ?_
                      refine And.intro wkv ?_
                      refine And.intro wkv ?_
                      refine And.intro wkv ?_
                      refine And.intro wkv ?_
                      refine And.intro wkv ?_
                      refine And.intro wkv ?_
                      refine And.intro wkv ?_
                      refine And.intro wkv ?_
                      refine And.intro wkv ?_
                      refine And.intro wkv ?_
                      refine And.intro wkv ?_
                      refine And.intro wkv ?_
                      refine And.intro wkv ?_
                      refine And.intro wkv ?_
                      refine And.intro wkv ?_
                      refine And.intro wkv ?_
                      refine And.intro wkv ?_
                      refine And.intro wkv ?_
                      refine And.intro wkv ?_
                      refine And.intro wkv ?_
                      refine And.intro wkv ?_
                      refine And.intro wkv ?_
                      refine And.intro wkv ?_
                      refine And.intro wkv ?_
                      refine And.intro wkv ?_
                      refine And.intro wkv ?_
                      refine And.intro wkv ?_
                      refine And.intro wkv ?_
                      refine And.intro wkv ?_
                      refine And.intro wkv ?_
                      refine And.intro wkv ?_
                      refine And.intro wkv ?_
                      refine And.intro wkv ?_
                      refine And.intro wkv ?_
                      refine And.intro wkv ?_
                      refine And.intro wkv ?_
                      refine And.intro wkv ?_
                      refine And.intro wkv ?_
                      refine And.intro wkv ?_
                      refine And.intro wkv ?_
                      refine And.intro wkv ?_
                      refine And.intro wkv ?_
                      refine And.intro wkv ?_
                      refine And.intro wkv ?_
                      refine And.intro wkv ?_
                      refine And.intro wkv ?_
                      refine And.intro wkv ?_
                      refine And.intro wkv ?_
                      refine And.intro wkv ?_
                      refine And.intro wkv ?_
                      refine And.intro wkv ?_
                      refine And.intro wkv ?_
                      refine And.intro wkv ?_
                      refine And.intro wkv ?_
                      refine And.intro wkv ?_
                      refine And.intro wkv ?_
                      refine And.intro wkv ?_
                      refine And.intro wkv ?_
                      refine And.intro wkv ?_
                      refine And.intro wkv ?_
                      refine And.intro wkv ?_
                      refine And.intro wkv ?_
                      refine And.intro wkv ?_
                      refine And.intro wkv ?_
                      refine And.intro wkv ?_
                      refine And.intro wkv ?_
                      refine And.intro wkv ?_
                      refine And.intro wkv ?_
                      refine And.intro wkv ?_
                      refine And.intro wkv ?_
                      refine And.intro wkv ?_
                      refine And.intro wkv ?_
                      refine And.intro wkv ?_
                      refine And.intro wkv ?_
                      refine And.intro wkv ?_
                      refine And.intro wkv ?_
                      refine And.intro wkv ?_
                      refine And.intro wkv ?_
                      refine And.intro wkv ?_
                      refine And.intro wkv ?_
                      refine And.intro wkv ?_
                      refine And.intro wkv ?_
                      refine And.intro wkv ?_
                      refine And.intro wkv ?_
                      refine And.intro wkv ?_
                      refine And.intro wkv ?_
                      refine And.intro wkv ?_
                      refine And.intro wkv ?_
                      refine And.intro wkv ?_
                      refine And.intro wkv ?_
                      refine And.intro wkv ?_
                      refine And.intro wkv ?_
                      refine And.intro wkv ?_
                      refine And.intro wkv ?_
                      refine And.intro wkv ?_
                      refine And.intro wkv ?_
                      refine And.intro wkv ?_
                      refine And.intro wkv ?_
                      refine And.intro wkv ?_
                      refine And.intro wkv ?_
                      refine And.intro wkv ?_
                      refine And.intro wkv ?_
                      refine And.intro wkv ?_
                      refine And.intro wkv ?_
                      refine And.intro wkv ?_
                      refine And.intro wkv ?_
                      refine And.intro wkv ?_
                      refine And.intro wkv ?_
                      refine And.intro wkv ?_
                      refine And.intro wkv ?_
                      refine And.intro wkv ?_
                      refine And.intro wkv ?_
                      refine And.intro wkv ?_
                      refine And.intro wkv ?_
                      refine And.intro wkv ?_
                      refine And.intro wkv ?_
                      refine And.intro wkv ?_
                      refine And.intro wkv ?_
                      refine And.intro wkv ?_
                      refine And.intro wkv ?_
                      refine And.intro wkv ?_
                      refine And.intro wkv ?_
                      refine And.intro wkv ?_
                      refine And.intro wkv ?_
                      refine And.intro wkv ?_
                      refine And.intro wkv ?_
                      exact True.intro
                    · refine And.intro (And.intro rfl (And.intro rfl (Exists.intro _ (And.intro rfl (by rw [rnOf, if_neg hit]; exact WkC.refl _))))) ?_
                      refine And.intro (And.intro rfl (And.intro rfl (Exists.intro _ (And.intro rfl wkc)))) ?_
                      exact True.intro
                    ))
      · try simp only [cmpI, errD_nil, Bool.not_eq_true', Bool.not_eq_false', decide_eq_true_eq, decide_eq_false_iff_not] at hc10; have ht48 := hc10
        refine awp_exit ?_
        refine awp_seq ?_
        refine awp_region rfl ?_
        refine sP (opp_as (v := .bool _) rfl rfl) rfl rfl ?_
        refine awp_ret ?_
        repeat (first | refine athen_ret ?_ | refine ain_ret ?_)
        first
          | refine apost_ret (aend1 (r0 := .bool _) (.tmp .nil) (.noN rfl rfl) ⟨Wk.v ?_, rfl, rfl⟩)
          | refine apost_ret (aend1s (r0 := .bool _) (.tmp .nil) shut rfl ⟨Wk.v ?_, rfl, rfl⟩)
        exact .refl
set_option maxRecDepth 100000 in
theorem xaElse (b b2 : Bool) (im : List UInt8) (tr : Int) (n : Nat) (L : Nat → Nums × Nums) (h0 : im.length ≤ 281474976710656) (h1 : n ≤ 281474976710656) (hn : ¬ (1 ≤ im.length ∧ im.length ≤ 4096)) (hG3 : gl 3 = some (.err (.code 9))) (hG4 : gl 4 = some (.err (.code 7))) (hG5 : gl 5 = some (.err (.code 10))) (hG2 : gl 2 = some (.err (.code 12))) (hG7 : gl 7 = some (.err (.code 14))) (hG8 : gl 8 = some (.err (.code 4))) (hG6 : gl 6 = some (.err (.code 11))) :
    APure (V ea cds gl) 5 [.sl 1 b im.length (bAt im), .int .i64 tr, .sl 2 b2 n (fun j => lossAV (L j))] false (.bool true) := by
  refine acalls_of_body (N := 191) Tryd.func5 rfl rfl (Nat.le_of_ble_eq_true rfl) fun C hV hN hM hO => ?_
  obtain ⟨_, _, w0, G0, σ0, _, own0⟩ := C; dsimp only at hV hN hM hO; subst hV; subst hN; subst hM
  refine awp_seq ?_
  refine awp_region rfl ?_
  refine sP (opp_as (v := .bool _) rfl rfl) rfl rfl ?_
  refine awp_seq ?_
  refine awp_seq ?_
  refine awp_region rfl ?_
  refine sR (opr_call rfl rfl ent19 rfl (c19 hG3 hG4 hG5 hG2 hG7 hG8 hG6) (AViews.refl _ rfl)) rfl rfl rfl ?_ -- d=27 t=4
  refine sP (opp_not rfl rfl) rfl rfl ?_
  refine awp_cond _ rfl (fun hc3 => ?_) (fun hc3 => ?_)
  · try simp only [cmpI, errD_nil, Bool.not_eq_true', Bool.not_eq_false', decide_eq_true_eq, decide_eq_false_iff_not] at hc3; have ht28 := hc3
    cases ht28
  · try simp only [cmpI, errD_nil, Bool.not_eq_true', Bool.not_eq_false', decide_eq_true_eq, decide_eq_false_iff_not] at hc3; have ht28 := hc3
    refine awp_skip ?_
    refine awp_seq ?_
    refine awp_region rfl ?_
    refine sP (opp_build rfl z23 bld23 rfl [.int _ _, .int _ _, .int _ _] rfl) rfl rfl ?_
    first
      | refine sP (opp_mv (v := .sl _ _ _ _) rfl rfl) rfl rfl ?_
      | refine sP (opp_mv (v := .osl _ _ _ _ _) rfl rfl) rfl rfl ?_
    refine sR (opr_call rfl rfl ent20 rfl (c20 0 ⟨3, 1, 9⟩ 1 b im hG2 hG6) (AViews.refl _ rfl)) rfl rfl rfl ?_ -- d=32 t=46
    refine sP (opp_mv (v := .tup _) rfl rfl) rfl rfl ?_
    refine sP (opp_extract rfl rfl rfl) rfl rfl ?_
    refine sP (opp_extract rfl rfl rfl) rfl rfl ?_
    refine sR (opr_alloc (n := 7) rfl z45) rfl rfl rfl ?_
    refine sR0 (opr_store (v := .agg _) (trn := (.agg _)) rfl rfl rfl rfl bi rfl rfl rfl rfl fr2 ty45 (fun _ _ h => h)) rfl rfl rfl ?_
    refine sP (opp_as (v := .err _) rfl rfl) rfl rfl ?_
    refine awp_seq ?_
    refine awp_seq ?_
    refine awp_region rfl ?_
    refine sP (opp_mv (v := .err _) rfl rfl) rfl rfl ?_
    refine sP (opp_errNil rfl rfl rfl un29 (.inr ⟨rfl, rfl⟩)) rfl rfl ?_
    refine awp_cond _ rfl (fun hc6 => ?_) (fun hc6 => ?_)
    · try simp only [cmpI, errD_nil, Bool.not_eq_true', Bool.not_eq_false', decide_eq_true_eq, decide_eq_false_iff_not] at hc6; have ht36 := hc6
      refine awp_seq ?_
      refine awp_region rfl ?_
      first
        | refine sP (opp_mv (v := .sl _ _ _ _) rfl rfl) rfl rfl ?_
        | refine sP (opp_mv (v := .osl _ _ _ _ _) rfl rfl) rfl rfl ?_
      first
        | refine sP (opp_lenSl rfl rfl un36) rfl rfl ?_
        | refine sP (opp_lenOsl rfl rfl un36) rfl rfl ?_
      refine sP (opp_cmp rfl rfl rfl rfl) rfl rfl ?_
      refine sP (opp_mv (v := .bool _) rfl rfl) rfl rfl ?_
      first
        | refine sG _ rfl rfl rfl rfl (fun hg => (And.intro gi (True.intro))) (fun hg => opp_mv (v := .sl _ _ _ _) rfl rfl) ?_
        | refine sG _ rfl rfl rfl rfl (fun hg => (And.intro gi (True.intro))) (fun hg => opp_mv (v := .osl _ _ _ _ _) rfl rfl) ?_
      first
        | refine sG _ rfl rfl rfl rfl (fun hg => (And.intro gi (True.intro))) (fun hg => opp_lenSl rfl rfl un36) ?_
        | refine sG _ rfl rfl rfl rfl (fun hg => (And.intro gi (True.intro))) (fun hg => opp_lenOsl rfl rfl un36) ?_
      refine sG _ rfl rfl rfl rfl (fun hg => (And.intro gi (And.intro gi (True.intro)))) (fun hg => opp_cmp rfl rfl rfl rfl) ?_
      refine sPick rfl rfl rfl rfl (by exact True.intro) rfl rfl (fun hg => gi) (fun hg => gi) ?_
      refine sP (opp_as (v := .bool _) rfl rfl) rfl rfl ?_
      refine awp_ret ?_
      repeat (first | refine athen_ret ?_ | refine ain_ret ?_)
      first
        | refine apost_ret (aend1 (r0 := .bool _) (.tmp .nil) (.noN rfl rfl) ⟨Wk.v ?_, rfl, rfl⟩)
        | refine apost_ret (aend1s (r0 := .bool _) (.tmp .nil) shut rfl ⟨Wk.v ?_, rfl, rfl⟩)
      refine .of (congrArg AV.bool ?_)
      by_cases h9 : im.length = 0 <;> simp [cmpI, h9]; omega
    · try simp only [cmpI, errD_nil, Bool.not_eq_true', Bool.not_eq_false', decide_eq_true_eq, decide_eq_false_iff_not] at hc6; have ht36 := hc6
      exfalso
      have hcu : (Sp.cut 0 ⟨3, 1, 9⟩ 1 im).2 = 11 := by
        have hw : Sp.within im.length 1 4096 = false := by simp only [Sp.within, decide_eq_false_iff_not]; omega
        rw [Sp.cut, if_neg (by decide), if_pos hw]
      have hst : (Sp.start 0 ⟨3, 1, 9⟩ 1 im).2 = 11 := by rw [Sp.start, if_pos (by rw [hcu]; decide)]; exact hcu
      rw [hst] at ht36; cases ht36
theorem c5 (b b2 : Bool) (im : List UInt8) (tr : Int) (n : Nat) (L : Nat → Nums × Nums) (h0 : im.length ≤ 281474976710656) (htr : tr ≤ 9223372036854775807) (h1 : n ≤ 281474976710656) (hL : ∀ j, (L j).1.n ≤ 281474976710656 ∧ (L j).2.n ≤ 281474976710656) (hG3 : gl 3 = some (.err (.code 9))) (hG4 : gl 4 = some (.err (.code 7))) (hG5 : gl 5 = some (.err (.code 10))) (hG2 : gl 2 = some (.err (.code 12))) (hG7 : gl 7 = some (.err (.code 14))) (hG8 : gl 8 = some (.err (.code 4))) (hG6 : gl 6 = some (.err (.code 11))) :
    APure (V ea cds gl) 5 [.sl 1 b im.length (bAt im), .int .i64 tr, .sl 2 b2 n (fun j => lossAV (L j))] false (.bool true) := by
  by_cases hn : 1 ≤ im.length ∧ im.length ≤ 4096
  · exact xaFine b b2 im tr n L h0 htr h1 hL ⟨by decide, by decide, by decide, hn.1, hn.2⟩ hG3 hG4 hG5 hG2 hG7 hG8 hG6
  · exact xaElse b b2 im tr n L h0 h1 hn hG3 hG4 hG5 hG2 hG7 hG8 hG6
end
end Go.Proofs.YtgaihhimkodmmaaDoor

