/- My own texts, packed: KXx, KYx, KZx, K6x, K7x, K8x, KBx, L1x, KKx, KCx, KDx, KEx, KLx, KFx, KMx, KHx. -/
import Derived.Test.YtgaihhimkodmmaaDoorM6
import Derived.Test.YtgaihhimkodmmaaDoorM3
import Derived.Test.YtgaihhimkodmmaaDoorM1
import Derived.Test.YtgaihhimkodmmaaDoorM4
import Derived.Test.YtgaihhimkodmmaaDoorM5
/- Layer 2: a cursor (walks over this dump). -/
namespace Go.Proofs.YtgaihhimkodmmaaDoor
attribute [local irreducible] Tryd.prog
open Go.Fy
set_option linter.unusedSimpArgs false
set_option linter.unusedVariables false
section
variable {ea : Nat → Addr} {cds : List Nat} {gl : Nat → Option AV}
theorem cg64c (l : List UInt8) (nn : Bool) (a b : Nat) (hab : a ≤ b) (hb : b ≤ 140737488355328) : AGen (V ea cds gl) 64 [.ptr 1 [] 0] [(1, some (.agg [.sl 1 nn l.length (bAt l), .int .i64 (a : Int), .int .i64 (b : Int)]))]
    (.int .i64 ((b - a : Nat) : Int)) [(1, some (.agg [.sl 1 nn l.length (bAt l), .int .i64 (a : Int), .int .i64 (b : Int)]))] := by
  refine agen_of_body (N := 12) Tryd.func64 rfl rfl (Nat.le_of_ble_eq_true rfl) fun C hV hN hM hO => ?_
  obtain ⟨_, _, w0, G0, σ0, _, own0⟩ := C; dsimp only at hV hN hM hO; subst hV; subst hN; subst hM
  refine awp_seq ?_
  refine awp_region rfl ?_
  refine sP (opp_as (v := .int _ _) rfl rfl) rfl rfl ?_
  refine awp_seq ?_
  refine awp_draw hmix rfl (by kernel_rfl) ?_
  first
    | refine dP (fun _ => false) (opp_mv (v := .ptr _ _ _) rfl rfl) rfl rfl ?_
    | refine dP (fun _ => false) (opp_mv (v := .fptr _) rfl rfl) rfl rfl ?_
  first
    | refine dP (fun _ => false) (opp_nilCheckP rfl rfl) rfl rfl ?_
    | refine dP (fun _ => false) (opp_nilCheckF rfl rfl) rfl rfl ?_
  first
    | refine dP (fun _ => false) (opp_fieldP rfl rfl fld174_2 rfl) rfl rfl ?_
    | refine dP (fun _ => false) (opp_fieldF rfl rfl rfl fld174_2 rfl rfl) rfl rfl ?_
  first
    | refine dP (fun n => Nat.beq n 1) (opp_loadP rfl rfl rfl rfl bi rfl ty3) rfl rfl ?_
    | refine dP (fun n => Nat.beq n 1) (opp_loadF rfl rfl ty3) rfl rfl ?_
  first
    | refine dP (fun _ => false) (opp_mv (v := .ptr _ _ _) rfl rfl) rfl rfl ?_
    | refine dP (fun _ => false) (opp_mv (v := .fptr _) rfl rfl) rfl rfl ?_
  first
    | refine dP (fun _ => false) (opp_nilCheckP rfl rfl) rfl rfl ?_
    | refine dP (fun _ => false) (opp_nilCheckF rfl rfl) rfl rfl ?_
  first
    | refine dP (fun _ => false) (opp_fieldP rfl rfl fld174_1 rfl) rfl rfl ?_
    | refine dP (fun _ => false) (opp_fieldF rfl rfl rfl fld174_1 rfl rfl) rfl rfl ?_
  first
    | refine dP (fun n => Nat.beq n 1) (opp_loadP rfl rfl rfl rfl bi rfl ty3) rfl rfl ?_
    | refine dP (fun n => Nat.beq n 1) (opp_loadF rfl rfl ty3) rfl rfl ?_
  first
    | refine dP (fun _ => false) (opp_arith rfl rfl rfl (.inr <| .inl ⟨rfl, w64 (by omega)⟩)) rfl rfl ?_
    | refine dP (fun _ => false) (opp_arith rfl rfl rfl (.inr <| .inl ⟨rfl, rfl⟩)) rfl rfl ?_
  refine dP (fun _ => false) (opp_as (v := .int _ _) rfl rfl) rfl rfl ?_
  refine And.intro (by kernel_rfl) ?_
  refine awp_ret ?_
  repeat (first | refine athen_ret ?_ | refine ain_ret ?_)
  first
    | refine gpost_ret (gend1 (r0 := .int _ _) true (.tmp .nil) shut rfl ?_ rfl (And.intro (Exists.intro _ (Exists.intro _ (And.intro rfl (And.intro shut (And.intro (fun h => by cases h) (And.intro ?_ rfl)))))) True.intro))
    | refine gpost_normal (gend1 (r0 := .int _ _) true (.tmp .nil) shut rfl ?_ rfl (And.intro (Exists.intro _ (Exists.intro _ (And.intro rfl (And.intro shut (And.intro (fun h => by cases h) (And.intro ?_ rfl)))))) True.intro))
    | refine gpost_ret (gend1 (r0 := .int _ _) false (.tmp .nil) shut rfl ?_ rfl (And.intro (Exists.intro _ (Exists.intro _ (And.intro rfl (And.intro shut (And.intro (fun h => by cases h) (And.intro ?_ rfl)))))) True.intro))
    | refine gpost_normal (gend1 (r0 := .int _ _) false (.tmp .nil) shut rfl ?_ rfl (And.intro (Exists.intro _ (Exists.intro _ (And.intro rfl (And.intro shut (And.intro (fun h => by cases h) (And.intro ?_ rfl)))))) True.intro))
  · rw [show ((b - a : Nat) : Int) = (b : Int) - a by omega]; exact .refl
  · exact .refl
theorem or_byte (n : Nat) (c : UInt8) (h : n < 16777216) : IntKind.i64.wrap ((BitVec.ofInt IntKind.i64.bits (IntKind.i64.wrap ((n : Int) * 2 ^ min (Int.toNat 8) IntKind.i64.bits)) ||| BitVec.ofInt IntKind.i64.bits (IntKind.i64.wrap (c.toNat : Int))).toNat : Int) = ((n * 256 + c.toNat : Nat) : Int) := by
  have hc := c.toNat_lt
  have e1 : IntKind.i64.wrap ((n : Int) * 2 ^ min (Int.toNat 8) IntKind.i64.bits) = ((n * 256 : Nat) : Int) := by
    have : (2 : Int) ^ min (Int.toNat 8) IntKind.i64.bits = 256 := by decide
    rw [this, w64 (by omega)]; omega
  have e2 : IntKind.i64.wrap (c.toNat : Int) = (c.toNat : Int) := w64 (by omega)
  have e3 : ∀ k : Nat, k < 18446744073709551616 → (BitVec.ofInt IntKind.i64.bits (k : Int)).toNat = k := fun k hk => by
    show (BitVec.ofInt 64 (k : Int)).toNat = k
    simp; omega
  rw [e1, e2, BitVec.toNat_or, e3 _ (by omega), e3 _ (by omega)]
  have e4 := Nat.two_pow_add_eq_or_of_lt (i := 8) (b := c.toNat) hc n
  rw [show n * 256 = 2 ^ 8 * n by omega, ← e4, w64 (by omega)]
theorem fld_succ (l : List UInt8) (k i : Nat) (h : k + i < l.length) : Sp.fld l k (i + 1) = Sp.fld l k i * 256 + (l.getD (k + i) 0).toNat := by
  unfold Sp.fld
  rw [List.take_add_one, List.getElem?_drop, List.getElem?_eq_getElem h, Option.toList_some, Sp.num_snoc]
  simp [List.getD_eq_getElem?_getD, h]
theorem fld_lt (l : List UInt8) (k i : Nat) : Sp.fld l k i < 256 ^ i := by
  have h := Sp.num_lt ((l.drop k).take i)
  exact Nat.lt_of_lt_of_le h (Nat.pow_le_pow_right (by decide) (by rw [List.length_take]; omega))
theorem cg137c (l : List UInt8) (nn : Bool) (a b off w : Nat) (hl : a + off + w ≤ l.length) (hw : w ≤ 4) (h0 : l.length ≤ 140737488355328) : AGen (V ea cds gl) 137 [.ptr 1 [] 0, .int .i64 (off : Int), .int .i64 (w : Int)] [(1, some (.agg [.sl 1 nn l.length (bAt l), .int .i64 (a : Int), .int .i64 (b : Int)]))]
    (.int .i64 (Sp.fld l (a + off) w : Nat)) [(1, some (.agg [.sl 1 nn l.length (bAt l), .int .i64 (a : Int), .int .i64 (b : Int)]))] := by
  refine agen_of_body (N := 41) Tryd.func137 rfl rfl (Nat.le_of_ble_eq_true rfl) fun C hV hN hM hO => ?_
  obtain ⟨_, _, w0, G0, σ0, _, own0⟩ := C; dsimp only at hV hN hM hO; subst hV; subst hN; subst hM
  refine awp_seq ?_
  refine awp_region rfl ?_
  refine sP (opp_as (v := .int _ _) rfl rfl) rfl rfl ?_
  refine awp_seq ?_
  refine awp_region rfl ?_
  refine sP (opp_as (v := .int _ _) rfl rfl) rfl rfl ?_
  refine awp_seq ?_
  refine awp_seq ?_
  refine awp_draw hmix rfl (by kernel_rfl) ?_
  first
    | refine dP (fun _ => false) (opp_mv (v := .ptr _ _ _) rfl rfl) rfl rfl ?_
    | refine dP (fun _ => false) (opp_mv (v := .fptr _) rfl rfl) rfl rfl ?_
  first
    | refine dP (fun _ => false) (opp_nilCheckP rfl rfl) rfl rfl ?_
    | refine dP (fun _ => false) (opp_nilCheckF rfl rfl) rfl rfl ?_
  first
    | refine dP (fun _ => false) (opp_fieldP rfl rfl fld174_0 rfl) rfl rfl ?_
    | refine dP (fun _ => false) (opp_fieldF rfl rfl rfl fld174_0 rfl rfl) rfl rfl ?_
  first
    | refine dP (fun n => Nat.beq n 1) (opp_loadP rfl rfl rfl rfl bi rfl ty36) rfl rfl ?_
    | refine dP (fun n => Nat.beq n 1) (opp_loadF rfl rfl ty36) rfl rfl ?_
  first
    | refine dP (fun _ => false) (opp_mv (v := .ptr _ _ _) rfl rfl) rfl rfl ?_
    | refine dP (fun _ => false) (opp_mv (v := .fptr _) rfl rfl) rfl rfl ?_
  first
    | refine dP (fun _ => false) (opp_nilCheckP rfl rfl) rfl rfl ?_
    | refine dP (fun _ => false) (opp_nilCheckF rfl rfl) rfl rfl ?_
  first
    | refine dP (fun _ => false) (opp_fieldP rfl rfl fld174_1 rfl) rfl rfl ?_
    | refine dP (fun _ => false) (opp_fieldF rfl rfl rfl fld174_1 rfl rfl) rfl rfl ?_
  first
    | refine dP (fun n => Nat.beq n 1) (opp_loadP rfl rfl rfl rfl bi rfl ty3) rfl rfl ?_
    | refine dP (fun n => Nat.beq n 1) (opp_loadF rfl rfl ty3) rfl rfl ?_
  refine dP (fun _ => false) (opp_mv (v := .int _ _) rfl rfl) rfl rfl ?_
  first
    | refine dP (fun _ => false) (opp_arith rfl rfl rfl (.inl ⟨rfl, w64 (by omega)⟩)) rfl rfl ?_
    | refine dP (fun _ => false) (opp_arith rfl rfl rfl (.inl ⟨rfl, rfl⟩)) rfl rfl ?_
  first
    | refine dP (fun _ => false) (opp_mv (v := .ptr _ _ _) rfl rfl) rfl rfl ?_
    | refine dP (fun _ => false) (opp_mv (v := .fptr _) rfl rfl) rfl rfl ?_
  first
    | refine dP (fun _ => false) (opp_nilCheckP rfl rfl) rfl rfl ?_
    | refine dP (fun _ => false) (opp_nilCheckF rfl rfl) rfl rfl ?_
  first
    | refine dP (fun _ => false) (opp_fieldP rfl rfl fld174_1 rfl) rfl rfl ?_
    | refine dP (fun _ => false) (opp_fieldF rfl rfl rfl fld174_1 rfl rfl) rfl rfl ?_
  first
    | refine dP (fun n => Nat.beq n 1) (opp_loadP rfl rfl rfl rfl bi rfl ty3) rfl rfl ?_
    | refine dP (fun n => Nat.beq n 1) (opp_loadF rfl rfl ty3) rfl rfl ?_
  refine dP (fun _ => false) (opp_mv (v := .int _ _) rfl rfl) rfl rfl ?_
  first
    | refine dP (fun _ => false) (opp_arith rfl rfl rfl (.inl ⟨rfl, w64 (by omega)⟩)) rfl rfl ?_
    | refine dP (fun _ => false) (opp_arith rfl rfl rfl (.inl ⟨rfl, rfl⟩)) rfl rfl ?_
  refine dP (fun _ => false) (opp_mv (v := .int _ _) rfl rfl) rfl rfl ?_
  first
    | refine dP (fun _ => false) (opp_arith rfl rfl rfl (.inl ⟨rfl, w64 (by omega)⟩)) rfl rfl ?_
    | refine dP (fun _ => false) (opp_arith rfl rfl rfl (.inl ⟨rfl, rfl⟩)) rfl rfl ?_
  refine dP (fun n => !([] : List Nat).contains n) (opp_sliceSl rfl rfl rfl rfl el36 (by omega) (by omega) (by omega)) rfl rfl ?_
  first
    | refine dP (fun n => !([] : List Nat).contains n) (opp_lenSl rfl rfl un36) rfl rfl ?_
    | refine dP (fun n => !([] : List Nat).contains n) (opp_lenOsl rfl rfl un36) rfl rfl ?_
  refine dP (fun _ => false) (opp_mv (v := .int _ _) rfl rfl) rfl rfl ?_
  refine And.intro (by kernel_rfl) ?_
  refine awp_block ?_
  refine awp_loopK (ι := Nat) (fun i => i ≤ w) (fun i => [(7, .int .i64 (Sp.fld l (a + off) i : Nat)), (9, .top), (30, .int .i64 (i : Int)), (31, .top), (32, .top), (33, .top), (34, .top), (35, .top), (36, .top), (37, .top), (38, .top), (39, .top)]) (fun i => []) [1] (fun i => w - i) (0) (Nat.zero_le _) (by
    refine imp_over [] rfl rfl (by kernel_rfl) ?_ ?_
    · refine And.intro wkv ?_
      refine And.intro wkv ?_
      refine And.intro wkv ?_
      refine And.intro wkv ?_
      refine And.intro wkv ?_
      refine And.intro wkv ?_
      refine And.intro wkv ?_
      refine And.intro wkv ?_
      refine And.intro wkv ?_
      refine And.intro wkv ?_
      refine And.intro wkv ?_
      refine And.intro wkv ?_
      exact True.intro
    · exact True.intro
    ) ?_
  intro i hi1
  refine awp_seq ?_
  refine awp_region rfl ?_
  refine sP (opp_cmp rfl rfl rfl rfl) rfl rfl ?_
  refine awp_seq ?_
  refine awp_cond _ rfl (fun hc5 => ?_) (fun hc5 => ?_)
  · (try simp only [cmpI, errD_nil, Bool.not_eq_true', Bool.not_eq_false', decide_eq_true_eq, decide_eq_false_iff_not] at hc5); have ht31 := hc5
    refine awp_skip ?_
    refine awp_seq ?_
    refine awp_block ?_
    refine awp_seq ?_
    refine awp_region rfl ?_
    first
      | refine sP (opp_indexSl rfl rfl rfl el36 (by omega) (by omega)) rfl rfl ?_
      | refine sP (opp_indexOsl0 rfl rfl rfl el36 (by omega) (by omega)) rfl rfl ?_
      | refine sP (opp_indexOsl rfl rfl rfl el36 (by omega) (by omega)) rfl rfl ?_
    first
      | refine sP (opp_loadP rfl rfl rfl rfl bi rfl ty5) rfl rfl ?_
      | refine sP (opp_loadF rfl rfl ty5) rfl rfl ?_
    refine sP (opp_as (v := .int _ _) rfl rfl) rfl rfl ?_
    refine awp_region rfl ?_
    refine sP (opp_mv (v := .int _ _) rfl rfl) rfl rfl ?_
    refine sP (opp_shift rfl rfl rfl (by omega) (.inl ⟨rfl, rfl⟩)) rfl rfl ?_
    refine sP (opp_mv (v := .int _ _) rfl rfl) rfl rfl ?_
    first
      | refine sP (opp_convInt rfl rfl un5s un3 (w64 (by omega))) rfl rfl ?_
      | refine sP (opp_convInt rfl rfl un5s un3 rfl) rfl rfl ?_
    refine sP (opp_arith rfl rfl rfl (.inr <| .inr <| .inr <| .inr <| .inr <| .inr <| .inl ⟨rfl, rfl⟩)) rfl rfl ?_
    refine sP (opp_as (v := .int _ _) rfl rfl) rfl rfl ?_
    refine awp_region rfl ?_
    first
      | refine sP (opp_arith rfl rfl rfl (.inl ⟨rfl, w64 (by omega)⟩)) rfl rfl ?_
      | refine sP (opp_arith rfl rfl rfl (.inl ⟨rfl, rfl⟩)) rfl rfl ?_
    refine sP (opp_mv (v := .int _ _) rfl rfl) rfl rfl ?_
    refine Exists.intro (i + 1) (And.intro (And.intro (by omega) (by omega)) (by
      refine imp_over [] rfl rfl (by kernel_rfl) ?_ ?_
      · refine And.intro (by exact Or.inr (And.intro rfl (WkV.of (by show AV.int .i64 _ = AV.int .i64 _; have hf := fld_lt l (a + off) i; have h3 : 256 ^ i ≤ 256 ^ 3 := Nat.pow_le_pow_right (by decide) (by omega); have e := or_byte (Sp.fld l (a + off) i) (l.getD (a + off + i) 0) (by omega); rw [← fld_succ l (a + off) i (by omega)] at e; rw [show ((a : Int) + off).toNat + (i : Int).toNat = a + off + i by omega, e])))) ?_
        refine And.intro wkv ?_
        refine And.intro wkv ?_
        refine And.intro wkv ?_
        refine And.intro wkv ?_
        refine And.intro wkv ?_
        refine And.intro wkv ?_
        refine And.intro wkv ?_
        refine And.intro wkv ?_
        refine And.intro wkv ?_
        refine And.intro wkv ?_
        refine And.intro wkv ?_
        exact True.intro
      · exact True.intro
      ))
  · (try simp only [cmpI, errD_nil, Bool.not_eq_true', Bool.not_eq_false', decide_eq_true_eq, decide_eq_false_iff_not] at hc5); have ht31 := hc5
    refine awp_exit ?_
    refine awp_seq ?_
    refine awp_region rfl ?_
    refine sP (opp_mv (v := .int _ _) rfl rfl) rfl rfl ?_
    refine sP (opp_as (v := .int _ _) rfl rfl) rfl rfl ?_
    refine awp_ret ?_
    repeat (first | refine athen_ret ?_ | refine ain_ret ?_)
    first
      | refine gpost_ret (gend1 (r0 := .int _ _) true (.tmp .nil) shut rfl ?_ rfl (And.intro (Exists.intro _ (Exists.intro _ (And.intro rfl (And.intro shut (And.intro (fun h => by cases h) (And.intro ?_ rfl)))))) True.intro))
      | refine gpost_normal (gend1 (r0 := .int _ _) true (.tmp .nil) shut rfl ?_ rfl (And.intro (Exists.intro _ (Exists.intro _ (And.intro rfl (And.intro shut (And.intro (fun h => by cases h) (And.intro ?_ rfl)))))) True.intro))
      | refine gpost_ret (gend1 (r0 := .int _ _) false (.tmp .nil) shut rfl ?_ rfl (And.intro (Exists.intro _ (Exists.intro _ (And.intro rfl (And.intro shut (And.intro (fun h => by cases h) (And.intro ?_ rfl)))))) True.intro))
      | refine gpost_normal (gend1 (r0 := .int _ _) false (.tmp .nil) shut rfl ?_ rfl (And.intro (Exists.intro _ (Exists.intro _ (And.intro rfl (And.intro shut (And.intro (fun h => by cases h) (And.intro ?_ rfl)))))) True.intro))
    · rw [show i = w by omega]; exact .refl
    · exact .refl
theorem cg111c (l : List UInt8) (nn : Bool) (a b w : Nat) (hw : w = 1 ∨ w = 2 ∨ w = 4) (hb : a + w ≤ b) (hl : b ≤ l.length) (h0 : l.length ≤ 140737488355328) : AGen (V ea cds gl) 111 [.ptr 1 [] 0, .int .i64 (w : Int), .int .i64 0, .int .i64 ((256 ^ w - 1 : Nat) : Int)] [(1, some (.agg [.sl 1 nn l.length (bAt l), .int .i64 (a : Int), .int .i64 (b : Int)]))]
    (.tup [.int .i64 (Sp.fld l a w : Nat), .err .nil]) [(1, some (.agg [.sl 1 nn l.length (bAt l), .int .i64 ((a + w : Nat) : Int), .int .i64 (b : Int)]))] := by
  have hf := fld_lt l a w
  refine agen_of_body (N := 58) Tryd.func111 rfl rfl (Nat.le_of_ble_eq_true rfl) fun C hV hN hM hO => ?_
  obtain ⟨_, _, w0, G0, σ0, _, own0⟩ := C; dsimp only at hV hN hM hO; subst hV; subst hN; subst hM
  refine awp_seq ?_
  refine awp_region rfl ?_
  refine sP (opp_as (v := .int _ _) rfl rfl) rfl rfl ?_
  refine sP (opp_as (v := .err _) rfl rfl) rfl rfl ?_
  refine awp_seq ?_
  refine awp_seq ?_
  refine awp_region rfl ?_
  refine sP (opp_mv (v := .int _ _) rfl rfl) rfl rfl ?_
  refine sP (opp_cmp rfl rfl rfl rfl) rfl rfl ?_
  refine sP (opp_mv (v := .bool _) rfl rfl) rfl rfl ?_
  refine sG _ rfl rfl rfl rfl (fun hg => (And.intro gi (True.intro))) (fun hg => opp_mv (v := .int _ _) rfl rfl) ?_
  refine sG _ rfl rfl rfl rfl (fun hg => (And.intro gi (And.intro gi (True.intro)))) (fun hg => opp_cmp rfl rfl rfl rfl) ?_
  refine sPick rfl rfl rfl rfl (by exact True.intro) rfl rfl (fun hg => gi) (fun hg => gi) ?_
  refine sP (opp_mv (v := .bool _) rfl rfl) rfl rfl ?_
  refine sG _ rfl rfl rfl rfl (fun hg => (And.intro gi (True.intro))) (fun hg => opp_mv (v := .int _ _) rfl rfl) ?_
  refine sG _ rfl rfl rfl rfl (fun hg => (And.intro gi (And.intro gi (True.intro)))) (fun hg => opp_cmp rfl rfl rfl rfl) ?_
  refine sPick rfl rfl rfl rfl (by exact True.intro) rfl rfl (fun hg => gi) (fun hg => gi) ?_
  refine awp_cond _ rfl (fun hc3 => ?_) (fun hc3 => ?_)
  · (try simp only [cmpI, errD_nil, Bool.not_eq_true', Bool.not_eq_false', decide_eq_true_eq, decide_eq_false_iff_not] at hc3); have ht20 := hc3
    exfalso; revert ht20; rcases hw with rfl | rfl | rfl <;> simp [cmpI]
  · (try simp only [cmpI, errD_nil, Bool.not_eq_true', Bool.not_eq_false', decide_eq_true_eq, decide_eq_false_iff_not] at hc3); have ht20 := hc3
    refine awp_skip ?_
    refine awp_seq ?_
    refine awp_seq ?_
    refine awp_region rfl ?_
    first
      | refine sP (opp_mv (v := .ptr _ _ _) rfl rfl) rfl rfl ?_
      | refine sP (opp_mv (v := .fptr _) rfl rfl) rfl rfl ?_
    refine sR (opr_callG (rl := [(1, 1)]) (r1 := .int _ _) (H1 := [(1, some (.agg [.sl _ _ _ _, .int _ _, .int _ _]))]) (n1 := []) rfl rfl ent64 (cg64c l nn a b (by omega) (by omega)) (And.intro (And.intro rfl wka) True.intro) (And.intro (And.intro rfl (Exists.intro _ (And.intro rfl wkc))) True.intro) rfl rfl rfl rfl) rfl rfl rfl ?_
    refine sP (opp_mv (v := .int _ _) rfl rfl) rfl rfl ?_
    refine sP (opp_cmp rfl rfl rfl rfl) rfl rfl ?_
    refine awp_cond _ rfl (fun hc5 => ?_) (fun hc5 => ?_)
    · (try simp only [cmpI, errD_nil, Bool.not_eq_true', Bool.not_eq_false', decide_eq_true_eq, decide_eq_false_iff_not] at hc5); have ht25 := hc5
      exfalso; simp [cmpI] at ht25; omega
    · (try simp only [cmpI, errD_nil, Bool.not_eq_true', Bool.not_eq_false', decide_eq_true_eq, decide_eq_false_iff_not] at hc5); have ht25 := hc5
      refine awp_skip ?_
      refine awp_seq ?_
      refine awp_region rfl ?_
      first
        | refine sP (opp_mv (v := .ptr _ _ _) rfl rfl) rfl rfl ?_
        | refine sP (opp_mv (v := .fptr _) rfl rfl) rfl rfl ?_
      refine sP (opp_mv (v := .int _ _) rfl rfl) rfl rfl ?_
      refine sR (opr_callG (rl := [(1, 1)]) (r1 := .int _ _) (H1 := [(1, some (.agg [.sl _ _ _ _, .int _ _, .int _ _]))]) (n1 := []) rfl rfl ent137 (cg137c l nn a b 0 w (by omega) (by omega) h0) (And.intro (And.intro rfl wka) (And.intro (And.intro rfl wka) (And.intro (And.intro rfl wka) True.intro))) (And.intro (And.intro rfl (Exists.intro _ (And.intro rfl wkc))) True.intro) rfl rfl rfl rfl) rfl rfl rfl ?_
      refine sP (opp_as (v := .int _ _) rfl rfl) rfl rfl ?_
      refine awp_seq ?_
      refine awp_seq ?_
      refine awp_region rfl ?_
      refine sP (opp_mv (v := .int _ _) rfl rfl) rfl rfl ?_
      refine sP (opp_mv (v := .int _ _) rfl rfl) rfl rfl ?_
      refine sP (opp_cmp rfl rfl rfl rfl) rfl rfl ?_
      refine sP (opp_mv (v := .bool _) rfl rfl) rfl rfl ?_
      refine sG _ rfl rfl rfl rfl (fun hg => (And.intro gi (True.intro))) (fun hg => opp_mv (v := .int _ _) rfl rfl) ?_
      refine sG _ rfl rfl rfl rfl (fun hg => (And.intro gi (True.intro))) (fun hg => opp_mv (v := .int _ _) rfl rfl) ?_
      refine sG _ rfl rfl rfl rfl (fun hg => (And.intro gi (And.intro gi (True.intro)))) (fun hg => opp_cmp rfl rfl rfl rfl) ?_
      refine sPick rfl rfl rfl rfl (by exact True.intro) rfl rfl (fun hg => gi) (fun hg => gi) ?_
      refine awp_cond _ rfl (fun hc8 => ?_) (fun hc8 => ?_)
      · (try simp only [cmpI, errD_nil, Bool.not_eq_true', Bool.not_eq_false', decide_eq_true_eq, decide_eq_false_iff_not] at hc8); have ht42 := hc8
        exfalso; simp [cmpI] at ht42; omega
      · (try simp only [cmpI, errD_nil, Bool.not_eq_true', Bool.not_eq_false', decide_eq_true_eq, decide_eq_false_iff_not] at hc8); have ht42 := hc8
        refine awp_skip ?_
        refine awp_seq ?_
        refine awp_region rfl ?_
        first
          | refine sP (opp_mv (v := .ptr _ _ _) rfl rfl) rfl rfl ?_
          | refine sP (opp_mv (v := .fptr _) rfl rfl) rfl rfl ?_
        first
          | refine sP (opp_nilCheckP rfl rfl) rfl rfl ?_
          | refine sP (opp_nilCheckF rfl rfl) rfl rfl ?_
        first
          | refine sP (opp_fieldP rfl rfl fld174_1 rfl) rfl rfl ?_
          | refine sP (opp_fieldF rfl rfl rfl fld174_1 rfl rfl) rfl rfl ?_
        first
          | refine sP (opp_loadP rfl rfl rfl rfl bi rfl ty3) rfl rfl ?_
          | refine sP (opp_loadF rfl rfl ty3) rfl rfl ?_
        refine sP (opp_mv (v := .int _ _) rfl rfl) rfl rfl ?_
        first
          | refine sP (opp_arith rfl rfl rfl (.inl ⟨rfl, w64 (by omega)⟩)) rfl rfl ?_
          | refine sP (opp_arith rfl rfl rfl (.inl ⟨rfl, rfl⟩)) rfl rfl ?_
        first
          | refine sP (opp_nilCheckP rfl rfl) rfl rfl ?_
          | refine sP (opp_nilCheckF rfl rfl) rfl rfl ?_
        first
          | refine sP (opp_fieldP rfl rfl fld174_1 rfl) rfl rfl ?_
          | refine sP (opp_fieldF rfl rfl rfl fld174_1 rfl rfl) rfl rfl ?_
        refine sR0 (opr_store (v := .int _ _) (trn := (.agg [_, .int _ _, _])) rfl rfl rfl rfl bi rfl rfl rfl rfl fr2 ty3 (fun _ _ h => h)) rfl rfl rfl ?_
        refine awp_seq ?_
        refine awp_region rfl ?_
        refine sP (opp_mv (v := .int _ _) rfl rfl) rfl rfl ?_
        refine sP (opp_as (v := .int _ _) rfl rfl) rfl rfl ?_
        refine sP (opp_as (v := .err _) rfl rfl) rfl rfl ?_
        refine awp_ret ?_
        repeat (first | refine athen_ret ?_ | refine ain_ret ?_)
        first
          | refine gpost_ret (gends (l := [.int _ _, .err _]) true (.tmp (.tmp .nil)) (fun h => by cases h) (.cons shut (fun h => by cases h) (.cons shut (fun h => by cases h) .nil)) rfl ?_ rfl (And.intro (Exists.intro _ (Exists.intro _ (And.intro rfl (And.intro shut (And.intro (fun h => by cases h) (And.intro ?_ rfl)))))) True.intro))
          | refine gpost_normal (gends (l := [.int _ _, .err _]) true (.tmp (.tmp .nil)) (fun h => by cases h) (.cons shut (fun h => by cases h) (.cons shut (fun h => by cases h) .nil)) rfl ?_ rfl (And.intro (Exists.intro _ (Exists.intro _ (And.intro rfl (And.intro shut (And.intro (fun h => by cases h) (And.intro ?_ rfl)))))) True.intro))
          | refine gpost_ret (gends (l := [.int _ _, .err _]) false (.tmp (.tmp .nil)) (fun h => by cases h) (.cons shut (fun h => by cases h) (.cons shut (fun h => by cases h) .nil)) rfl ?_ rfl (And.intro (Exists.intro _ (Exists.intro _ (And.intro rfl (And.intro shut (And.intro (fun h => by cases h) (And.intro ?_ rfl)))))) True.intro))
          | refine gpost_normal (gends (l := [.int _ _, .err _]) false (.tmp (.tmp .nil)) (fun h => by cases h) (.cons shut (fun h => by cases h) (.cons shut (fun h => by cases h) .nil)) rfl ?_ rfl (And.intro (Exists.intro _ (Exists.intro _ (And.intro rfl (And.intro shut (And.intro (fun h => by cases h) (And.intro ?_ rfl)))))) True.intro))
        · exact .refl
        · rw [show ((a + w : Nat) : Int) = (a : Int) + w by omega]; exact .refl
theorem cg61c (l : List UInt8) (nn : Bool) (a b : Nat) (hb : a + 1 ≤ b) (hl : b ≤ l.length) (h0 : l.length ≤ 140737488355328) : AGen (V ea cds gl) 61 [.ptr 1 [] 0] [(1, some (.agg [.sl 1 nn l.length (bAt l), .int .i64 (a : Int), .int .i64 (b : Int)]))]
    (.tup [.int .i64 (Sp.fld l a 1 : Nat), .err .nil]) [(1, some (.agg [.sl 1 nn l.length (bAt l), .int .i64 ((a + 1 : Nat) : Int), .int .i64 (b : Int)]))] := by
  refine agen_of_body (N := 9) Tryd.func61 rfl rfl (Nat.le_of_ble_eq_true rfl) fun C hV hN hM hO => ?_
  obtain ⟨_, _, w0, G0, σ0, _, own0⟩ := C; dsimp only at hV hN hM hO; subst hV; subst hN; subst hM
  refine awp_seq ?_
  refine awp_region rfl ?_
  refine sP (opp_as (v := .int _ _) rfl rfl) rfl rfl ?_
  refine sP (opp_as (v := .err _) rfl rfl) rfl rfl ?_
  refine awp_seq ?_
  refine awp_region rfl ?_
  first
    | refine sP (opp_mv (v := .ptr _ _ _) rfl rfl) rfl rfl ?_
    | refine sP (opp_mv (v := .fptr _) rfl rfl) rfl rfl ?_
  refine sR (opr_call rfl rfl ent112 rfl (c112 1 (by simp)) (AViews.refl _ rfl)) rfl rfl rfl ?_ -- d=5 t=3
  refine sR (opr_callG (rl := [(1, 1)]) (r1 := .tup [.int _ _, .err _]) (H1 := [(1, some (.agg [.sl _ _ _ _, .int _ _, .int _ _]))]) (n1 := []) rfl rfl ent111 (cg111c l nn a b 1 (by simp) hb hl h0) (And.intro (And.intro rfl wka) (And.intro (And.intro rfl wka) (And.intro (And.intro rfl wka) (And.intro (And.intro rfl wka) True.intro)))) (And.intro (And.intro rfl (Exists.intro _ (And.intro rfl wkc))) True.intro) rfl rfl rfl rfl) rfl rfl rfl ?_
  refine sP (opp_extract rfl rfl rfl) rfl rfl ?_
  refine sP (opp_extract rfl rfl rfl) rfl rfl ?_
  refine sP (opp_as (v := .int _ _) rfl rfl) rfl rfl ?_
  refine sP (opp_as (v := .err _) rfl rfl) rfl rfl ?_
  refine awp_ret ?_
  repeat (first | refine athen_ret ?_ | refine ain_ret ?_)
  first
    | refine gpost_ret (gends (l := [.int _ _, .err _]) true (.tmp (.tmp .nil)) (fun h => by cases h) (.cons shut (fun h => by cases h) (.cons shut (fun h => by cases h) .nil)) rfl ?_ rfl (And.intro (Exists.intro _ (Exists.intro _ (And.intro rfl (And.intro shut (And.intro (fun h => by cases h) (And.intro ?_ rfl)))))) True.intro))
    | refine gpost_normal (gends (l := [.int _ _, .err _]) true (.tmp (.tmp .nil)) (fun h => by cases h) (.cons shut (fun h => by cases h) (.cons shut (fun h => by cases h) .nil)) rfl ?_ rfl (And.intro (Exists.intro _ (Exists.intro _ (And.intro rfl (And.intro shut (And.intro (fun h => by cases h) (And.intro ?_ rfl)))))) True.intro))
    | refine gpost_ret (gends (l := [.int _ _, .err _]) false (.tmp (.tmp .nil)) (fun h => by cases h) (.cons shut (fun h => by cases h) (.cons shut (fun h => by cases h) .nil)) rfl ?_ rfl (And.intro (Exists.intro _ (Exists.intro _ (And.intro rfl (And.intro shut (And.intro (fun h => by cases h) (And.intro ?_ rfl)))))) True.intro))
    | refine gpost_normal (gends (l := [.int _ _, .err _]) false (.tmp (.tmp .nil)) (fun h => by cases h) (.cons shut (fun h => by cases h) (.cons shut (fun h => by cases h) .nil)) rfl ?_ rfl (And.intro (Exists.intro _ (Exists.intro _ (And.intro rfl (And.intro shut (And.intro (fun h => by cases h) (And.intro ?_ rfl)))))) True.intro))
  · exact .refl
  · exact .refl
theorem cg60c (l : List UInt8) (nn : Bool) (a b : Nat) (hb : a + 2 ≤ b) (hl : b ≤ l.length) (h0 : l.length ≤ 140737488355328) : AGen (V ea cds gl) 60 [.ptr 1 [] 0] [(1, some (.agg [.sl 1 nn l.length (bAt l), .int .i64 (a : Int), .int .i64 (b : Int)]))]
    (.tup [.int .i64 (Sp.fld l a 2 : Nat), .err .nil]) [(1, some (.agg [.sl 1 nn l.length (bAt l), .int .i64 ((a + 2 : Nat) : Int), .int .i64 (b : Int)]))] := by
  refine agen_of_body (N := 9) Tryd.func60 rfl rfl (Nat.le_of_ble_eq_true rfl) fun C hV hN hM hO => ?_
  obtain ⟨_, _, w0, G0, σ0, _, own0⟩ := C; dsimp only at hV hN hM hO; subst hV; subst hN; subst hM
  refine awp_seq ?_
  refine awp_region rfl ?_
  refine sP (opp_as (v := .int _ _) rfl rfl) rfl rfl ?_
  refine sP (opp_as (v := .err _) rfl rfl) rfl rfl ?_
  refine awp_seq ?_
  refine awp_region rfl ?_
  first
    | refine sP (opp_mv (v := .ptr _ _ _) rfl rfl) rfl rfl ?_
    | refine sP (opp_mv (v := .fptr _) rfl rfl) rfl rfl ?_
  refine sR (opr_call rfl rfl ent112 rfl (c112 2 (by simp)) (AViews.refl _ rfl)) rfl rfl rfl ?_ -- d=5 t=3
  refine sR (opr_callG (rl := [(1, 1)]) (r1 := .tup [.int _ _, .err _]) (H1 := [(1, some (.agg [.sl _ _ _ _, .int _ _, .int _ _]))]) (n1 := []) rfl rfl ent111 (cg111c l nn a b 2 (by simp) hb hl h0) (And.intro (And.intro rfl wka) (And.intro (And.intro rfl wka) (And.intro (And.intro rfl wka) (And.intro (And.intro rfl wka) True.intro)))) (And.intro (And.intro rfl (Exists.intro _ (And.intro rfl wkc))) True.intro) rfl rfl rfl rfl) rfl rfl rfl ?_
  refine sP (opp_extract rfl rfl rfl) rfl rfl ?_
  refine sP (opp_extract rfl rfl rfl) rfl rfl ?_
  refine sP (opp_as (v := .int _ _) rfl rfl) rfl rfl ?_
  refine sP (opp_as (v := .err _) rfl rfl) rfl rfl ?_
  refine awp_ret ?_
  repeat (first | refine athen_ret ?_ | refine ain_ret ?_)
  first
    | refine gpost_ret (gends (l := [.int _ _, .err _]) true (.tmp (.tmp .nil)) (fun h => by cases h) (.cons shut (fun h => by cases h) (.cons shut (fun h => by cases h) .nil)) rfl ?_ rfl (And.intro (Exists.intro _ (Exists.intro _ (And.intro rfl (And.intro shut (And.intro (fun h => by cases h) (And.intro ?_ rfl)))))) True.intro))
    | refine gpost_normal (gends (l := [.int _ _, .err _]) true (.tmp (.tmp .nil)) (fun h => by cases h) (.cons shut (fun h => by cases h) (.cons shut (fun h => by cases h) .nil)) rfl ?_ rfl (And.intro (Exists.intro _ (Exists.intro _ (And.intro rfl (And.intro shut (And.intro (fun h => by cases h) (And.intro ?_ rfl)))))) True.intro))
    | refine gpost_ret (gends (l := [.int _ _, .err _]) false (.tmp (.tmp .nil)) (fun h => by cases h) (.cons shut (fun h => by cases h) (.cons shut (fun h => by cases h) .nil)) rfl ?_ rfl (And.intro (Exists.intro _ (Exists.intro _ (And.intro rfl (And.intro shut (And.intro (fun h => by cases h) (And.intro ?_ rfl)))))) True.intro))
    | refine gpost_normal (gends (l := [.int _ _, .err _]) false (.tmp (.tmp .nil)) (fun h => by cases h) (.cons shut (fun h => by cases h) (.cons shut (fun h => by cases h) .nil)) rfl ?_ rfl (And.intro (Exists.intro _ (Exists.intro _ (And.intro rfl (And.intro shut (And.intro (fun h => by cases h) (And.intro ?_ rfl)))))) True.intro))
  · exact .refl
  · exact .refl
theorem cg62c (l : List UInt8) (nn : Bool) (a b : Nat) (hb : a + 4 ≤ b) (hl : b ≤ l.length) (h0 : l.length ≤ 140737488355328) : AGen (V ea cds gl) 62 [.ptr 1 [] 0] [(1, some (.agg [.sl 1 nn l.length (bAt l), .int .i64 (a : Int), .int .i64 (b : Int)]))]
    (.tup [.int .i64 (Sp.fld l a 4 : Nat), .err .nil]) [(1, some (.agg [.sl 1 nn l.length (bAt l), .int .i64 ((a + 4 : Nat) : Int), .int .i64 (b : Int)]))] := by
  refine agen_of_body (N := 9) Tryd.func62 rfl rfl (Nat.le_of_ble_eq_true rfl) fun C hV hN hM hO => ?_
  obtain ⟨_, _, w0, G0, σ0, _, own0⟩ := C; dsimp only at hV hN hM hO; subst hV; subst hN; subst hM
  refine awp_seq ?_
  refine awp_region rfl ?_
  refine sP (opp_as (v := .int _ _) rfl rfl) rfl rfl ?_
  refine sP (opp_as (v := .err _) rfl rfl) rfl rfl ?_
  refine awp_seq ?_
  refine awp_region rfl ?_
  first
    | refine sP (opp_mv (v := .ptr _ _ _) rfl rfl) rfl rfl ?_
    | refine sP (opp_mv (v := .fptr _) rfl rfl) rfl rfl ?_
  refine sR (opr_call rfl rfl ent112 rfl (c112 4 (by simp)) (AViews.refl _ rfl)) rfl rfl rfl ?_ -- d=5 t=3
  refine sR (opr_callG (rl := [(1, 1)]) (r1 := .tup [.int _ _, .err _]) (H1 := [(1, some (.agg [.sl _ _ _ _, .int _ _, .int _ _]))]) (n1 := []) rfl rfl ent111 (cg111c l nn a b 4 (by simp) hb hl h0) (And.intro (And.intro rfl wka) (And.intro (And.intro rfl wka) (And.intro (And.intro rfl wka) (And.intro (And.intro rfl wka) True.intro)))) (And.intro (And.intro rfl (Exists.intro _ (And.intro rfl wkc))) True.intro) rfl rfl rfl rfl) rfl rfl rfl ?_
  refine sP (opp_extract rfl rfl rfl) rfl rfl ?_
  refine sP (opp_extract rfl rfl rfl) rfl rfl ?_
  refine sP (opp_as (v := .int _ _) rfl rfl) rfl rfl ?_
  refine sP (opp_as (v := .err _) rfl rfl) rfl rfl ?_
  refine awp_ret ?_
  repeat (first | refine athen_ret ?_ | refine ain_ret ?_)
  first
    | refine gpost_ret (gends (l := [.int _ _, .err _]) true (.tmp (.tmp .nil)) (fun h => by cases h) (.cons shut (fun h => by cases h) (.cons shut (fun h => by cases h) .nil)) rfl ?_ rfl (And.intro (Exists.intro _ (Exists.intro _ (And.intro rfl (And.intro shut (And.intro (fun h => by cases h) (And.intro ?_ rfl)))))) True.intro))
    | refine gpost_normal (gends (l := [.int _ _, .err _]) true (.tmp (.tmp .nil)) (fun h => by cases h) (.cons shut (fun h => by cases h) (.cons shut (fun h => by cases h) .nil)) rfl ?_ rfl (And.intro (Exists.intro _ (Exists.intro _ (And.intro rfl (And.intro shut (And.intro (fun h => by cases h) (And.intro ?_ rfl)))))) True.intro))
    | refine gpost_ret (gends (l := [.int _ _, .err _]) false (.tmp (.tmp .nil)) (fun h => by cases h) (.cons shut (fun h => by cases h) (.cons shut (fun h => by cases h) .nil)) rfl ?_ rfl (And.intro (Exists.intro _ (Exists.intro _ (And.intro rfl (And.intro shut (And.intro (fun h => by cases h) (And.intro ?_ rfl)))))) True.intro))
    | refine gpost_normal (gends (l := [.int _ _, .err _]) false (.tmp (.tmp .nil)) (fun h => by cases h) (.cons shut (fun h => by cases h) (.cons shut (fun h => by cases h) .nil)) rfl ?_ rfl (And.intro (Exists.intro _ (Exists.intro _ (And.intro rfl (And.intro shut (And.intro (fun h => by cases h) (And.intro ?_ rfl)))))) True.intro))
  · exact .refl
  · exact .refl
theorem cg63c (l : List UInt8) (a b n : Nat) (hb : a + n ≤ b) (hl : b ≤ l.length) (h0 : l.length ≤ 140737488355328) : AGen (V ea cds gl) 63 [.ptr 1 [] 0, .int .i64 (n : Int)] [(1, some (.agg [.sl 1 false l.length (bAt l), .int .i64 (a : Int), .int .i64 (b : Int)]))]
    (.tup [.sl 1 false ((l.drop a).take n).length (bAt ((l.drop a).take n)), .err .nil]) [(1, some (.agg [.sl 1 false l.length (bAt l), .int .i64 ((a + n : Nat) : Int), .int .i64 (b : Int)]))] := by
  refine agen_of_body (N := 45) Tryd.func63 rfl rfl (Nat.le_of_ble_eq_true rfl) fun C hV hN hM hO => ?_
  obtain ⟨_, _, w0, G0, σ0, _, own0⟩ := C; dsimp only at hV hN hM hO; subst hV; subst hN; subst hM
  refine awp_seq ?_
  refine awp_region rfl ?_
  first
    | refine sP (opp_as (v := .sl _ _ _ _) rfl rfl) rfl rfl ?_
    | refine sP (opp_as (v := .osl _ _ _ _ _) rfl rfl) rfl rfl ?_
  refine sP (opp_as (v := .err _) rfl rfl) rfl rfl ?_
  refine awp_seq ?_
  refine awp_seq ?_
  refine awp_region rfl ?_
  refine sP (opp_mv (v := .int _ _) rfl rfl) rfl rfl ?_
  refine sP (opp_cmp rfl rfl rfl rfl) rfl rfl ?_
  refine awp_cond _ rfl (fun hc3 => ?_) (fun hc3 => ?_)
  · (try simp only [cmpI, errD_nil, Bool.not_eq_true', Bool.not_eq_false', decide_eq_true_eq, decide_eq_false_iff_not] at hc3); have ht8 := hc3
    exfalso; omega
  · (try simp only [cmpI, errD_nil, Bool.not_eq_true', Bool.not_eq_false', decide_eq_true_eq, decide_eq_false_iff_not] at hc3); have ht8 := hc3
    refine awp_skip ?_
    refine awp_seq ?_
    refine awp_seq ?_
    refine awp_region rfl ?_
    first
      | refine sP (opp_mv (v := .ptr _ _ _) rfl rfl) rfl rfl ?_
      | refine sP (opp_mv (v := .fptr _) rfl rfl) rfl rfl ?_
    refine sR (opr_callG (rl := [(1, 1)]) (r1 := .int _ _) (H1 := [(1, some (.agg [.sl _ _ _ _, .int _ _, .int _ _]))]) (n1 := []) rfl rfl ent64 (cg64c l false a b (by omega) (by omega)) (And.intro (And.intro rfl wka) True.intro) (And.intro (And.intro rfl (Exists.intro _ (And.intro rfl wkc))) True.intro) rfl rfl rfl rfl) rfl rfl rfl ?_
    refine sP (opp_mv (v := .int _ _) rfl rfl) rfl rfl ?_
    refine sP (opp_cmp rfl rfl rfl rfl) rfl rfl ?_
    refine awp_cond _ rfl (fun hc5 => ?_) (fun hc5 => ?_)
    · (try simp only [cmpI, errD_nil, Bool.not_eq_true', Bool.not_eq_false', decide_eq_true_eq, decide_eq_false_iff_not] at hc5); have ht13 := hc5
      exfalso; simp [cmpI] at ht13; omega
    · (try simp only [cmpI, errD_nil, Bool.not_eq_true', Bool.not_eq_false', decide_eq_true_eq, decide_eq_false_iff_not] at hc5); have ht13 := hc5
      refine awp_skip ?_
      refine awp_seq ?_
      refine awp_draw hmix rfl (by kernel_rfl) ?_
      first
        | refine dP (fun _ => false) (opp_mv (v := .ptr _ _ _) rfl rfl) rfl rfl ?_
        | refine dP (fun _ => false) (opp_mv (v := .fptr _) rfl rfl) rfl rfl ?_
      first
        | refine dP (fun _ => false) (opp_nilCheckP rfl rfl) rfl rfl ?_
        | refine dP (fun _ => false) (opp_nilCheckF rfl rfl) rfl rfl ?_
      first
        | refine dP (fun _ => false) (opp_fieldP rfl rfl fld174_0 rfl) rfl rfl ?_
        | refine dP (fun _ => false) (opp_fieldF rfl rfl rfl fld174_0 rfl rfl) rfl rfl ?_
      first
        | refine dP (fun n => Nat.beq n 1) (opp_loadP rfl rfl rfl rfl bi rfl ty36) rfl rfl ?_
        | refine dP (fun n => Nat.beq n 1) (opp_loadF rfl rfl ty36) rfl rfl ?_
      first
        | refine dP (fun _ => false) (opp_mv (v := .ptr _ _ _) rfl rfl) rfl rfl ?_
        | refine dP (fun _ => false) (opp_mv (v := .fptr _) rfl rfl) rfl rfl ?_
      first
        | refine dP (fun _ => false) (opp_nilCheckP rfl rfl) rfl rfl ?_
        | refine dP (fun _ => false) (opp_nilCheckF rfl rfl) rfl rfl ?_
      first
        | refine dP (fun _ => false) (opp_fieldP rfl rfl fld174_1 rfl) rfl rfl ?_
        | refine dP (fun _ => false) (opp_fieldF rfl rfl rfl fld174_1 rfl rfl) rfl rfl ?_
      first
        | refine dP (fun n => Nat.beq n 1) (opp_loadP rfl rfl rfl rfl bi rfl ty3) rfl rfl ?_
        | refine dP (fun n => Nat.beq n 1) (opp_loadF rfl rfl ty3) rfl rfl ?_
      first
        | refine dP (fun _ => false) (opp_mv (v := .ptr _ _ _) rfl rfl) rfl rfl ?_
        | refine dP (fun _ => false) (opp_mv (v := .fptr _) rfl rfl) rfl rfl ?_
      first
        | refine dP (fun _ => false) (opp_nilCheckP rfl rfl) rfl rfl ?_
        | refine dP (fun _ => false) (opp_nilCheckF rfl rfl) rfl rfl ?_
      first
        | refine dP (fun _ => false) (opp_fieldP rfl rfl fld174_1 rfl) rfl rfl ?_
        | refine dP (fun _ => false) (opp_fieldF rfl rfl rfl fld174_1 rfl rfl) rfl rfl ?_
      first
        | refine dP (fun n => Nat.beq n 1) (opp_loadP rfl rfl rfl rfl bi rfl ty3) rfl rfl ?_
        | refine dP (fun n => Nat.beq n 1) (opp_loadF rfl rfl ty3) rfl rfl ?_
      refine dP (fun _ => false) (opp_mv (v := .int _ _) rfl rfl) rfl rfl ?_
      first
        | refine dP (fun _ => false) (opp_arith rfl rfl rfl (.inl ⟨rfl, w64 (by omega)⟩)) rfl rfl ?_
        | refine dP (fun _ => false) (opp_arith rfl rfl rfl (.inl ⟨rfl, rfl⟩)) rfl rfl ?_
      refine dP (fun n => !([] : List Nat).contains n) (opp_sliceSl rfl rfl rfl rfl el36 (by omega) (by omega) (by omega)) rfl rfl ?_
      refine dR (fun _ => false) (opr_call rfl rfl ent110 rfl (c110 false ((l.drop a).take n).length (bAt ((l.drop a).take n)) (fun h => by cases h) (by rw [List.length_take]; omega)) (.cons (aview_wk rfl (wk_slx (by rw [List.length_take, List.length_drop]; omega) (fun j hj => by rw [bAt_take _ _ _ (by omega), bAt_drop]; congr 1))) .nil)) rfl rfl rfl ?_ -- d=35 t=36
      first
        | refine dP (fun _ => false) (opp_as (v := .sl _ _ _ _) rfl rfl) rfl rfl ?_
        | refine dP (fun _ => false) (opp_as (v := .osl _ _ _ _ _) rfl rfl) rfl rfl ?_
      refine And.intro (by kernel_rfl) ?_
      refine awp_seq ?_
      refine awp_region rfl ?_
      first
        | refine sP (opp_mv (v := .ptr _ _ _) rfl rfl) rfl rfl ?_
        | refine sP (opp_mv (v := .fptr _) rfl rfl) rfl rfl ?_
      first
        | refine sP (opp_nilCheckP rfl rfl) rfl rfl ?_
        | refine sP (opp_nilCheckF rfl rfl) rfl rfl ?_
      first
        | refine sP (opp_fieldP rfl rfl fld174_1 rfl) rfl rfl ?_
        | refine sP (opp_fieldF rfl rfl rfl fld174_1 rfl rfl) rfl rfl ?_
      first
        | refine sP (opp_loadP rfl rfl rfl rfl bi rfl ty3) rfl rfl ?_
        | refine sP (opp_loadF rfl rfl ty3) rfl rfl ?_
      refine sP (opp_mv (v := .int _ _) rfl rfl) rfl rfl ?_
      first
        | refine sP (opp_arith rfl rfl rfl (.inl ⟨rfl, w64 (by omega)⟩)) rfl rfl ?_
        | refine sP (opp_arith rfl rfl rfl (.inl ⟨rfl, rfl⟩)) rfl rfl ?_
      first
        | refine sP (opp_nilCheckP rfl rfl) rfl rfl ?_
        | refine sP (opp_nilCheckF rfl rfl) rfl rfl ?_
      first
        | refine sP (opp_fieldP rfl rfl fld174_1 rfl) rfl rfl ?_
        | refine sP (opp_fieldF rfl rfl rfl fld174_1 rfl rfl) rfl rfl ?_
      refine sR0 (opr_store (v := .int _ _) (trn := (.agg [_, .int _ _, _])) rfl rfl rfl rfl bi rfl rfl rfl rfl fr2 ty3 (fun _ _ h => h)) rfl rfl rfl ?_
      refine awp_seq ?_
      refine awp_region rfl ?_
      first
        | refine sP (opp_mv (v := .sl _ _ _ _) rfl rfl) rfl rfl ?_
        | refine sP (opp_mv (v := .osl _ _ _ _ _) rfl rfl) rfl rfl ?_
      first
        | refine sP (opp_as (v := .sl _ _ _ _) rfl rfl) rfl rfl ?_
        | refine sP (opp_as (v := .osl _ _ _ _ _) rfl rfl) rfl rfl ?_
      refine sP (opp_as (v := .err _) rfl rfl) rfl rfl ?_
      refine awp_ret ?_
      repeat (first | refine athen_ret ?_ | refine ain_ret ?_)
      first
        | refine gpost_ret (gends (l := [.sl _ _ _ _, .err _]) true (.tmp (.tmp .nil)) (fun h => by cases h) (.cons shut (fun h => by cases h) (.cons shut (fun h => by cases h) .nil)) rfl ?_ rfl (And.intro (Exists.intro _ (Exists.intro _ (And.intro rfl (And.intro shut (And.intro (fun h => by cases h) (And.intro ?_ rfl)))))) True.intro))
        | refine gpost_normal (gends (l := [.sl _ _ _ _, .err _]) true (.tmp (.tmp .nil)) (fun h => by cases h) (.cons shut (fun h => by cases h) (.cons shut (fun h => by cases h) .nil)) rfl ?_ rfl (And.intro (Exists.intro _ (Exists.intro _ (And.intro rfl (And.intro shut (And.intro (fun h => by cases h) (And.intro ?_ rfl)))))) True.intro))
        | refine gpost_ret (gends (l := [.sl _ _ _ _, .err _]) false (.tmp (.tmp .nil)) (fun h => by cases h) (.cons shut (fun h => by cases h) (.cons shut (fun h => by cases h) .nil)) rfl ?_ rfl (And.intro (Exists.intro _ (Exists.intro _ (And.intro rfl (And.intro shut (And.intro (fun h => by cases h) (And.intro ?_ rfl)))))) True.intro))
        | refine gpost_normal (gends (l := [.sl _ _ _ _, .err _]) false (.tmp (.tmp .nil)) (fun h => by cases h) (.cons shut (fun h => by cases h) (.cons shut (fun h => by cases h) .nil)) rfl ?_ rfl (And.intro (Exists.intro _ (Exists.intro _ (And.intro rfl (And.intro shut (And.intro (fun h => by cases h) (And.intro ?_ rfl)))))) True.intro))
        | refine gpost_ret (gends (l := [.osl _ _ _ _ _, .err _]) true (.tmp (.tmp .nil)) (fun h => by cases h) (.cons shut (fun h => by cases h) (.cons shut (fun h => by cases h) .nil)) rfl ?_ rfl (And.intro (Exists.intro _ (Exists.intro _ (And.intro rfl (And.intro shut (And.intro (fun h => by cases h) (And.intro ?_ rfl)))))) True.intro))
        | refine gpost_normal (gends (l := [.osl _ _ _ _ _, .err _]) true (.tmp (.tmp .nil)) (fun h => by cases h) (.cons shut (fun h => by cases h) (.cons shut (fun h => by cases h) .nil)) rfl ?_ rfl (And.intro (Exists.intro _ (Exists.intro _ (And.intro rfl (And.intro shut (And.intro (fun h => by cases h) (And.intro ?_ rfl)))))) True.intro))
        | refine gpost_ret (gends (l := [.osl _ _ _ _ _, .err _]) false (.tmp (.tmp .nil)) (fun h => by cases h) (.cons shut (fun h => by cases h) (.cons shut (fun h => by cases h) .nil)) rfl ?_ rfl (And.intro (Exists.intro _ (Exists.intro _ (And.intro rfl (And.intro shut (And.intro (fun h => by cases h) (And.intro ?_ rfl)))))) True.intro))
        | refine gpost_normal (gends (l := [.osl _ _ _ _ _, .err _]) false (.tmp (.tmp .nil)) (fun h => by cases h) (.cons shut (fun h => by cases h) (.cons shut (fun h => by cases h) .nil)) rfl ?_ rfl (And.intro (Exists.intro _ (Exists.intro _ (And.intro rfl (And.intro shut (And.intro (fun h => by cases h) (And.intro ?_ rfl)))))) True.intro))
      · exact .refl
      · rw [show ((a + n : Nat) : Int) = (a : Int) + n by omega]; exact .refl
theorem co59 (l : List UInt8) (h0 : l.length ≤ 140737488355328) : AOwn (V ea cds gl) 59 [.sl 1 false l.length (bAt l)] false (.ptr 8 [] 0) [(8, some (.agg [.sl 1 false l.length (bAt l), .int .i64 0, .int .i64 (l.length : Int)]))] := by
  refine aown_of_body (N := 9) Tryd.func59 rfl rfl (Nat.le_of_ble_eq_true rfl) fun C hV hN hM hO => ?_
  obtain ⟨_, _, w0, G0, σ0, _, own0⟩ := C; dsimp only at hV hN hM hO; subst hV; subst hN; subst hM
  refine awp_seq ?_
  refine awp_region rfl ?_
  first | refine sP (opp_as (v := .ptr _ _ _) rfl rfl) rfl rfl ?_ | refine sP (opp_as (v := .val _) rfl rfl) rfl rfl ?_
  refine awp_seq ?_
  refine awp_region rfl ?_
  first
    | refine sP (opp_mv (v := .sl _ _ _ _) rfl rfl) rfl rfl ?_
    | refine sP (opp_mv (v := .osl _ _ _ _ _) rfl rfl) rfl rfl ?_
  refine sR (opr_call rfl rfl ent110 rfl (c110 false l.length (bAt l) (fun h => by cases h) (by omega)) (AViews.refl _ rfl)) rfl rfl rfl ?_ -- d=4 t=36
  first
    | refine sP (opp_mv (v := .sl _ _ _ _) rfl rfl) rfl rfl ?_
    | refine sP (opp_mv (v := .osl _ _ _ _ _) rfl rfl) rfl rfl ?_
  first
    | refine sP (opp_lenSl rfl rfl un36) rfl rfl ?_
    | refine sP (opp_lenOsl rfl rfl un36) rfl rfl ?_
  first
    | refine sP (opp_build rfl z174 bld174 rfl [.sl _ _ _ _, .int .i64 0, .int _ _] rfl) rfl rfl ?_
    | refine sP (opp_build rfl z174 bld174 rfl [.osl _ _ _ _ _, .int .i64 0, .int _ _] rfl) rfl rfl ?_
  refine sR (opr_box (y := .agg _) (n := 8) rfl rfl rfl) rfl rfl rfl ?_
  first | refine sP (opp_as (v := .ptr _ _ _) rfl rfl) rfl rfl ?_ | refine sP (opp_as (v := .val _) rfl rfl) rfl rfl ?_
  refine awp_ret ?_
  repeat (first | refine athen_ret ?_ | refine ain_ret ?_)
  refine opost_ret (oend1 (r0 := .ptr 8 [] 0) (.tmp .nil) (Shut.refl sfr) rfl ?_ (And.intro (Exists.intro _ (Exists.intro _ (And.intro rfl (And.intro shut (And.intro (fun h => by cases h) (And.intro ?_ rfl)))))) True.intro))
  · exact .refl
  · exact .refl
end
end Go.Proofs.YtgaihhimkodmmaaDoor
/- Layer 20: a note's bytes (walks over this dump). -/
namespace Go.Proofs.YtgaihhimkodmmaaDoor
attribute [local irreducible] Tryd.prog
open Go.Fy
set_option linter.unusedSimpArgs false
set_option linter.unusedVariables false
section
variable {ea : Nat → Addr} {cds : List Nat} {gl : Nat → Option AV}
theorem cbad15 (n : Note) (hc : Sp.check n ≠ 0) (hG4 : gl 4 = some (.err (.code 7))) (hG8 : gl 8 = some (.err (.code 4))) : APure (V ea cds gl) 15 [noteAV n] false (.tup [.str [], .err (errD (Sp.check n))]) := by
  refine acalls_of_body (N := 88) Tryd.func15 rfl rfl (Nat.le_of_ble_eq_true rfl) fun C hV hN hM hO => ?_
  obtain ⟨_, _, w0, G0, σ0, _, own0⟩ := C; dsimp only at hV hN hM hO; subst hV; subst hN; subst hM
  refine awp_seq ?_
  refine awp_region rfl ?_
  refine sR (opr_box (y := .agg _) (n := 1) rfl rfl rfl) rfl rfl rfl ?_
  refine sP (opp_as (v := .str _) rfl rfl) rfl rfl ?_
  refine sP (opp_as (v := .err _) rfl rfl) rfl rfl ?_
  refine awp_seq ?_
  refine awp_seq ?_
  refine awp_region rfl ?_
  first
    | refine sP (opp_loadP rfl rfl rfl rfl bi rfl ty26) rfl rfl ?_
    | refine sP (opp_loadF rfl rfl ty26) rfl rfl ?_
  refine sR (opr_call rfl rfl ent47 rfl (c47 _ hG4 hG8) (AViews.refl _ rfl)) rfl rfl rfl ?_ -- d=13 t=29
  refine sP (opp_as (v := .err _) rfl rfl) rfl rfl ?_
  refine awp_seq ?_
  refine awp_region rfl ?_
  refine sP (opp_mv (v := .err _) rfl rfl) rfl rfl ?_
  refine sP (opp_errNil rfl rfl rfl un29 (.inr ⟨rfl, rfl⟩)) rfl rfl ?_
  refine awp_cond _ rfl (fun hc4 => ?_) (fun hc4 => ?_)
  · (try simp only [cmpI, errD_nil, Bool.not_eq_true', Bool.not_eq_false', decide_eq_true_eq, decide_eq_false_iff_not] at hc4); have ht15 := hc4
    refine awp_seq ?_
    refine awp_region rfl ?_
    refine sP (opp_mv (v := .err _) rfl rfl) rfl rfl ?_
    refine sP (opp_as (v := .str _) rfl rfl) rfl rfl ?_
    refine sP (opp_as (v := .err _) rfl rfl) rfl rfl ?_
    refine awp_ret ?_
    repeat (first | refine athen_ret ?_ | refine ain_ret ?_)
    first
      | refine apost_ret (aend (l := [.str _, .err _]) (.tmp (.tmp .nil)) (fun h => by cases h) (.cons (.noN rfl rfl) (.cons (.noN rfl rfl) .nil)) ⟨Wk.v ?_, rfl, rfl⟩)
      | refine apost_ret (aends (l := [.str _, .err _]) (.tmp (.tmp .nil)) (fun h => by cases h) (.cons shut (fun h => by cases h) (.cons shut (fun h => by cases h) .nil)) rfl ⟨Wk.v ?_, rfl, rfl⟩)
    exact .refl
  · (try simp only [cmpI, errD_nil, Bool.not_eq_true', Bool.not_eq_false', decide_eq_true_eq, decide_eq_false_iff_not] at hc4); have ht15 := hc4
    exact absurd ht15 hc
theorem nums3 (a b c j : Nat) (hj : j < 3) (x : AV) : (if j = 2 then AV.int .i64 (c : Int) else if j = 1 then AV.int .i64 (b : Int) else if j = 0 then AV.int .i64 (a : Int) else x) = AV.int .i64 ((([a, b, c] : List Nat).getD j 0 : Nat) : Int) := by
  have : j = 0 ∨ j = 1 ∨ j = 2 := by omega
  rcases this with rfl | rfl | rfl <;> rfl
theorem cfine15 (k p bo pe nu st ix to su : Nat) (d : List UInt8) (hc : Sp.check ⟨k, p, ⟨bo, pe, nu⟩, st, ix, to, su, d⟩ = 0) (hs : su ≤ 4294967295) (hG4 : gl 4 = some (.err (.code 7))) (hG8 : gl 8 = some (.err (.code 4))) :
    APure (V ea cds gl) 15 [noteAV ⟨k, p, ⟨bo, pe, nu⟩, st, ix, to, su, d⟩] false (.tup [.str (Sp.crcSeal (Sp.noteBytes ⟨k, p, ⟨bo, pe, nu⟩, st, ix, to, su, d⟩)), .err .nil]) := by
  have hb := Sp.check_bounds hc
  dsimp only at hb
  refine acalls_of_body (N := 88) Tryd.func15 rfl rfl (Nat.le_of_ble_eq_true rfl) fun C hV hN hM hO => ?_
  obtain ⟨_, _, w0, G0, σ0, _, own0⟩ := C; dsimp only at hV hN hM hO; subst hV; subst hN; subst hM
  refine awp_seq ?_
  refine awp_region rfl ?_
  refine sR (opr_box (y := .agg _) (n := 1) rfl rfl rfl) rfl rfl rfl ?_
  refine sP (opp_as (v := .str _) rfl rfl) rfl rfl ?_
  refine sP (opp_as (v := .err _) rfl rfl) rfl rfl ?_
  refine awp_seq ?_
  refine awp_seq ?_
  refine awp_region rfl ?_
  first
    | refine sP (opp_loadP rfl rfl rfl rfl bi rfl ty26) rfl rfl ?_
    | refine sP (opp_loadF rfl rfl ty26) rfl rfl ?_
  refine sR (opr_call rfl rfl ent47 rfl (c47 _ hG4 hG8) (AViews.refl _ rfl)) rfl rfl rfl ?_ -- d=13 t=29
  refine sP (opp_as (v := .err _) rfl rfl) rfl rfl ?_
  refine awp_seq ?_
  refine awp_region rfl ?_
  refine sP (opp_mv (v := .err _) rfl rfl) rfl rfl ?_
  refine sP (opp_errNil rfl rfl rfl un29 (.inr ⟨rfl, rfl⟩)) rfl rfl ?_
  refine awp_cond _ rfl (fun hc4 => ?_) (fun hc4 => ?_)
  · (try simp only [cmpI, errD_nil, Bool.not_eq_true', Bool.not_eq_false', decide_eq_true_eq, decide_eq_false_iff_not] at hc4); have ht15 := hc4
    exact absurd hc ht15
  · (try simp only [cmpI, errD_nil, Bool.not_eq_true', Bool.not_eq_false', decide_eq_true_eq, decide_eq_false_iff_not] at hc4); have ht15 := hc4
    refine awp_skip ?_
    refine awp_seq ?_
    refine awp_region rfl ?_
    first
        | refine sR (opr_callO (rl := [(2, 17)]) (r1 := .val _) (H1 := [(17, some (.agg [.sl _ _ _ _, .err _]))]) (n1 := [17]) rfl rfl ent65 rfl co65 (AViews.refl _ rfl) rfl rfl rfl rfl) rfl rfl rfl ?_
        | refine sR (opr_callO (rl := [(2, 17)]) (r1 := .fptr _) (H1 := [(17, some (.agg [.sl _ _ _ _, .err _]))]) (n1 := [17]) rfl rfl ent65 rfl co65 (AViews.refl _ rfl) rfl rfl rfl rfl) rfl rfl rfl ?_
        | refine sR (opr_callO (rl := [(2, 17)]) (r1 := .ptr _ _ _) (H1 := [(17, some (.agg [.sl _ _ _ _, .err _]))]) (n1 := [17]) rfl rfl ent65 rfl co65 (AViews.refl _ rfl) rfl rfl rfl rfl) rfl rfl rfl ?_
    first
      | refine sP (opp_as (v := .ptr _ _ _) rfl rfl) rfl rfl ?_
      | refine sP (opp_as (v := .fptr _) rfl rfl) rfl rfl ?_
    refine awp_seq ?_
    refine awp_region rfl ?_
    first
      | refine sP (opp_mv (v := .ptr _ _ _) rfl rfl) rfl rfl ?_
      | refine sP (opp_mv (v := .fptr _) rfl rfl) rfl rfl ?_
    first
      | refine sP (opp_fieldP rfl rfl fld26_7 rfl) rfl rfl ?_
      | refine sP (opp_fieldF rfl rfl rfl fld26_7 rfl rfl) rfl rfl ?_
    first
      | refine sP (opp_loadP rfl rfl rfl rfl bi rfl ty9) rfl rfl ?_
      | refine sP (opp_loadF rfl rfl ty9) rfl rfl ?_
    refine sP (opp_lenStr rfl rfl un9) rfl rfl ?_
    first
      | refine sP (opp_arith rfl rfl rfl (.inl ⟨rfl, w64 (by omega)⟩)) rfl rfl ?_
      | refine sP (opp_arith rfl rfl rfl (.inl ⟨rfl, rfl⟩)) rfl rfl ?_
    rw [show IntKind.i64.wrap (27 + (d.length : Int)) = ((27 + d.length : Nat) : Int) by rw [w64 (by omega)]; omega]
    refine sR (opr_callG (rl := [(1, 17), (1004, 1023)]) (r1 := .tup []) (H1 := [(17, some (.agg [.osl 1023 _ _ _ _, .err _])), (1023, some (.arr _ _ _))]) (n1 := [1023]) rfl rfl ent66 (cg66n (27 + d.length) (by omega)) (And.intro (And.intro rfl wka) (And.intro (And.intro rfl wka) True.intro)) (And.intro (And.intro rfl (Exists.intro _ (And.intro rfl wkc))) True.intro) rfl rfl rfl rfl) rfl rfl rfl ?_
    refine awp_seq ?_
    refine awp_region rfl ?_
    first
      | refine sP (opp_mv (v := .ptr _ _ _) rfl rfl) rfl rfl ?_
      | refine sP (opp_mv (v := .fptr _) rfl rfl) rfl rfl ?_
    first
      | refine sP (opp_fieldP rfl rfl fld26_0 rfl) rfl rfl ?_
      | refine sP (opp_fieldF rfl rfl rfl fld26_0 rfl rfl) rfl rfl ?_
    first
      | refine sP (opp_loadP rfl rfl rfl rfl bi rfl ty3) rfl rfl ?_
      | refine sP (opp_loadF rfl rfl ty3) rfl rfl ?_
    refine sR (opr_callG (rl := [(1, 17), (2, 1023), (1004, 1027)]) (r1 := .tup []) (H1 := [(17, some (.agg [.osl 1027 _ _ _ _, .err _])), (1023, none), (1027, some (.arr _ _ _))]) (n1 := [1027]) rfl rfl ent67 (cg67r (Sp.be (27 + d.length) 2) k (by omega) (by rw [Sp.be_length]; omega)) (And.intro (And.intro rfl wka) (And.intro (And.intro rfl wka) True.intro)) (And.intro (And.intro rfl (Exists.intro _ (And.intro rfl wkc))) (And.intro (And.intro rfl (Exists.intro _ (And.intro rfl wkc))) True.intro)) rfl rfl rfl rfl) rfl rfl rfl ?_
    refine awp_seq ?_
    refine awp_region rfl ?_
    first
      | refine sP (opp_mv (v := .ptr _ _ _) rfl rfl) rfl rfl ?_
      | refine sP (opp_mv (v := .fptr _) rfl rfl) rfl rfl ?_
    first
      | refine sP (opp_fieldP rfl rfl fld26_1 rfl) rfl rfl ?_
      | refine sP (opp_fieldF rfl rfl rfl fld26_1 rfl rfl) rfl rfl ?_
    first
      | refine sP (opp_loadP rfl rfl rfl rfl bi rfl ty3) rfl rfl ?_
      | refine sP (opp_loadF rfl rfl ty3) rfl rfl ?_
    refine sR (opr_callG (rl := [(1, 17), (2, 1027), (1004, 1031)]) (r1 := .tup []) (H1 := [(17, some (.agg [.osl 1031 _ _ _ _, .err _])), (1027, none), (1031, some (.arr _ _ _))]) (n1 := [1031]) rfl rfl ent67 (cg67r (Sp.be (27 + d.length) 2 ++ Sp.be k 1) p (by omega) (by simp only [List.length_append, Sp.be_length]; omega)) (And.intro (And.intro rfl wka) (And.intro (And.intro rfl wka) True.intro)) (And.intro (And.intro rfl (Exists.intro _ (And.intro rfl wkc))) (And.intro (And.intro rfl (Exists.intro _ (And.intro rfl wkc))) True.intro)) rfl rfl rfl rfl) rfl rfl rfl ?_
    refine awp_seq ?_
    refine awp_seq ?_
    refine awp_region rfl ?_
    first
      | refine sP (opp_fieldP rfl rfl fld26_2 rfl) rfl rfl ?_
      | refine sP (opp_fieldF rfl rfl rfl fld26_2 rfl rfl) rfl rfl ?_
    first
      | refine sP (opp_fieldP rfl rfl fld23_0 rfl) rfl rfl ?_
      | refine sP (opp_fieldF rfl rfl rfl fld23_0 rfl rfl) rfl rfl ?_
    first
      | refine sP (opp_loadP rfl rfl rfl rfl bi rfl ty3) rfl rfl ?_
      | refine sP (opp_loadF rfl rfl ty3) rfl rfl ?_
    first
      | refine sP (opp_fieldP rfl rfl fld26_2 rfl) rfl rfl ?_
      | refine sP (opp_fieldF rfl rfl rfl fld26_2 rfl rfl) rfl rfl ?_
    first
      | refine sP (opp_fieldP rfl rfl fld23_1 rfl) rfl rfl ?_
      | refine sP (opp_fieldF rfl rfl rfl fld23_1 rfl rfl) rfl rfl ?_
    first
      | refine sP (opp_loadP rfl rfl rfl rfl bi rfl ty3) rfl rfl ?_
      | refine sP (opp_loadF rfl rfl ty3) rfl rfl ?_
    first
      | refine sP (opp_fieldP rfl rfl fld26_2 rfl) rfl rfl ?_
      | refine sP (opp_fieldF rfl rfl rfl fld26_2 rfl rfl) rfl rfl ?_
    first
      | refine sP (opp_fieldP rfl rfl fld23_2 rfl) rfl rfl ?_
      | refine sP (opp_fieldF rfl rfl rfl fld23_2 rfl rfl) rfl rfl ?_
    first
      | refine sP (opp_loadP rfl rfl rfl rfl bi rfl ty3) rfl rfl ?_
      | refine sP (opp_loadF rfl rfl ty3) rfl rfl ?_
    refine sR (opr_buildSlice (n := 41) (g := fun j => if j = 2 then .int _ _ else if j = 1 then .int _ _ else if j = 0 then .int _ _ else .int .i64 0) rfl eb42 z3 (by decide) rfl rfl) rfl rfl rfl ?_
    first
      | refine sP (opp_lenSl rfl rfl un42) rfl rfl ?_
      | refine sP (opp_lenOsl rfl rfl un42) rfl rfl ?_
    refine sP (opp_mv (v := .int _ _) rfl rfl) rfl rfl ?_
    refine awp_block ?_
    refine awp_loopK (ι := Nat) (fun i => i ≤ 3) (fun i => [(7, .top), (43, .int .i64 (i : Int)), (44, .top), (45, .top), (46, .top), (47, .top), (48, .top), (49, .top), (50, .top)]) (fun i => [(17, some (.agg [.osl 1200 1 0 (Sp.be (27 + d.length) 2 ++ Sp.be k 1 ++ Sp.be p 1 ++ Sp.bes 4 ([bo, pe, nu].take i)).length (Sp.be (27 + d.length) 2 ++ Sp.be k 1 ++ Sp.be p 1 ++ Sp.bes 4 ([bo, pe, nu].take i)).length, .err .nil])), (1031, none), (41, some (.arr 1 3 (fun j => .int .i64 ((([bo, pe, nu] : List Nat).getD j 0 : Nat) : Int)))), (1200, some (.arr 1 (Sp.be (27 + d.length) 2 ++ Sp.be k 1 ++ Sp.be p 1 ++ Sp.bes 4 ([bo, pe, nu].take i)).length (bAt (Sp.be (27 + d.length) 2 ++ Sp.be k 1 ++ Sp.be p 1 ++ Sp.bes 4 ([bo, pe, nu].take i)))))]) [1200] (fun i => 3 - i) (0) (Nat.zero_le _) (by
      refine imp_over [(1200, 1031)] rfl rfl (by kernel_rfl) ?_ ?_
      · refine And.intro wkv ?_
        refine And.intro wkv ?_
        refine And.intro wkv ?_
        refine And.intro wkv ?_
        refine And.intro wkv ?_
        refine And.intro wkv ?_
        refine And.intro wkv ?_
        refine And.intro wkv ?_
        refine And.intro wkv ?_
        exact True.intro
      · refine And.intro (And.intro rfl (And.intro rfl (Exists.intro _ (And.intro rfl (by exact WkC.of (by show AV.agg [AV.osl 1031 1 0 _ _, AV.err .nil] = AV.agg [AV.osl 1031 1 0 _ _, AV.err .nil]; simp [Sp.bes])))))) ?_
        refine And.intro (And.intro rfl (And.intro rfl (Exists.intro _ (And.intro rfl (by exact WkC.arr (fun j hj => nums3 _ _ _ j hj _)))))) ?_
        refine And.intro (And.intro rfl (And.intro rfl (Exists.intro _ (And.intro rfl (by exact WkC.of (by show AV.arr 1 _ _ = AV.arr 1 _ _; simp [Sp.bes])))))) ?_
        exact True.intro
      ) ?_
    intro i hi1
    refine awp_seq ?_
    refine awp_region rfl ?_
    refine sP (opp_cmp rfl rfl rfl rfl) rfl rfl ?_
    refine awp_seq ?_
    refine awp_cond _ rfl (fun hc11 => ?_) (fun hc11 => ?_)
    · (try simp only [cmpI, errD_nil, Bool.not_eq_true', Bool.not_eq_false', decide_eq_true_eq, decide_eq_false_iff_not] at hc11); have ht44 := hc11
      refine awp_skip ?_
      refine awp_seq ?_
      refine awp_block ?_
      refine awp_seq ?_
      refine awp_region rfl ?_
      first
        | refine sP (opp_indexSl rfl rfl rfl el42 (by omega) (by omega)) rfl rfl ?_
        | refine sP (opp_indexOsl0 rfl rfl rfl el42 (by omega) (by omega)) rfl rfl ?_
        | refine sP (opp_indexOsl rfl rfl rfl el42 (by omega) (by omega)) rfl rfl ?_
      first
        | refine sP (opp_loadP rfl rfl rfl rfl bi rfl ty3) rfl rfl ?_
        | refine sP (opp_loadF rfl rfl ty3) rfl rfl ?_
      refine sP (opp_as (v := .int _ _) rfl rfl) rfl rfl ?_
      refine awp_region rfl ?_
      have hx : (([bo, pe, nu] : List Nat).getD i 0) < 4294967296 := by
        have : i = 0 ∨ i = 1 ∨ i = 2 := by omega
        rcases this with rfl | rfl | rfl <;> simp <;> omega
      first
        | refine sP (opp_mv (v := .ptr _ _ _) rfl rfl) rfl rfl ?_
        | refine sP (opp_mv (v := .fptr _) rfl rfl) rfl rfl ?_
      refine sP (opp_mv (v := .int _ _) rfl rfl) rfl rfl ?_
      refine sR (opr_callG (rl := [(1, 17), (2, 1200), (1004, 1049)]) (r1 := .tup []) (H1 := [(17, some (.agg [.osl 1049 _ _ _ _, .err _])), (1200, none), (1049, some (.arr _ _ _))]) (n1 := [1049]) rfl rfl ent68 (cg68r (Sp.be (27 + d.length) 2 ++ Sp.be k 1 ++ Sp.be p 1 ++ Sp.bes 4 ([bo, pe, nu].take i)) (([bo, pe, nu] : List Nat).getD i 0) hx (by simp only [List.length_append, Sp.be_length, Sp.bes_length, List.length_take]; omega)) (And.intro (And.intro rfl wka) (And.intro (And.intro rfl wka) True.intro)) (And.intro (And.intro rfl (Exists.intro _ (And.intro rfl wkc))) (And.intro (And.intro rfl (Exists.intro _ (And.intro rfl wkc))) True.intro)) rfl rfl rfl rfl) rfl rfl rfl ?_
      refine awp_region rfl ?_
      first
        | refine sP (opp_arith rfl rfl rfl (.inl ⟨rfl, w64 (by omega)⟩)) rfl rfl ?_
        | refine sP (opp_arith rfl rfl rfl (.inl ⟨rfl, rfl⟩)) rfl rfl ?_
      refine sP (opp_mv (v := .int _ _) rfl rfl) rfl rfl ?_
      refine Exists.intro (i + 1) (And.intro (And.intro (by omega) (by omega)) (by
        refine imp_over [(1200, 1049)] rfl rfl (by kernel_rfl) ?_ ?_
        · refine And.intro wkv ?_
          refine And.intro wkv ?_
          refine And.intro wkv ?_
          refine And.intro wkv ?_
          refine And.intro wkv ?_
          refine And.intro wkv ?_
          refine And.intro wkv ?_
          refine And.intro wkv ?_
          refine And.intro wkv ?_
          exact True.intro
        · refine And.intro (And.intro rfl (And.intro rfl (Exists.intro _ (And.intro rfl (by exact WkC.of (by show AV.agg [AV.osl 1049 1 0 _ _, AV.err .nil] = AV.agg [AV.osl 1049 1 0 _ _, AV.err .nil]; rw [Sp.bes_take 4 [bo, pe, nu] i (by show i < 3; omega)]; simp only [List.append_assoc])))))) ?_
          refine And.intro (And.intro rfl (And.intro rfl (Exists.intro _ (And.intro rfl wkc)))) ?_
          refine And.intro (And.intro rfl (And.intro rfl (Exists.intro _ (And.intro rfl (by exact WkC.of (by show AV.arr 1 _ _ = AV.arr 1 _ _; rw [Sp.bes_take 4 [bo, pe, nu] i (by show i < 3; omega)]; simp only [List.append_assoc])))))) ?_
          exact True.intro
        ))
    · (try simp only [cmpI, errD_nil, Bool.not_eq_true', Bool.not_eq_false', decide_eq_true_eq, decide_eq_false_iff_not] at hc11); have ht44 := hc11
      refine awp_exit ?_
      refine awp_seq ?_
      refine awp_seq ?_
      obtain rfl : i = 3 := by omega
      refine awp_region rfl ?_
      first
        | refine sP (opp_fieldP rfl rfl fld26_3 rfl) rfl rfl ?_
        | refine sP (opp_fieldF rfl rfl rfl fld26_3 rfl rfl) rfl rfl ?_
      first
        | refine sP (opp_loadP rfl rfl rfl rfl bi rfl ty3) rfl rfl ?_
        | refine sP (opp_loadF rfl rfl ty3) rfl rfl ?_
      first
        | refine sP (opp_fieldP rfl rfl fld26_4 rfl) rfl rfl ?_
        | refine sP (opp_fieldF rfl rfl rfl fld26_4 rfl rfl) rfl rfl ?_
      first
        | refine sP (opp_loadP rfl rfl rfl rfl bi rfl ty3) rfl rfl ?_
        | refine sP (opp_loadF rfl rfl ty3) rfl rfl ?_
      first
        | refine sP (opp_fieldP rfl rfl fld26_5 rfl) rfl rfl ?_
        | refine sP (opp_fieldF rfl rfl rfl fld26_5 rfl rfl) rfl rfl ?_
      first
        | refine sP (opp_loadP rfl rfl rfl rfl bi rfl ty3) rfl rfl ?_
        | refine sP (opp_loadF rfl rfl ty3) rfl rfl ?_
      refine sR (opr_buildSlice (n := 57) (g := fun j => if j = 2 then .int _ _ else if j = 1 then .int _ _ else if j = 0 then .int _ _ else .int .i64 0) rfl eb42 z3 (by decide) rfl rfl) rfl rfl rfl ?_
      first
        | refine sP (opp_lenSl rfl rfl un42) rfl rfl ?_
        | refine sP (opp_lenOsl rfl rfl un42) rfl rfl ?_
      refine sP (opp_mv (v := .int _ _) rfl rfl) rfl rfl ?_
      refine awp_block ?_
      refine awp_loopK (ι := Nat) (fun i => i ≤ 3) (fun i => [(9, .top), (59, .int .i64 (i : Int)), (60, .top), (61, .top), (62, .top), (63, .top), (64, .top), (65, .top), (66, .top)]) (fun i => [(17, some (.agg [.osl 1300 1 0 (Sp.be (27 + d.length) 2 ++ Sp.be k 1 ++ Sp.be p 1 ++ Sp.bes 4 [bo, pe, nu] ++ Sp.bes 1 ([st, ix, to].take i)).length (Sp.be (27 + d.length) 2 ++ Sp.be k 1 ++ Sp.be p 1 ++ Sp.bes 4 [bo, pe, nu] ++ Sp.bes 1 ([st, ix, to].take i)).length, .err .nil])), (1200, none), (57, some (.arr 1 3 (fun j => .int .i64 ((([st, ix, to] : List Nat).getD j 0 : Nat) : Int)))), (1300, some (.arr 1 (Sp.be (27 + d.length) 2 ++ Sp.be k 1 ++ Sp.be p 1 ++ Sp.bes 4 [bo, pe, nu] ++ Sp.bes 1 ([st, ix, to].take i)).length (bAt (Sp.be (27 + d.length) 2 ++ Sp.be k 1 ++ Sp.be p 1 ++ Sp.bes 4 [bo, pe, nu] ++ Sp.bes 1 ([st, ix, to].take i)))))]) [1300] (fun i => 3 - i) (0) (Nat.zero_le _) (by
        refine imp_over [(1300, 1200)] rfl rfl (by kernel_rfl) ?_ ?_
        · refine And.intro wkv ?_
          refine And.intro wkv ?_
          refine And.intro wkv ?_
          refine And.intro wkv ?_
          refine And.intro wkv ?_
          refine And.intro wkv ?_
          refine And.intro wkv ?_
          refine And.intro wkv ?_
          refine And.intro wkv ?_
          exact True.intro
        · refine And.intro (And.intro rfl (And.intro rfl (Exists.intro _ (And.intro rfl (by exact WkC.of (by show AV.agg [AV.osl 1200 1 0 _ _, AV.err .nil] = AV.agg [AV.osl 1200 1 0 _ _, AV.err .nil]; simp [Sp.bes])))))) ?_
          refine And.intro (And.intro rfl (And.intro rfl (Exists.intro _ (And.intro rfl (by exact WkC.arr (fun j hj => nums3 _ _ _ j hj _)))))) ?_
          refine And.intro (And.intro rfl (And.intro rfl (Exists.intro _ (And.intro rfl (by exact WkC.of (by show AV.arr 1 _ _ = AV.arr 1 _ _; simp [Sp.bes])))))) ?_
          exact True.intro
        ) ?_
      intro i hi2
      refine awp_seq ?_
      refine awp_region rfl ?_
      refine sP (opp_cmp rfl rfl rfl rfl) rfl rfl ?_
      refine awp_seq ?_
      refine awp_cond _ rfl (fun hc17 => ?_) (fun hc17 => ?_)
      · (try simp only [cmpI, errD_nil, Bool.not_eq_true', Bool.not_eq_false', decide_eq_true_eq, decide_eq_false_iff_not] at hc17); have ht60 := hc17
        refine awp_skip ?_
        refine awp_seq ?_
        refine awp_block ?_
        refine awp_seq ?_
        refine awp_region rfl ?_
        first
          | refine sP (opp_indexSl rfl rfl rfl el42 (by omega) (by omega)) rfl rfl ?_
          | refine sP (opp_indexOsl0 rfl rfl rfl el42 (by omega) (by omega)) rfl rfl ?_
          | refine sP (opp_indexOsl rfl rfl rfl el42 (by omega) (by omega)) rfl rfl ?_
        first
          | refine sP (opp_loadP rfl rfl rfl rfl bi rfl ty3) rfl rfl ?_
          | refine sP (opp_loadF rfl rfl ty3) rfl rfl ?_
        refine sP (opp_as (v := .int _ _) rfl rfl) rfl rfl ?_
        refine awp_region rfl ?_
        have hx : (([st, ix, to] : List Nat).getD i 0) < 256 := by
          have : i = 0 ∨ i = 1 ∨ i = 2 := by omega
          rcases this with rfl | rfl | rfl <;> simp <;> omega
        first
          | refine sP (opp_mv (v := .ptr _ _ _) rfl rfl) rfl rfl ?_
          | refine sP (opp_mv (v := .fptr _) rfl rfl) rfl rfl ?_
        refine sP (opp_mv (v := .int _ _) rfl rfl) rfl rfl ?_
        refine sR (opr_callG (rl := [(1, 17), (2, 1300), (1004, 1065)]) (r1 := .tup []) (H1 := [(17, some (.agg [.osl 1065 _ _ _ _, .err _])), (1300, none), (1065, some (.arr _ _ _))]) (n1 := [1065]) rfl rfl ent67 (cg67r (Sp.be (27 + d.length) 2 ++ Sp.be k 1 ++ Sp.be p 1 ++ Sp.bes 4 [bo, pe, nu] ++ Sp.bes 1 ([st, ix, to].take i)) (([st, ix, to] : List Nat).getD i 0) hx (by simp only [List.length_append, Sp.be_length, Sp.bes_length, List.length_take, List.length_cons, List.length_nil]; omega)) (And.intro (And.intro rfl wka) (And.intro (And.intro rfl wka) True.intro)) (And.intro (And.intro rfl (Exists.intro _ (And.intro rfl wkc))) (And.intro (And.intro rfl (Exists.intro _ (And.intro rfl wkc))) True.intro)) rfl rfl rfl rfl) rfl rfl rfl ?_
        refine awp_region rfl ?_
        first
          | refine sP (opp_arith rfl rfl rfl (.inl ⟨rfl, w64 (by omega)⟩)) rfl rfl ?_
          | refine sP (opp_arith rfl rfl rfl (.inl ⟨rfl, rfl⟩)) rfl rfl ?_
        refine sP (opp_mv (v := .int _ _) rfl rfl) rfl rfl ?_
        refine Exists.intro (i + 1) (And.intro (And.intro (by omega) (by omega)) (by
          refine imp_over [(1300, 1065)] rfl rfl (by kernel_rfl) ?_ ?_
          · refine And.intro wkv ?_
            refine And.intro wkv ?_
            refine And.intro wkv ?_
            refine And.intro wkv ?_
            refine And.intro wkv ?_
            refine And.intro wkv ?_
            refine And.intro wkv ?_
            refine And.intro wkv ?_
            refine And.intro wkv ?_
            exact True.intro
          · refine And.intro (And.intro rfl (And.intro rfl (Exists.intro _ (And.intro rfl (by exact WkC.of (by show AV.agg [AV.osl 1065 1 0 _ _, AV.err .nil] = AV.agg [AV.osl 1065 1 0 _ _, AV.err .nil]; rw [Sp.bes_take 1 [st, ix, to] i (by show i < 3; omega)]; simp only [List.append_assoc])))))) ?_
            refine And.intro (And.intro rfl (And.intro rfl (Exists.intro _ (And.intro rfl wkc)))) ?_
            refine And.intro (And.intro rfl (And.intro rfl (Exists.intro _ (And.intro rfl (by exact WkC.of (by show AV.arr 1 _ _ = AV.arr 1 _ _; rw [Sp.bes_take 1 [st, ix, to] i (by show i < 3; omega)]; simp only [List.append_assoc])))))) ?_
            exact True.intro
          ))
      · (try simp only [cmpI, errD_nil, Bool.not_eq_true', Bool.not_eq_false', decide_eq_true_eq, decide_eq_false_iff_not] at hc17); have ht60 := hc17
        refine awp_exit ?_
        refine awp_seq ?_
        obtain rfl : i = 3 := by omega
        refine awp_region rfl ?_
        first
          | refine sP (opp_mv (v := .ptr _ _ _) rfl rfl) rfl rfl ?_
          | refine sP (opp_mv (v := .fptr _) rfl rfl) rfl rfl ?_
        first
          | refine sP (opp_fieldP rfl rfl fld26_6 rfl) rfl rfl ?_
          | refine sP (opp_fieldF rfl rfl rfl fld26_6 rfl rfl) rfl rfl ?_
        first
          | refine sP (opp_loadP rfl rfl rfl rfl bi rfl ty24) rfl rfl ?_
          | refine sP (opp_loadF rfl rfl ty24) rfl rfl ?_
        first
          | refine sP (opp_convInt rfl rfl un24s un3 (w64 (by omega))) rfl rfl ?_
          | refine sP (opp_convInt rfl rfl un24s un3 rfl) rfl rfl ?_
        rw [show IntKind.i64.wrap (su : Int) = (su : Int) from w64 (by omega)]
        refine sR (opr_callG (rl := [(1, 17), (2, 1300), (1004, 1071)]) (r1 := .tup []) (H1 := [(17, some (.agg [.osl 1071 _ _ _ _, .err _])), (1300, none), (1071, some (.arr _ _ _))]) (n1 := [1071]) rfl rfl ent68 (cg68r (Sp.be (27 + d.length) 2 ++ Sp.be k 1 ++ Sp.be p 1 ++ Sp.bes 4 [bo, pe, nu] ++ Sp.bes 1 [st, ix, to]) su (by omega) (by simp only [List.length_append, Sp.be_length, Sp.bes_length, List.length_cons, List.length_nil]; omega)) (And.intro (And.intro rfl wka) (And.intro (And.intro rfl wka) True.intro)) (And.intro (And.intro rfl (Exists.intro _ (And.intro rfl wkc))) (And.intro (And.intro rfl (Exists.intro _ (And.intro rfl wkc))) True.intro)) rfl rfl rfl rfl) rfl rfl rfl ?_
        refine awp_seq ?_
        refine awp_region rfl ?_
        first
          | refine sP (opp_mv (v := .ptr _ _ _) rfl rfl) rfl rfl ?_
          | refine sP (opp_mv (v := .fptr _) rfl rfl) rfl rfl ?_
        first
          | refine sP (opp_fieldP rfl rfl fld26_7 rfl) rfl rfl ?_
          | refine sP (opp_fieldF rfl rfl rfl fld26_7 rfl rfl) rfl rfl ?_
        first
          | refine sP (opp_loadP rfl rfl rfl rfl bi rfl ty9) rfl rfl ?_
          | refine sP (opp_loadF rfl rfl ty9) rfl rfl ?_
        refine sR (opr_strBytes (n := 75) rfl rfl un9 un36 unu8) rfl rfl rfl ?_
        refine sR (opr_callG (rl := [(1, 17), (2, 1071), (3, 75), (1004, 1076)]) (r1 := .tup []) (H1 := [(17, some (.agg [.osl 1076 _ _ _ _, .err _])), (1071, none), (75, none), (1076, some (.arr _ _ _))]) (n1 := [1076]) rfl rfl ent69 (cg69o (Sp.be (27 + d.length) 2 ++ Sp.be k 1 ++ Sp.be p 1 ++ Sp.bes 4 [bo, pe, nu] ++ Sp.bes 1 [st, ix, to] ++ Sp.be su 4) d (by simp only [List.length_append, Sp.be_length, Sp.bes_length, List.length_cons, List.length_nil]; omega) (by omega)) (And.intro (And.intro rfl wka) (And.intro (And.intro rfl wka) True.intro)) (And.intro (And.intro rfl (Exists.intro _ (And.intro rfl wkc))) (And.intro (And.intro rfl (Exists.intro _ (And.intro rfl wkc))) (And.intro (And.intro rfl (Exists.intro _ (And.intro rfl wkc))) True.intro))) rfl rfl rfl rfl) rfl rfl rfl ?_
        refine awp_seq ?_
        refine awp_region rfl ?_
        first
          | refine sP (opp_mv (v := .ptr _ _ _) rfl rfl) rfl rfl ?_
          | refine sP (opp_mv (v := .fptr _) rfl rfl) rfl rfl ?_
        refine sR (opr_callG (rl := [(1, 17), (2, 1076)]) (r1 := .tup [.sl _ _ _ _, .err _]) (H1 := [(17, some (.agg [.osl 1076 _ _ _ _, .err _])), (1076, some (.arr _ _ _))]) (n1 := []) rfl rfl ent70 (cg70r (Sp.be (27 + d.length) 2 ++ Sp.be k 1 ++ Sp.be p 1 ++ Sp.bes 4 [bo, pe, nu] ++ Sp.bes 1 [st, ix, to] ++ Sp.be su 4 ++ d) (by simp only [List.length_append, Sp.be_length, Sp.bes_length, List.length_cons, List.length_nil]; omega)) (And.intro (And.intro rfl wka) True.intro) (And.intro (And.intro rfl (Exists.intro _ (And.intro rfl wkc))) (And.intro (And.intro rfl (Exists.intro _ (And.intro rfl wkc))) True.intro)) rfl rfl rfl rfl) rfl rfl rfl ?_
        refine sP (opp_mv (v := .tup _) rfl rfl) rfl rfl ?_
        refine sP (opp_extract rfl rfl rfl) rfl rfl ?_
        refine sP (opp_extract rfl rfl rfl) rfl rfl ?_
        first
          | refine sP (opp_as (v := .sl _ _ _ _) rfl rfl) rfl rfl ?_
          | refine sP (opp_as (v := .osl _ _ _ _ _) rfl rfl) rfl rfl ?_
        refine sP (opp_as (v := .err _) rfl rfl) rfl rfl ?_
        refine awp_seq ?_
        refine awp_seq ?_
        refine awp_region rfl ?_
        refine sP (opp_mv (v := .err _) rfl rfl) rfl rfl ?_
        refine sP (opp_errNil rfl rfl rfl un29 (.inr ⟨rfl, rfl⟩)) rfl rfl ?_
        refine awp_cond _ rfl (fun hc25 => ?_) (fun hc25 => ?_)
        · (try simp only [cmpI, errD_nil, Bool.not_eq_true', Bool.not_eq_false', decide_eq_true_eq, decide_eq_false_iff_not] at hc25); have ht83 := hc25
          exact absurd ht83 (by decide)
        · (try simp only [cmpI, errD_nil, Bool.not_eq_true', Bool.not_eq_false', decide_eq_true_eq, decide_eq_false_iff_not] at hc25); have ht83 := hc25
          refine awp_skip ?_
          refine awp_seq ?_
          refine awp_region rfl ?_
          first
            | refine sP (opp_mv (v := .sl _ _ _ _) rfl rfl) rfl rfl ?_
            | refine sP (opp_mv (v := .osl _ _ _ _ _) rfl rfl) rfl rfl ?_
          refine sR (opr_call rfl rfl ent71 rfl (c71 (Sp.be (27 + d.length) 2 ++ Sp.be k 1 ++ Sp.be p 1 ++ Sp.bes 4 [bo, pe, nu] ++ Sp.bes 1 [st, ix, to] ++ Sp.be su 4 ++ d) (by simp only [List.length_append, Sp.be_length, Sp.bes_length, List.length_cons, List.length_nil]; omega)) (AViews.refl _ rfl)) rfl rfl rfl ?_ -- d=86 t=36
          refine sP (opp_bytesStr rfl rfl _ rfl (fun j hj => rfl) un36 unu8 un9) rfl rfl ?_
          refine sP (opp_as (v := .str _) rfl rfl) rfl rfl ?_
          refine sP (opp_as (v := .err _) rfl rfl) rfl rfl ?_
          refine awp_ret ?_
          repeat (first | refine athen_ret ?_ | refine ain_ret ?_)
          first
            | refine apost_ret (aend (l := [.str _, .err _]) (.tmp (.tmp .nil)) (fun h => by cases h) (.cons (.noN rfl rfl) (.cons (.noN rfl rfl) .nil)) ⟨Wk.v ?_, rfl, rfl⟩)
            | refine apost_ret (aends (l := [.str _, .err _]) (.tmp (.tmp .nil)) (fun h => by cases h) (.cons shut (fun h => by cases h) (.cons shut (fun h => by cases h) .nil)) rfl ⟨Wk.v ?_, rfl, rfl⟩)
          refine .of ?_
          have e : Sp.be (27 + d.length) 2 ++ Sp.be k 1 ++ Sp.be p 1 ++ Sp.bes 4 [bo, pe, nu] ++ Sp.bes 1 [st, ix, to] ++ Sp.be su 4 ++ d = Sp.noteBytes ⟨k, p, ⟨bo, pe, nu⟩, st, ix, to, su, d⟩ := by
            simp [Sp.noteBytes, Sp.bes]
          rw [e]
theorem c15 (n : Note) (hs : 0 ≤ n.sum ∧ n.sum ≤ 4294967295) (hG4 : gl 4 = some (.err (.code 7))) (hG8 : gl 8 = some (.err (.code 4))) : APure (V ea cds gl) 15 [noteAV n] false (.tup [.str (Sp.put n).1, .err (errD (Sp.put n).2)]) := by
  by_cases hc : Sp.check n = 0
  · have hb := Sp.check_bounds hc
    obtain ⟨kind, part, ⟨boot, peer, num⟩, stage, index, total, sum, data⟩ := n
    dsimp only at hb hs
    obtain ⟨k, rfl⟩ := Int.eq_ofNat_of_zero_le (show 0 ≤ kind by omega)
    obtain ⟨p, rfl⟩ := Int.eq_ofNat_of_zero_le (show 0 ≤ part by omega)
    obtain ⟨bo, rfl⟩ := Int.eq_ofNat_of_zero_le (show 0 ≤ boot by omega)
    obtain ⟨pe, rfl⟩ := Int.eq_ofNat_of_zero_le (show 0 ≤ peer by omega)
    obtain ⟨nu, rfl⟩ := Int.eq_ofNat_of_zero_le (show 0 ≤ num by omega)
    obtain ⟨st, rfl⟩ := Int.eq_ofNat_of_zero_le (show 0 ≤ stage by omega)
    obtain ⟨ix, rfl⟩ := Int.eq_ofNat_of_zero_le (show 0 ≤ index by omega)
    obtain ⟨to, rfl⟩ := Int.eq_ofNat_of_zero_le (show 0 ≤ total by omega)
    obtain ⟨su, rfl⟩ := Int.eq_ofNat_of_zero_le hs.1
    rw [Sp.put, if_neg (by simpa using hc)]
    exact cfine15 k p bo pe nu st ix to su data hc (by omega) hG4 hG8
  · rw [Sp.put, if_pos hc]
    exact cbad15 n hc hG4 hG8
end
end Go.Proofs.YtgaihhimkodmmaaDoor
/- Layer 20: the note of bytes (walks over this dump). -/
namespace Go.Proofs.YtgaihhimkodmmaaDoor
attribute [local irreducible] Tryd.prog
open Go.Fy
set_option linter.unusedSimpArgs false
set_option linter.unusedVariables false
section
variable {ea : Nat → Addr} {cds : List Nat} {gl : Nat → Option AV}
theorem c14 (s : List UInt8) (h0 : s.length ≤ 140737488351232) (hG0 : gl 0 = some (.err (.code 1))) (hG1 : gl 1 = some (.err (.code 5))) (hG9 : gl 9 = some (.err (.code 6)))
    (hG4 : gl 4 = some (.err (.code 7))) (hG8 : gl 8 = some (.err (.code 4))) :
    APure (V ea cds gl) 14 [.str s] false (.tup [noteAV (Sp.get s).1, .err (errD (Sp.get s).2)]) := by
  refine acalls_of_body (N := 122) Tryd.func14 rfl rfl (Nat.le_of_ble_eq_true rfl) fun C hV hN hM hO => ?_
  obtain ⟨_, _, w0, G0, σ0, _, own0⟩ := C; dsimp only at hV hN hM hO; subst hV; subst hN; subst hM
  refine awp_seq ?_
  refine awp_region rfl ?_
  refine sR (opr_alloc (n := 2) rfl z26) rfl rfl rfl ?_
  refine sP (opp_as (v := .err _) rfl rfl) rfl rfl ?_
  refine awp_seq ?_
  refine awp_region rfl ?_
  refine sP (opp_mv (v := .str _) rfl rfl) rfl rfl ?_
  refine sR (opr_strBytes (n := 16) rfl rfl un9 un36 unu8) rfl rfl rfl ?_
  refine al_sh [(16, .sl 1 false s.length (bAt s))] [(16, none)] hO rfl (And.intro shut True.intro) True.intro ?_
  refine sR (opr_call rfl rfl ent58 rfl (c58 s (by omega) hG0 hG9) (AViews.refl _ rfl)) rfl rfl rfl ?_ -- d=17 t=37
  refine sP (opp_mv (v := .tup _) rfl rfl) rfl rfl ?_
  refine sP (opp_extract rfl rfl rfl) rfl rfl ?_
  refine sP (opp_extract rfl rfl rfl) rfl rfl ?_
  first
    | refine sP (opp_as (v := .sl _ _ _ _) rfl rfl) rfl rfl ?_
    | refine sP (opp_as (v := .osl _ _ _ _ _) rfl rfl) rfl rfl ?_
  refine sP (opp_as (v := .err _) rfl rfl) rfl rfl ?_
  refine awp_seq ?_
  refine awp_seq ?_
  refine awp_region rfl ?_
  refine sP (opp_mv (v := .err _) rfl rfl) rfl rfl ?_
  refine sP (opp_errNil rfl rfl rfl un29 (.inr ⟨rfl, rfl⟩)) rfl rfl ?_
  refine awp_cond _ rfl (fun hc4 => ?_) (fun hc4 => ?_)
  · (try simp only [cmpI, errD_nil, Bool.not_eq_true', Bool.not_eq_false', decide_eq_true_eq, decide_eq_false_iff_not] at hc4); have ht21 := hc4
    refine awp_seq ?_
    refine awp_region rfl ?_
    refine sP (opp_build rfl z26 bld26 rfl [.int .i64 0, .int .i64 0, .agg [.int .i64 0, .int .i64 0, .int .i64 0], .int .i64 0, .int .i64 0, .int .i64 0, .int .u32 0, .str []] rfl) rfl rfl ?_
    refine sP (opp_mv (v := .err _) rfl rfl) rfl rfl ?_
    refine sR0 (opr_store (v := .agg _) (trn := (.agg _)) rfl rfl rfl rfl bi rfl rfl rfl rfl fr2 ty26 (fun _ _ h => h)) rfl rfl rfl ?_
    refine sP (opp_as (v := .err _) rfl rfl) rfl rfl ?_
    refine awp_ret ?_
    repeat (first | refine athen_ret ?_ | refine ain_ret ?_)
    first
      | refine apost_ret (aend (l := [.agg _, .err _]) (.cell rfl rfl rfl (by exact True.intro) rfl ty26 (.tmp .nil)) (fun h => by cases h) (.cons (.noN rfl rfl) (.cons (.noN rfl rfl) .nil)) ⟨Wk.v ?_, rfl, rfl⟩)
      | refine apost_ret (aends (l := [.agg _, .err _]) (.cell rfl rfl rfl (by exact True.intro) rfl ty26 (.tmp .nil)) (fun h => by cases h) (.cons shut (fun h => by cases h) (.cons shut (fun h => by cases h) .nil)) rfl ⟨Wk.v ?_, rfl, rfl⟩)
    rw [show Sp.get s = (Sp.zero, (Sp.opened s).2) from if_pos ht21]; exact .refl
  · (try simp only [cmpI, errD_nil, Bool.not_eq_true', Bool.not_eq_false', decide_eq_true_eq, decide_eq_false_iff_not] at hc4); have ht21 := hc4
    refine awp_skip ?_
    refine awp_seq ?_
    refine awp_seq ?_
    rw [show (decide ((Sp.opened s).2 ≠ 0)) = false by simp [ht21]]
    have hok := Sp.opened_ok ht21
    have hlen : (Sp.opened s).1.length = s.length - 4 := by rw [hok.2.1, List.length_take]; omega
    have hf16 := fld_lt (Sp.opened s).1 0 2
    have hf19 := fld_lt (Sp.opened s).1 19 4
    refine awp_region rfl ?_
    refine sP (opp_mv (v := .str _) rfl rfl) rfl rfl ?_
    refine sP (opp_lenStr rfl rfl un9) rfl rfl ?_
    refine sP (opp_cmp rfl rfl rfl rfl) rfl rfl ?_
    refine awp_cond _ rfl (fun hc7 => ?_) (fun hc7 => ?_)
    · (try simp only [cmpI, errD_nil, Bool.not_eq_true', Bool.not_eq_false', decide_eq_true_eq, decide_eq_false_iff_not] at hc7); have ht26 := hc7
      refine awp_seq ?_
      refine awp_draw hmix rfl (by kernel_rfl) ?_
      refine dP (fun _ => false) (opp_build rfl z26 bld26 rfl [.int .i64 0, .int .i64 0, .agg [.int .i64 0, .int .i64 0, .int .i64 0], .int .i64 0, .int .i64 0, .int .i64 0, .int .u32 0, .str []] rfl) rfl rfl ?_
      refine dP (fun _ => false) (opp_loadF rfl (ev_glob hG0) ty29) rfl rfl ?_
      refine dR0 (fun n => Nat.beq n 2) (opr_store (v := .agg _) (trn := (.agg _)) rfl rfl rfl rfl bi rfl rfl rfl rfl fr2 ty26 (fun _ _ h => h)) rfl rfl rfl ?_
      refine dP (fun _ => false) (opp_as (v := .err _) rfl rfl) rfl rfl ?_
      refine And.intro (by kernel_rfl) ?_
      refine awp_ret ?_
      repeat (first | refine athen_ret ?_ | refine ain_ret ?_)
      first
        | refine apost_ret (aend (l := [.agg _, .err _]) (.cell rfl rfl rfl (by exact True.intro) rfl ty26 (.tmp .nil)) (fun h => by cases h) (.cons (.noN rfl rfl) (.cons (.noN rfl rfl) .nil)) ⟨Wk.v ?_, rfl, rfl⟩)
        | refine apost_ret (aends (l := [.agg _, .err _]) (.cell rfl rfl rfl (by exact True.intro) rfl ty26 (.tmp .nil)) (fun h => by cases h) (.cons shut (fun h => by cases h) (.cons shut (fun h => by cases h) .nil)) rfl ⟨Wk.v ?_, rfl, rfl⟩)
      rw [show Sp.get s = (Sp.zero, 1) by rw [Sp.get, if_neg (by simpa using ht21), if_pos (by omega)]]; exact .refl
    · (try simp only [cmpI, errD_nil, Bool.not_eq_true', Bool.not_eq_false', decide_eq_true_eq, decide_eq_false_iff_not] at hc7); have ht26 := hc7
      refine awp_skip ?_
      refine awp_seq ?_
      refine awp_region rfl ?_
      first
        | refine sP (opp_mv (v := .sl _ _ _ _) rfl rfl) rfl rfl ?_
        | refine sP (opp_mv (v := .osl _ _ _ _ _) rfl rfl) rfl rfl ?_
      first
          | refine sR (opr_callO (rl := [(8, 30)]) (r1 := .val _) (H1 := [(30, some (.agg [.sl _ _ _ _, .int _ _, .int _ _]))]) (n1 := [30]) rfl rfl ent59 rfl (co59 (Sp.opened s).1 (by omega)) (AViews.refl _ rfl) rfl rfl rfl rfl) rfl rfl rfl ?_
          | refine sR (opr_callO (rl := [(8, 30)]) (r1 := .fptr _) (H1 := [(30, some (.agg [.sl _ _ _ _, .int _ _, .int _ _]))]) (n1 := [30]) rfl rfl ent59 rfl (co59 (Sp.opened s).1 (by omega)) (AViews.refl _ rfl) rfl rfl rfl rfl) rfl rfl rfl ?_
          | refine sR (opr_callO (rl := [(8, 30)]) (r1 := .ptr _ _ _) (H1 := [(30, some (.agg [.sl _ _ _ _, .int _ _, .int _ _]))]) (n1 := [30]) rfl rfl ent59 rfl (co59 (Sp.opened s).1 (by omega)) (AViews.refl _ rfl) rfl rfl rfl rfl) rfl rfl rfl ?_
      first
        | refine sP (opp_as (v := .ptr _ _ _) rfl rfl) rfl rfl ?_
        | refine sP (opp_as (v := .fptr _) rfl rfl) rfl rfl ?_
      refine awp_seq ?_
      refine awp_seq ?_
      refine awp_region rfl ?_
      first
        | refine sP (opp_mv (v := .ptr _ _ _) rfl rfl) rfl rfl ?_
        | refine sP (opp_mv (v := .fptr _) rfl rfl) rfl rfl ?_
      refine sR (opr_callG (rl := [(1, 30)]) (r1 := .tup [.int _ _, .err _]) (H1 := [(30, some (.agg [.sl _ _ _ _, .int _ _, .int _ _]))]) (n1 := []) rfl rfl ent60 (cg60c (Sp.opened s).1 false 0 (Sp.opened s).1.length (by omega) (by omega) (by omega)) (And.intro (And.intro rfl wka) True.intro) (And.intro (And.intro rfl (Exists.intro _ (And.intro rfl wkc))) True.intro) rfl rfl rfl rfl) rfl rfl rfl ?_
      refine sP (opp_mv (v := .tup _) rfl rfl) rfl rfl ?_
      refine sP (opp_extract rfl rfl rfl) rfl rfl ?_
      refine sP (opp_extract rfl rfl rfl) rfl rfl ?_
      refine sP (opp_as (v := .int _ _) rfl rfl) rfl rfl ?_
      refine sP (opp_as (v := .err _) rfl rfl) rfl rfl ?_
      refine awp_seq ?_
      refine awp_region rfl ?_
      refine sP (opp_mv (v := .int _ _) rfl rfl) rfl rfl ?_
      refine sP (opp_mv (v := .str _) rfl rfl) rfl rfl ?_
      refine sP (opp_lenStr rfl rfl un9) rfl rfl ?_
      refine sP (opp_cmp rfl rfl rfl rfl) rfl rfl ?_
      refine awp_cond _ rfl (fun hc12 => ?_) (fun hc12 => ?_)
      · (try simp only [cmpI, errD_nil, Bool.not_eq_true', Bool.not_eq_false', decide_eq_true_eq, decide_eq_false_iff_not] at hc12); have ht39 := hc12
        refine awp_seq ?_
        refine awp_draw hmix rfl (by kernel_rfl) ?_
        refine dP (fun _ => false) (opp_build rfl z26 bld26 rfl [.int .i64 0, .int .i64 0, .agg [.int .i64 0, .int .i64 0, .int .i64 0], .int .i64 0, .int .i64 0, .int .i64 0, .int .u32 0, .str []] rfl) rfl rfl ?_
        refine dP (fun _ => false) (opp_loadF rfl (ev_glob hG1) ty29) rfl rfl ?_
        refine dR0 (fun n => Nat.beq n 2) (opr_store (v := .agg _) (trn := (.agg _)) rfl rfl rfl rfl bi rfl rfl rfl rfl fr2 ty26 (fun _ _ h => h)) rfl rfl rfl ?_
        refine dP (fun _ => false) (opp_as (v := .err _) rfl rfl) rfl rfl ?_
        refine And.intro (by kernel_rfl) ?_
        refine awp_ret ?_
        repeat (first | refine athen_ret ?_ | refine ain_ret ?_)
        first
          | refine apost_ret (aend (l := [.agg _, .err _]) (.cell rfl rfl rfl (by exact True.intro) rfl ty26 (.tmp .nil)) (fun h => by cases h) (.cons (.noN rfl rfl) (.cons (.noN rfl rfl) .nil)) ⟨Wk.v ?_, rfl, rfl⟩)
          | refine apost_ret (aends (l := [.agg _, .err _]) (.cell rfl rfl rfl (by exact True.intro) rfl ty26 (.tmp .nil)) (fun h => by cases h) (.cons shut (fun h => by cases h) (.cons shut (fun h => by cases h) .nil)) rfl ⟨Wk.v ?_, rfl, rfl⟩)
        rw [show Sp.get s = (Sp.zero, 5) by rw [Sp.get, if_neg (by simpa using ht21), if_neg (by omega), if_pos (by omega)]]; exact .refl
      · (try simp only [cmpI, errD_nil, Bool.not_eq_true', Bool.not_eq_false', decide_eq_true_eq, decide_eq_false_iff_not] at hc12); have ht39 := hc12
        refine awp_skip ?_
        refine awp_seq ?_
        refine awp_region rfl ?_
        refine sR (opr_alloc (n := 9) rfl z26) rfl rfl rfl ?_
        refine awp_seq ?_
        refine awp_region rfl ?_
        first
          | refine sP (opp_mv (v := .ptr _ _ _) rfl rfl) rfl rfl ?_
          | refine sP (opp_mv (v := .fptr _) rfl rfl) rfl rfl ?_
        refine sR (opr_callG (rl := [(1, 30)]) (r1 := .tup [.int _ _, .err _]) (H1 := [(30, some (.agg [.sl _ _ _ _, .int _ _, .int _ _]))]) (n1 := []) rfl rfl ent61 (cg61c (Sp.opened s).1 false 2 (Sp.opened s).1.length (by omega) (by omega) (by omega)) (And.intro (And.intro rfl wka) True.intro) (And.intro (And.intro rfl (Exists.intro _ (And.intro rfl wkc))) True.intro) rfl rfl rfl rfl) rfl rfl rfl ?_
        refine sP (opp_mv (v := .tup _) rfl rfl) rfl rfl ?_
        refine sP (opp_extract rfl rfl rfl) rfl rfl ?_
        refine sP (opp_extract rfl rfl rfl) rfl rfl ?_
        first
          | refine sP (opp_fieldP rfl rfl fld26_0 rfl) rfl rfl ?_
          | refine sP (opp_fieldF rfl rfl rfl fld26_0 rfl rfl) rfl rfl ?_
        refine sR0 (opr_store (v := .int _ _) (trn := (.agg [.int _ _, _, _, _, _, _, _, _])) rfl rfl rfl rfl bi rfl rfl rfl rfl fr2 ty3 (fun _ _ h => h)) rfl rfl rfl ?_
        refine awp_seq ?_
        refine awp_region rfl ?_
        first
          | refine sP (opp_mv (v := .ptr _ _ _) rfl rfl) rfl rfl ?_
          | refine sP (opp_mv (v := .fptr _) rfl rfl) rfl rfl ?_
        refine sR (opr_callG (rl := [(1, 30)]) (r1 := .tup [.int _ _, .err _]) (H1 := [(30, some (.agg [.sl _ _ _ _, .int _ _, .int _ _]))]) (n1 := []) rfl rfl ent61 (cg61c (Sp.opened s).1 false 3 (Sp.opened s).1.length (by omega) (by omega) (by omega)) (And.intro (And.intro rfl wka) True.intro) (And.intro (And.intro rfl (Exists.intro _ (And.intro rfl wkc))) True.intro) rfl rfl rfl rfl) rfl rfl rfl ?_
        refine sP (opp_mv (v := .tup _) rfl rfl) rfl rfl ?_
        refine sP (opp_extract rfl rfl rfl) rfl rfl ?_
        refine sP (opp_extract rfl rfl rfl) rfl rfl ?_
        first
          | refine sP (opp_fieldP rfl rfl fld26_1 rfl) rfl rfl ?_
          | refine sP (opp_fieldF rfl rfl rfl fld26_1 rfl rfl) rfl rfl ?_
        refine sR0 (opr_store (v := .int _ _) (trn := (.agg [_, .int _ _, _, _, _, _, _, _])) rfl rfl rfl rfl bi rfl rfl rfl rfl fr2 ty3 (fun _ _ h => h)) rfl rfl rfl ?_
        refine awp_seq ?_
        refine awp_region rfl ?_
        first
          | refine sP (opp_mv (v := .ptr _ _ _) rfl rfl) rfl rfl ?_
          | refine sP (opp_mv (v := .fptr _) rfl rfl) rfl rfl ?_
        refine sR (opr_callG (rl := [(1, 30)]) (r1 := .tup [.int _ _, .err _]) (H1 := [(30, some (.agg [.sl _ _ _ _, .int _ _, .int _ _]))]) (n1 := []) rfl rfl ent62 (cg62c (Sp.opened s).1 false 4 (Sp.opened s).1.length (by omega) (by omega) (by omega)) (And.intro (And.intro rfl wka) True.intro) (And.intro (And.intro rfl (Exists.intro _ (And.intro rfl wkc))) True.intro) rfl rfl rfl rfl) rfl rfl rfl ?_
        refine sP (opp_mv (v := .tup _) rfl rfl) rfl rfl ?_
        refine sP (opp_extract rfl rfl rfl) rfl rfl ?_
        refine sP (opp_extract rfl rfl rfl) rfl rfl ?_
        first
          | refine sP (opp_fieldP rfl rfl fld26_2 rfl) rfl rfl ?_
          | refine sP (opp_fieldF rfl rfl rfl fld26_2 rfl rfl) rfl rfl ?_
        first
          | refine sP (opp_fieldP rfl rfl fld23_0 rfl) rfl rfl ?_
          | refine sP (opp_fieldF rfl rfl rfl fld23_0 rfl rfl) rfl rfl ?_
        refine sR0 (opr_store (v := .int _ _) (trn := (.agg [_, _, .agg [.int _ _, _, _], _, _, _, _, _])) rfl rfl rfl rfl bi rfl rfl rfl rfl fr2 ty3 (fun _ _ h => h)) rfl rfl rfl ?_
        refine awp_seq ?_
        refine awp_region rfl ?_
        first
          | refine sP (opp_mv (v := .ptr _ _ _) rfl rfl) rfl rfl ?_
          | refine sP (opp_mv (v := .fptr _) rfl rfl) rfl rfl ?_
        refine sR (opr_callG (rl := [(1, 30)]) (r1 := .tup [.int _ _, .err _]) (H1 := [(30, some (.agg [.sl _ _ _ _, .int _ _, .int _ _]))]) (n1 := []) rfl rfl ent62 (cg62c (Sp.opened s).1 false 8 (Sp.opened s).1.length (by omega) (by omega) (by omega)) (And.intro (And.intro rfl wka) True.intro) (And.intro (And.intro rfl (Exists.intro _ (And.intro rfl wkc))) True.intro) rfl rfl rfl rfl) rfl rfl rfl ?_
        refine sP (opp_mv (v := .tup _) rfl rfl) rfl rfl ?_
        refine sP (opp_extract rfl rfl rfl) rfl rfl ?_
        refine sP (opp_extract rfl rfl rfl) rfl rfl ?_
        first
          | refine sP (opp_fieldP rfl rfl fld26_2 rfl) rfl rfl ?_
          | refine sP (opp_fieldF rfl rfl rfl fld26_2 rfl rfl) rfl rfl ?_
        first
          | refine sP (opp_fieldP rfl rfl fld23_1 rfl) rfl rfl ?_
          | refine sP (opp_fieldF rfl rfl rfl fld23_1 rfl rfl) rfl rfl ?_
        refine sR0 (opr_store (v := .int _ _) (trn := (.agg [_, _, .agg [_, .int _ _, _], _, _, _, _, _])) rfl rfl rfl rfl bi rfl rfl rfl rfl fr2 ty3 (fun _ _ h => h)) rfl rfl rfl ?_
        refine awp_seq ?_
        refine awp_region rfl ?_
        first
          | refine sP (opp_mv (v := .ptr _ _ _) rfl rfl) rfl rfl ?_
          | refine sP (opp_mv (v := .fptr _) rfl rfl) rfl rfl ?_
        refine sR (opr_callG (rl := [(1, 30)]) (r1 := .tup [.int _ _, .err _]) (H1 := [(30, some (.agg [.sl _ _ _ _, .int _ _, .int _ _]))]) (n1 := []) rfl rfl ent62 (cg62c (Sp.opened s).1 false 12 (Sp.opened s).1.length (by omega) (by omega) (by omega)) (And.intro (And.intro rfl wka) True.intro) (And.intro (And.intro rfl (Exists.intro _ (And.intro rfl wkc))) True.intro) rfl rfl rfl rfl) rfl rfl rfl ?_
        refine sP (opp_mv (v := .tup _) rfl rfl) rfl rfl ?_
        refine sP (opp_extract rfl rfl rfl) rfl rfl ?_
        refine sP (opp_extract rfl rfl rfl) rfl rfl ?_
        first
          | refine sP (opp_fieldP rfl rfl fld26_2 rfl) rfl rfl ?_
          | refine sP (opp_fieldF rfl rfl rfl fld26_2 rfl rfl) rfl rfl ?_
        first
          | refine sP (opp_fieldP rfl rfl fld23_2 rfl) rfl rfl ?_
          | refine sP (opp_fieldF rfl rfl rfl fld23_2 rfl rfl) rfl rfl ?_
        refine sR0 (opr_store (v := .int _ _) (trn := (.agg [_, _, .agg [_, _, .int _ _], _, _, _, _, _])) rfl rfl rfl rfl bi rfl rfl rfl rfl fr2 ty3 (fun _ _ h => h)) rfl rfl rfl ?_
        refine awp_seq ?_
        refine awp_region rfl ?_
        first
          | refine sP (opp_mv (v := .ptr _ _ _) rfl rfl) rfl rfl ?_
          | refine sP (opp_mv (v := .fptr _) rfl rfl) rfl rfl ?_
        refine sR (opr_callG (rl := [(1, 30)]) (r1 := .tup [.int _ _, .err _]) (H1 := [(30, some (.agg [.sl _ _ _ _, .int _ _, .int _ _]))]) (n1 := []) rfl rfl ent61 (cg61c (Sp.opened s).1 false 16 (Sp.opened s).1.length (by omega) (by omega) (by omega)) (And.intro (And.intro rfl wka) True.intro) (And.intro (And.intro rfl (Exists.intro _ (And.intro rfl wkc))) True.intro) rfl rfl rfl rfl) rfl rfl rfl ?_
        refine sP (opp_mv (v := .tup _) rfl rfl) rfl rfl ?_
        refine sP (opp_extract rfl rfl rfl) rfl rfl ?_
        refine sP (opp_extract rfl rfl rfl) rfl rfl ?_
        first
          | refine sP (opp_fieldP rfl rfl fld26_3 rfl) rfl rfl ?_
          | refine sP (opp_fieldF rfl rfl rfl fld26_3 rfl rfl) rfl rfl ?_
        refine sR0 (opr_store (v := .int _ _) (trn := (.agg [_, _, _, .int _ _, _, _, _, _])) rfl rfl rfl rfl bi rfl rfl rfl rfl fr2 ty3 (fun _ _ h => h)) rfl rfl rfl ?_
        refine awp_seq ?_
        refine awp_region rfl ?_
        first
          | refine sP (opp_mv (v := .ptr _ _ _) rfl rfl) rfl rfl ?_
          | refine sP (opp_mv (v := .fptr _) rfl rfl) rfl rfl ?_
        refine sR (opr_callG (rl := [(1, 30)]) (r1 := .tup [.int _ _, .err _]) (H1 := [(30, some (.agg [.sl _ _ _ _, .int _ _, .int _ _]))]) (n1 := []) rfl rfl ent61 (cg61c (Sp.opened s).1 false 17 (Sp.opened s).1.length (by omega) (by omega) (by omega)) (And.intro (And.intro rfl wka) True.intro) (And.intro (And.intro rfl (Exists.intro _ (And.intro rfl wkc))) True.intro) rfl rfl rfl rfl) rfl rfl rfl ?_
        refine sP (opp_mv (v := .tup _) rfl rfl) rfl rfl ?_
        refine sP (opp_extract rfl rfl rfl) rfl rfl ?_
        refine sP (opp_extract rfl rfl rfl) rfl rfl ?_
        first
          | refine sP (opp_fieldP rfl rfl fld26_4 rfl) rfl rfl ?_
          | refine sP (opp_fieldF rfl rfl rfl fld26_4 rfl rfl) rfl rfl ?_
        refine sR0 (opr_store (v := .int _ _) (trn := (.agg [_, _, _, _, .int _ _, _, _, _])) rfl rfl rfl rfl bi rfl rfl rfl rfl fr2 ty3 (fun _ _ h => h)) rfl rfl rfl ?_
        refine awp_seq ?_
        refine awp_region rfl ?_
        first
          | refine sP (opp_mv (v := .ptr _ _ _) rfl rfl) rfl rfl ?_
          | refine sP (opp_mv (v := .fptr _) rfl rfl) rfl rfl ?_
        refine sR (opr_callG (rl := [(1, 30)]) (r1 := .tup [.int _ _, .err _]) (H1 := [(30, some (.agg [.sl _ _ _ _, .int _ _, .int _ _]))]) (n1 := []) rfl rfl ent61 (cg61c (Sp.opened s).1 false 18 (Sp.opened s).1.length (by omega) (by omega) (by omega)) (And.intro (And.intro rfl wka) True.intro) (And.intro (And.intro rfl (Exists.intro _ (And.intro rfl wkc))) True.intro) rfl rfl rfl rfl) rfl rfl rfl ?_
        refine sP (opp_mv (v := .tup _) rfl rfl) rfl rfl ?_
        refine sP (opp_extract rfl rfl rfl) rfl rfl ?_
        refine sP (opp_extract rfl rfl rfl) rfl rfl ?_
        first
          | refine sP (opp_fieldP rfl rfl fld26_5 rfl) rfl rfl ?_
          | refine sP (opp_fieldF rfl rfl rfl fld26_5 rfl rfl) rfl rfl ?_
        refine sR0 (opr_store (v := .int _ _) (trn := (.agg [_, _, _, _, _, .int _ _, _, _])) rfl rfl rfl rfl bi rfl rfl rfl rfl fr2 ty3 (fun _ _ h => h)) rfl rfl rfl ?_
        refine awp_seq ?_
        refine awp_region rfl ?_
        first
          | refine sP (opp_mv (v := .ptr _ _ _) rfl rfl) rfl rfl ?_
          | refine sP (opp_mv (v := .fptr _) rfl rfl) rfl rfl ?_
        refine sR (opr_callG (rl := [(1, 30)]) (r1 := .tup [.int _ _, .err _]) (H1 := [(30, some (.agg [.sl _ _ _ _, .int _ _, .int _ _]))]) (n1 := []) rfl rfl ent62 (cg62c (Sp.opened s).1 false 19 (Sp.opened s).1.length (by omega) (by omega) (by omega)) (And.intro (And.intro rfl wka) True.intro) (And.intro (And.intro rfl (Exists.intro _ (And.intro rfl wkc))) True.intro) rfl rfl rfl rfl) rfl rfl rfl ?_
        refine sP (opp_mv (v := .tup _) rfl rfl) rfl rfl ?_
        refine sP (opp_extract rfl rfl rfl) rfl rfl ?_
        refine sP (opp_extract rfl rfl rfl) rfl rfl ?_
        refine sP (opp_as (v := .int _ _) rfl rfl) rfl rfl ?_
        refine sP (opp_as (v := .err _) rfl rfl) rfl rfl ?_
        refine awp_seq ?_
        refine awp_region rfl ?_
        first
          | refine sP (opp_mv (v := .ptr _ _ _) rfl rfl) rfl rfl ?_
          | refine sP (opp_mv (v := .fptr _) rfl rfl) rfl rfl ?_
        first
          | refine sP (opp_mv (v := .ptr _ _ _) rfl rfl) rfl rfl ?_
          | refine sP (opp_mv (v := .fptr _) rfl rfl) rfl rfl ?_
        refine sR (opr_callG (rl := [(1, 30)]) (r1 := .int _ _) (H1 := [(30, some (.agg [.sl _ _ _ _, .int _ _, .int _ _]))]) (n1 := []) rfl rfl ent64 (cg64c (Sp.opened s).1 false 23 (Sp.opened s).1.length (by omega) (by omega)) (And.intro (And.intro rfl wka) True.intro) (And.intro (And.intro rfl (Exists.intro _ (And.intro rfl wkc))) True.intro) rfl rfl rfl rfl) rfl rfl rfl ?_
        refine sR (opr_callG (rl := [(1, 30)]) (r1 := .tup [.sl _ _ _ _, .err _]) (H1 := [(30, some (.agg [.sl _ _ _ _, .int _ _, .int _ _]))]) (n1 := []) rfl rfl ent63 (cg63c (Sp.opened s).1 23 (Sp.opened s).1.length ((Sp.opened s).1.length - 23) (by omega) (by omega) (by omega)) (And.intro (And.intro rfl wka) (And.intro (And.intro rfl wka) True.intro)) (And.intro (And.intro rfl (Exists.intro _ (And.intro rfl wkc))) True.intro) rfl rfl rfl rfl) rfl rfl rfl ?_
        refine sP (opp_mv (v := .tup _) rfl rfl) rfl rfl ?_
        refine sP (opp_extract rfl rfl rfl) rfl rfl ?_
        refine sP (opp_extract rfl rfl rfl) rfl rfl ?_
        first
          | refine sP (opp_as (v := .sl _ _ _ _) rfl rfl) rfl rfl ?_
          | refine sP (opp_as (v := .osl _ _ _ _ _) rfl rfl) rfl rfl ?_
        refine sP (opp_as (v := .err _) rfl rfl) rfl rfl ?_
        refine awp_seq ?_
        refine awp_seq ?_
        rw [show ((Sp.opened s).1.drop 23).take ((Sp.opened s).1.length - 23) = (Sp.opened s).1.drop 23 from List.take_of_length_le (by rw [List.length_drop]; omega)]
        refine awp_region rfl ?_
        refine sP (opp_mv (v := .err _) rfl rfl) rfl rfl ?_
        refine sP (opp_errNil rfl rfl rfl un29 (.inr ⟨rfl, rfl⟩)) rfl rfl ?_
        refine awp_cond _ rfl (fun hc26 => ?_) (fun hc26 => ?_)
        · (try simp only [cmpI, errD_nil, Bool.not_eq_true', Bool.not_eq_false', decide_eq_true_eq, decide_eq_false_iff_not] at hc26); have ht106 := hc26
          exact absurd ht106 (by decide)
        · (try simp only [cmpI, errD_nil, Bool.not_eq_true', Bool.not_eq_false', decide_eq_true_eq, decide_eq_false_iff_not] at hc26); have ht106 := hc26
          refine awp_skip ?_
          refine awp_seq ?_
          refine awp_draw hmix rfl (by kernel_rfl) ?_
          refine dP (fun _ => false) (opp_mv (v := .int _ _) rfl rfl) rfl rfl ?_
          first
            | refine dP (fun n => !([9, 112] : List Nat).contains n) (opp_convInt rfl rfl un3s un24 (wu32 (by omega))) rfl rfl ?_
            | refine dP (fun n => !([9, 112] : List Nat).contains n) (opp_convInt rfl rfl un3s un24 rfl) rfl rfl ?_
          first
            | refine dP (fun _ => false) (opp_mv (v := .sl _ _ _ _) rfl rfl) rfl rfl ?_
            | refine dP (fun _ => false) (opp_mv (v := .osl _ _ _ _ _) rfl rfl) rfl rfl ?_
          refine dP (fun n => !([9, 110] : List Nat).contains n) (opp_bytesStr rfl rfl _ rfl (fun j hj => rfl) un36 unu8 un9) rfl rfl ?_
          first
            | refine dP (fun _ => false) (opp_fieldP rfl rfl fld26_6 rfl) rfl rfl ?_
            | refine dP (fun _ => false) (opp_fieldF rfl rfl rfl fld26_6 rfl rfl) rfl rfl ?_
          refine dR0 (fun n => Nat.beq n 9) (opr_store (v := .int _ _) (trn := (.agg [_, _, _, _, _, _, .int _ _, _])) rfl rfl rfl rfl bi rfl rfl rfl rfl fr2 ty24 (fun _ _ h => h)) rfl rfl rfl ?_
          first
            | refine dP (fun _ => false) (opp_fieldP rfl rfl fld26_7 rfl) rfl rfl ?_
            | refine dP (fun _ => false) (opp_fieldF rfl rfl rfl fld26_7 rfl rfl) rfl rfl ?_
          refine dR0 (fun n => Nat.beq n 9) (opr_store (v := .str _) (trn := (.agg [_, _, _, _, _, _, _, .str _])) rfl rfl rfl rfl bi rfl rfl rfl rfl fr2 ty9 (fun _ _ h => h)) rfl rfl rfl ?_
          refine And.intro (by kernel_rfl) ?_
          refine awp_seq ?_
          refine awp_seq ?_
          refine awp_region rfl ?_
          first
            | refine sP (opp_loadP rfl rfl rfl rfl bi rfl ty26) rfl rfl ?_
            | refine sP (opp_loadF rfl rfl ty26) rfl rfl ?_
          refine sR (opr_call rfl rfl ent47 rfl (c47 (Sp.noteOf (Sp.opened s).1) hG4 hG8) (AViews.refl _ rfl)) rfl rfl rfl ?_ -- d=116 t=29
          refine sP (opp_as (v := .err _) rfl rfl) rfl rfl ?_
          refine awp_seq ?_
          refine awp_region rfl ?_
          refine sP (opp_mv (v := .err _) rfl rfl) rfl rfl ?_
          refine sP (opp_errNil rfl rfl rfl un29 (.inr ⟨rfl, rfl⟩)) rfl rfl ?_
          refine awp_cond _ rfl (fun hc30 => ?_) (fun hc30 => ?_)
          · (try simp only [cmpI, errD_nil, Bool.not_eq_true', Bool.not_eq_false', decide_eq_true_eq, decide_eq_false_iff_not] at hc30); have ht118 := hc30
            refine awp_seq ?_
            refine awp_region rfl ?_
            refine sP (opp_build rfl z26 bld26 rfl [.int .i64 0, .int .i64 0, .agg [.int .i64 0, .int .i64 0, .int .i64 0], .int .i64 0, .int .i64 0, .int .i64 0, .int .u32 0, .str []] rfl) rfl rfl ?_
            refine sP (opp_mv (v := .err _) rfl rfl) rfl rfl ?_
            refine sR0 (opr_store (v := .agg _) (trn := (.agg _)) rfl rfl rfl rfl bi rfl rfl rfl rfl fr2 ty26 (fun _ _ h => h)) rfl rfl rfl ?_
            refine sP (opp_as (v := .err _) rfl rfl) rfl rfl ?_
            refine awp_ret ?_
            repeat (first | refine athen_ret ?_ | refine ain_ret ?_)
            first
              | refine apost_ret (aend (l := [.agg _, .err _]) (.cell rfl rfl rfl (by exact True.intro) rfl ty26 (.tmp .nil)) (fun h => by cases h) (.cons (.noN rfl rfl) (.cons (.noN rfl rfl) .nil)) ⟨Wk.v ?_, rfl, rfl⟩)
              | refine apost_ret (aends (l := [.agg _, .err _]) (.cell rfl rfl rfl (by exact True.intro) rfl ty26 (.tmp .nil)) (fun h => by cases h) (.cons shut (fun h => by cases h) (.cons shut (fun h => by cases h) .nil)) rfl ⟨Wk.v ?_, rfl, rfl⟩)
            rw [show Sp.get s = (Sp.zero, Sp.check (Sp.noteOf (Sp.opened s).1)) by rw [Sp.get, if_neg (by simpa using ht21), if_neg (by omega), if_neg (by omega), if_pos ht118]]; exact .refl
          · (try simp only [cmpI, errD_nil, Bool.not_eq_true', Bool.not_eq_false', decide_eq_true_eq, decide_eq_false_iff_not] at hc30); have ht118 := hc30
            refine awp_skip ?_
            refine awp_seq ?_
            refine awp_region rfl ?_
            first
              | refine sP (opp_loadP rfl rfl rfl rfl bi rfl ty26) rfl rfl ?_
              | refine sP (opp_loadF rfl rfl ty26) rfl rfl ?_
            refine sR0 (opr_store (v := .agg _) (trn := (.agg _)) rfl rfl rfl rfl bi rfl rfl rfl rfl fr2 ty26 (fun _ _ h => h)) rfl rfl rfl ?_
            refine sP (opp_as (v := .err _) rfl rfl) rfl rfl ?_
            refine awp_ret ?_
            repeat (first | refine athen_ret ?_ | refine ain_ret ?_)
            first
              | refine apost_ret (aend (l := [.agg _, .err _]) (.cell rfl rfl rfl (by exact True.intro) rfl ty26 (.tmp .nil)) (fun h => by cases h) (.cons (.noN rfl rfl) (.cons (.noN rfl rfl) .nil)) ⟨Wk.v ?_, rfl, rfl⟩)
              | refine apost_ret (aends (l := [.agg _, .err _]) (.cell rfl rfl rfl (by exact True.intro) rfl ty26 (.tmp .nil)) (fun h => by cases h) (.cons shut (fun h => by cases h) (.cons shut (fun h => by cases h) .nil)) rfl ⟨Wk.v ?_, rfl, rfl⟩)
            rw [show Sp.get s = (Sp.noteOf (Sp.opened s).1, 0) by rw [Sp.get, if_neg (by simpa using ht21), if_neg (by omega), if_neg (by omega), if_neg (by simpa using ht118)]]; exact .refl
end
end Go.Proofs.YtgaihhimkodmmaaDoor
/- Layer 20: stages go on (walks over this dump). -/
namespace Go.Proofs.YtgaihhimkodmmaaDoor
attribute [local irreducible] Tryd.prog
open Go.Fy
set_option linter.unusedSimpArgs false
section
variable {ea : Nat → Addr} {cds : List Nat} {gl : Nat → Option AV}
end
end Go.Proofs.YtgaihhimkodmmaaDoor
/- Layer 22: what has come (walks over this dump). -/
namespace Go.Proofs.YtgaihhimkodmmaaDoor
attribute [local irreducible] Tryd.prog
open Go.Fy
set_option linter.unusedSimpArgs false
section
variable {ea : Nat → Addr} {cds : List Nat} {gl : Nat → Option AV}
end
end Go.Proofs.YtgaihhimkodmmaaDoor
/- Layer 20: an image is cut (walks over this dump). -/
namespace Go.Proofs.YtgaihhimkodmmaaDoor
attribute [local irreducible] Tryd.prog
open Go.Fy
set_option linter.unusedSimpArgs false
section
variable {ea : Nat → Addr} {cds : List Nat} {gl : Nat → Option AV}
theorem c91 (b : Bool) (n : Nat) (f : Nat → AV) (k : Int) (h0 : 1 ≤ k) : APure (V ea cds gl) 91 [.sl 1 b n f, .int .i64 k] false (.fn 124 [.fptr (.sl 1 b n f), .fptr (.int .i64 k)]) := by
  refine acalls_of_body (N := 9) Tryd.func91 rfl rfl (Nat.le_of_ble_eq_true rfl) fun C hV hN hM hO => ?_
  obtain ⟨_, _, w0, G0, σ0, _, own0⟩ := C; dsimp only at hV hN hM hO; subst hV; subst hN; subst hM
  refine awp_seq ?_
  refine awp_region rfl ?_
  first
    | refine sR (opr_box (y := .sl _ _ _ _) (n := 2) rfl rfl rfl) rfl rfl rfl ?_
    | refine sR (opr_box (y := .osl _ _ _ _ _) (n := 2) rfl rfl rfl) rfl rfl rfl ?_
  refine sR (opr_box (y := .int _ _) (n := 3) rfl rfl rfl) rfl rfl rfl ?_
  first
    | refine sP (opp_as (v := .fn _ _) rfl rfl) rfl rfl ?_
    | refine sP (opp_as (v := .val _) rfl rfl) rfl rfl ?_
  refine awp_seq ?_
  refine awp_seq ?_
  refine awp_region rfl ?_
  first
    | refine sP (opp_loadP rfl rfl rfl rfl bi rfl ty3) rfl rfl ?_
    | refine sP (opp_loadF rfl rfl ty3) rfl rfl ?_
  refine sP (opp_cmp rfl rfl rfl rfl) rfl rfl ?_
  refine awp_cond _ rfl (fun hc3 => ?_) (fun hc3 => ?_)
  · (try simp only [cmpI, errD_nil, Bool.not_eq_true', Bool.not_eq_false', decide_eq_true_eq, decide_eq_false_iff_not] at hc3); have ht6 := hc3
    exfalso; first | omega | (simp_all; done)
  · (try simp only [cmpI, errD_nil, Bool.not_eq_true', Bool.not_eq_false', decide_eq_true_eq, decide_eq_false_iff_not] at hc3); have ht6 := hc3
    refine awp_skip ?_
    refine awp_seq ?_
    refine awp_region rfl ?_
    first
      | refine sP (opp_makeFunc (vs := [.ptr _ _ _, .ptr _ _ _]) rfl rfl rfl rfl) rfl rfl ?_
      | refine sP (opp_makeFunc (vs := [.ptr _ _ _, .fptr _]) rfl rfl rfl rfl) rfl rfl ?_
      | refine sP (opp_makeFunc (vs := [.ptr _ _ _, .fn _ _]) rfl rfl rfl rfl) rfl rfl ?_
      | refine sP (opp_makeFunc (vs := [.ptr _ _ _, .int _ _]) rfl rfl rfl rfl) rfl rfl ?_
      | refine sP (opp_makeFunc (vs := [.ptr _ _ _, .osl _ _ _ _ _]) rfl rfl rfl rfl) rfl rfl ?_
      | refine sP (opp_makeFunc (vs := [.ptr _ _ _, .sl _ _ _ _]) rfl rfl rfl rfl) rfl rfl ?_
      | refine sP (opp_makeFunc (vs := [.fptr _, .ptr _ _ _]) rfl rfl rfl rfl) rfl rfl ?_
      | refine sP (opp_makeFunc (vs := [.fptr _, .fptr _]) rfl rfl rfl rfl) rfl rfl ?_
      | refine sP (opp_makeFunc (vs := [.fptr _, .fn _ _]) rfl rfl rfl rfl) rfl rfl ?_
      | refine sP (opp_makeFunc (vs := [.fptr _, .int _ _]) rfl rfl rfl rfl) rfl rfl ?_
      | refine sP (opp_makeFunc (vs := [.fptr _, .osl _ _ _ _ _]) rfl rfl rfl rfl) rfl rfl ?_
      | refine sP (opp_makeFunc (vs := [.fptr _, .sl _ _ _ _]) rfl rfl rfl rfl) rfl rfl ?_
      | refine sP (opp_makeFunc (vs := [.fn _ _, .ptr _ _ _]) rfl rfl rfl rfl) rfl rfl ?_
      | refine sP (opp_makeFunc (vs := [.fn _ _, .fptr _]) rfl rfl rfl rfl) rfl rfl ?_
      | refine sP (opp_makeFunc (vs := [.fn _ _, .fn _ _]) rfl rfl rfl rfl) rfl rfl ?_
      | refine sP (opp_makeFunc (vs := [.fn _ _, .int _ _]) rfl rfl rfl rfl) rfl rfl ?_
      | refine sP (opp_makeFunc (vs := [.fn _ _, .osl _ _ _ _ _]) rfl rfl rfl rfl) rfl rfl ?_
      | refine sP (opp_makeFunc (vs := [.fn _ _, .sl _ _ _ _]) rfl rfl rfl rfl) rfl rfl ?_
      | refine sP (opp_makeFunc (vs := [.int _ _, .ptr _ _ _]) rfl rfl rfl rfl) rfl rfl ?_
      | refine sP (opp_makeFunc (vs := [.int _ _, .fptr _]) rfl rfl rfl rfl) rfl rfl ?_
      | refine sP (opp_makeFunc (vs := [.int _ _, .fn _ _]) rfl rfl rfl rfl) rfl rfl ?_
      | refine sP (opp_makeFunc (vs := [.int _ _, .int _ _]) rfl rfl rfl rfl) rfl rfl ?_
      | refine sP (opp_makeFunc (vs := [.int _ _, .osl _ _ _ _ _]) rfl rfl rfl rfl) rfl rfl ?_
      | refine sP (opp_makeFunc (vs := [.int _ _, .sl _ _ _ _]) rfl rfl rfl rfl) rfl rfl ?_
      | refine sP (opp_makeFunc (vs := [.osl _ _ _ _ _, .ptr _ _ _]) rfl rfl rfl rfl) rfl rfl ?_
      | refine sP (opp_makeFunc (vs := [.osl _ _ _ _ _, .fptr _]) rfl rfl rfl rfl) rfl rfl ?_
      | refine sP (opp_makeFunc (vs := [.osl _ _ _ _ _, .fn _ _]) rfl rfl rfl rfl) rfl rfl ?_
      | refine sP (opp_makeFunc (vs := [.osl _ _ _ _ _, .int _ _]) rfl rfl rfl rfl) rfl rfl ?_
      | refine sP (opp_makeFunc (vs := [.osl _ _ _ _ _, .osl _ _ _ _ _]) rfl rfl rfl rfl) rfl rfl ?_
      | refine sP (opp_makeFunc (vs := [.osl _ _ _ _ _, .sl _ _ _ _]) rfl rfl rfl rfl) rfl rfl ?_
      | refine sP (opp_makeFunc (vs := [.sl _ _ _ _, .ptr _ _ _]) rfl rfl rfl rfl) rfl rfl ?_
      | refine sP (opp_makeFunc (vs := [.sl _ _ _ _, .fptr _]) rfl rfl rfl rfl) rfl rfl ?_
      | refine sP (opp_makeFunc (vs := [.sl _ _ _ _, .fn _ _]) rfl rfl rfl rfl) rfl rfl ?_
      | refine sP (opp_makeFunc (vs := [.sl _ _ _ _, .int _ _]) rfl rfl rfl rfl) rfl rfl ?_
      | refine sP (opp_makeFunc (vs := [.sl _ _ _ _, .osl _ _ _ _ _]) rfl rfl rfl rfl) rfl rfl ?_
      | refine sP (opp_makeFunc (vs := [.sl _ _ _ _, .sl _ _ _ _]) rfl rfl rfl rfl) rfl rfl ?_
    first
      | refine sP (opp_as (v := .fn _ _) rfl rfl) rfl rfl ?_
      | refine sP (opp_as (v := .val _) rfl rfl) rfl rfl ?_
    refine awp_ret ?_
    repeat (first | refine athen_ret ?_ | refine ain_ret ?_)
    first
      | refine apost_ret (aend1 (r0 := .fn _ _) (.tmp .nil) (.noN rfl rfl) ⟨Wk.v ?_, rfl, rfl⟩)
      | refine apost_ret (aend1s (r0 := .fn _ _) (.tmp .nil) shut rfl ⟨Wk.v ?_, rfl, rfl⟩)
      | refine apost_ret (aend1 (r0 := .val _) (.tmp .nil) (.noN rfl rfl) ⟨Wk.v ?_, rfl, rfl⟩)
      | refine apost_ret (aend1s (r0 := .val _) (.tmp .nil) shut rfl ⟨Wk.v ?_, rfl, rfl⟩)
    (repeat' (first | exact Wk.refl | exact Wk.sl0 | apply Wk.tup | apply Wk.agg | apply WkL.cons | exact WkL.nil | refine Wk.sl (fun _ _ => ?_)))
end
end Go.Proofs.YtgaihhimkodmmaaDoor
/- Layer 20: an image is cut (walks over this dump). -/
namespace Go.Proofs.YtgaihhimkodmmaaDoor
open Go.Fy Go.RowKit
set_option linter.unusedSimpArgs false
attribute [local irreducible] Tryd.prog
/-- The pieces of a row. -/
theorem chunk_seq {ea : Nat → Addr} {cds : List Nat} {gl : Nat → Option AV} (b : Bool) (n : Nat) (f : Nat → AV) (h1 : 1 ≤ n) (h2 : n ≤ 4611686018427387904) :
    ASeq (V ea cds gl) 124 [.fptr (.sl 1 b n f), .fptr (.int .i64 128)] ((n + 127) / 128) (fun k => .sl 1 (decide (n ≤ 128 * k)) (min 128 (n - 128 * k)) fun j => f (128 * k + j)) := by
  intro E cv hV hE hG hcv
  obtain ⟨cl⟩ := cv
  simp only [RelC, Rel] at hcv
  obtain ⟨c1, d1, rfl, ⟨b1, e1, hs1, hg1, ds1, hh1, hr1⟩, c2, d2, rfl, ⟨b2, e2, hs2, hg2, ds2, hh2, hr2⟩, rfl⟩ := hcv
  simp only [List.cons.injEq, and_true] at e1 e2
  subst e1; subst e2
  obtain ⟨a, cap, rfl, hle, hnn, hnone, hel⟩ := hr1
  subst hr2
  cases a with
  | none => have := (hnone rfl).1; omega
  | some ad =>
    obtain ⟨hsp, hgd, hds⟩ := hel ad rfl
    have hsp := hsp (by omega)
    have hc1 : E.w.cell? ⟨b1.block, b1.off, none⟩ = some (.slice (some ad) n cap) := hh1 0 _ rfl
    have hc2 : E.w.cell? ⟨b2.block, b2.off, none⟩ = some (.int .i64 128) := hh2 0 _ rfl
    obtain ⟨ab, ao, asp⟩ := ad
    obtain ⟨bb1, bo1, bs1⟩ := b1
    obtain ⟨bb2, bo2, bs2⟩ := b2
    dsimp only at hsp hs1 hs2 hg1 hg2 hgd hc1 hc2
    subst hsp; subst hs1; subst hs2
    refine ⟨fun k => if 128 * k < n then .slice (some ⟨ab, ao + 128 * k, none⟩) (min 128 (n - 128 * k)) (min 128 (n - 128 * k)) else .slice none 0 0, fun k => ?_, fun m Kp hm hKp l J Jx W hW hJ hJx hY h0 => ?_⟩
    · simp only [RelV, Rel]
      by_cases hk : 128 * k < n
      · rw [if_pos hk]
        refine ⟨_, _, rfl, Nat.le_refl _, by simp; omega, (fun h => by cases h), fun bb hb => ?_⟩
        cases hb
        refine ⟨fun _ => rfl, fun _ => hgd (by omega), fun j hj => ?_⟩
        obtain ⟨ds, h3, h4, h5⟩ := hds (128 * k + j) (by omega)
        refine ⟨ds, h3, fun q v hq => ?_, h5⟩
        have := h4 q v hq
        simp only at this ⊢
        rw [show ao + 128 * k + (j * 1 + q) = ao + ((128 * k + j) * 1 + q) by omega]
        exact this
      · rw [if_neg hk, show min 128 (n - 128 * k) = 0 by omega]
        exact ⟨none, 0, rfl, Nat.le_refl _, by simp; omega, fun _ => ⟨rfl, rfl⟩, fun bb hb => by cases hb⟩
    · have hb1 : bb1 < E.w.heap.size := hG _ hg1
      have hb2 : bb2 < E.w.heap.size := hG _ hg2
      refine (chunk_in Fence.wide m trivial rfl hm l bb1 bo1 bb2 bo2 ab ao n cap hle h2 Kp J Jx (fun pre W hJW => hJ pre W W.drew none hJW ⟨rfl, rfl, rfl, Nat.le_refl _, fun _ _ _ => rfl⟩ (fun r h => by cases h))
        (fun A B hAB v hv => hKp A B hAB _ hg1 _ _ hv) (fun A B hAB v hv => hKp A B hAB _ hg2 _ _ hv) hY W ((hW.cell (p := ⟨bb1, bo1, none⟩) hb1).trans hc1) ((hW.cell (p := ⟨bb2, bo2, none⟩) hb2).trans hc2) h0)
section
variable {ea : Nat → Addr} {cds : List Nat} {gl : Nat → Option AV}
theorem c40 (p : Int) (x : Xid) (st : Int) (b : Bool) (im : List UInt8) (hG2 : gl 2 = some (.err (.code 12))) (hG6 : gl 6 = some (.err (.code 11))) :
    APure (V ea cds gl) 40 [.int .i64 p, xidAV x, .int .i64 st, .sl 1 b im.length (bAt im)] true
      (.tup [.sl 10 (decide ((Sp.cut p x st im).1 = [])) (Sp.cut p x st im).1.length (fun j => noteAV ((Sp.cut p x st im).1.getD j Sp.zero)), .err (errD (Sp.cut p x st im).2)]) := by
  refine acalls_of_body (N := 59) Tryd.func40 rfl rfl (Nat.le_of_ble_eq_true rfl) fun C hV hN hM hO => ?_
  obtain ⟨_, _, w0, G0, σ0, _, own0⟩ := C; dsimp only at hV hN hM hO; subst hV; subst hN; subst hM
  refine awp_seq ?_
  refine awp_region rfl ?_
  refine sR (opr_box (y := .int _ _) (n := 4) rfl rfl rfl) rfl rfl rfl ?_
  refine sR (opr_box (y := .agg _) (n := 5) rfl rfl rfl) rfl rfl rfl ?_
  refine sR (opr_box (y := .int _ _) (n := 6) rfl rfl rfl) rfl rfl rfl ?_
  first
    | refine sP (opp_as (v := .sl _ _ _ _) rfl rfl) rfl rfl ?_
    | refine sP (opp_as (v := .osl _ _ _ _ _) rfl rfl) rfl rfl ?_
  refine sP (opp_as (v := .err _) rfl rfl) rfl rfl ?_
  refine awp_seq ?_
  refine awp_seq ?_
  refine awp_region rfl ?_
  first
    | refine sP (opp_loadP rfl rfl rfl rfl bi rfl ty3) rfl rfl ?_
    | refine sP (opp_loadF rfl rfl ty3) rfl rfl ?_
  refine sR (opr_call rfl rfl ent87 rfl (c87 _) (AViews.refl _ rfl)) rfl rfl rfl ?_ -- d=14 t=4
  refine sP (opp_not rfl rfl) rfl rfl ?_
  refine sP (opp_mv (v := .bool _) rfl rfl) rfl rfl ?_
  first
    | refine sG _ rfl rfl rfl rfl (fun hg => (And.intro gi (True.intro))) (fun hg => opp_loadP rfl rfl rfl rfl bi rfl ty23) ?_
    | refine sG _ rfl rfl rfl rfl (fun hg => (And.intro gi (True.intro))) (fun hg => opp_loadF rfl rfl ty23) ?_
  refine sGR _ rfl rfl rfl rfl (fun hg => (And.intro gi (And.intro gi (True.intro)))) (fun hg => (opr_call rfl rfl ent88 rfl (c88 _) (AViews.refl _ rfl))) ?_
  refine sG _ rfl rfl rfl rfl (fun hg => (And.intro gi (True.intro))) (fun hg => opp_not rfl rfl) ?_
  refine sPick rfl rfl rfl rfl (by exact True.intro) rfl rfl (fun hg => gi) (fun hg => gi) ?_
  refine sP (opp_mv (v := .bool _) rfl rfl) rfl rfl ?_
  first
    | refine sG _ rfl rfl rfl rfl (fun hg => (And.intro gi (True.intro))) (fun hg => opp_loadP rfl rfl rfl rfl bi rfl ty3) ?_
    | refine sG _ rfl rfl rfl rfl (fun hg => (And.intro gi (True.intro))) (fun hg => opp_loadF rfl rfl ty3) ?_
  refine sGR _ rfl rfl rfl rfl (fun hg => (And.intro gi (And.intro gi (True.intro)))) (fun hg => (opr_call rfl rfl ent89 rfl (c89 _) (AViews.refl _ rfl))) ?_
  refine sG _ rfl rfl rfl rfl (fun hg => (And.intro gi (True.intro))) (fun hg => opp_not rfl rfl) ?_
  refine sPick rfl rfl rfl rfl (by exact True.intro) rfl rfl (fun hg => gi) (fun hg => gi) ?_
  refine awp_cond _ rfl (fun hc3 => ?_) (fun hc3 => ?_)
  · (try simp only [cmpI, errD_nil, Bool.not_eq_true', Bool.not_eq_false', decide_eq_true_eq, decide_eq_false_iff_not] at hc3); have ht25 := hc3
    refine awp_seq ?_
    refine awp_draw hmix rfl (by kernel_rfl) ?_
    refine dP (fun _ => false) (opp_loadF rfl (ev_glob hG2) ty29) rfl rfl ?_
    first
      | refine dP (fun _ => false) (opp_as (v := .sl _ _ _ _) rfl rfl) rfl rfl ?_
      | refine dP (fun _ => false) (opp_as (v := .osl _ _ _ _ _) rfl rfl) rfl rfl ?_
    refine dP (fun _ => false) (opp_as (v := .err _) rfl rfl) rfl rfl ?_
    refine And.intro (by kernel_rfl) ?_
    refine awp_ret ?_
    repeat (first | refine athen_ret ?_ | refine ain_ret ?_)
    first
      | refine apost_ret (aend (l := [.sl _ _ _ _, .err _]) (.tmp (.tmp .nil)) (fun h => by cases h) (.cons (.noN rfl rfl) (.cons (.noN rfl rfl) .nil)) ⟨Wk.v ?_, rfl, rfl⟩)
      | refine apost_ret (aends (l := [.sl _ _ _ _, .err _]) (.tmp (.tmp .nil)) (fun h => by cases h) (.cons shut (fun h => by cases h) (.cons shut (fun h => by cases h) .nil)) rfl ⟨Wk.v ?_, rfl, rfl⟩)
      | refine apost_ret (aend (l := [.osl _ _ _ _ _, .err _]) (.tmp (.tmp .nil)) (fun h => by cases h) (.cons (.noN rfl rfl) (.cons (.noN rfl rfl) .nil)) ⟨Wk.v ?_, rfl, rfl⟩)
      | refine apost_ret (aends (l := [.osl _ _ _ _ _, .err _]) (.tmp (.tmp .nil)) (fun h => by cases h) (.cons shut (fun h => by cases h) (.cons shut (fun h => by cases h) .nil)) rfl ⟨Wk.v ?_, rfl, rfl⟩)
    have h : (Sp.goodPart p && Sp.goodXid x && Sp.goodStage st) = false := by
      cases h1 : Sp.goodPart p <;> cases h2 : Sp.goodXid x <;> cases h3 : Sp.goodStage st <;> simp [h1, h2, h3] at hc3 ⊢
    rw [show Sp.cut p x st im = ([], 12) by simp only [Sp.cut, h, if_true]]; show Wk _ (.tup [.sl 10 true 0 _, .err (.code 12)]); (repeat' (first | exact Wk.refl | exact Wk.sl0 | apply Wk.tup | apply Wk.agg | apply WkL.cons | exact WkL.nil | refine Wk.sl (fun _ _ => ?_)))
  · (try simp only [cmpI, errD_nil, Bool.not_eq_true', Bool.not_eq_false', decide_eq_true_eq, decide_eq_false_iff_not] at hc3); have ht25 := hc3
    refine awp_skip ?_
    refine awp_seq ?_
    refine awp_seq ?_
    refine awp_region rfl ?_
    first
      | refine sP (opp_mv (v := .sl _ _ _ _) rfl rfl) rfl rfl ?_
      | refine sP (opp_mv (v := .osl _ _ _ _ _) rfl rfl) rfl rfl ?_
    first
      | refine sP (opp_lenSl rfl rfl un36) rfl rfl ?_
      | refine sP (opp_lenOsl rfl rfl un36) rfl rfl ?_
    refine sR (opr_call rfl rfl ent90 rfl (c90 _ _ _) (AViews.refl _ rfl)) rfl rfl rfl ?_ -- d=29 t=4
    refine sP (opp_not rfl rfl) rfl rfl ?_
    refine awp_cond _ rfl (fun hc6 => ?_) (fun hc6 => ?_)
    · (try simp only [cmpI, errD_nil, Bool.not_eq_true', Bool.not_eq_false', decide_eq_true_eq, decide_eq_false_iff_not] at hc6); have ht30 := hc6
      refine awp_seq ?_
      refine awp_draw hmix rfl (by kernel_rfl) ?_
      refine dP (fun _ => false) (opp_loadF rfl (ev_glob hG6) ty29) rfl rfl ?_
      first
        | refine dP (fun _ => false) (opp_as (v := .sl _ _ _ _) rfl rfl) rfl rfl ?_
        | refine dP (fun _ => false) (opp_as (v := .osl _ _ _ _ _) rfl rfl) rfl rfl ?_
      refine dP (fun _ => false) (opp_as (v := .err _) rfl rfl) rfl rfl ?_
      refine And.intro (by kernel_rfl) ?_
      refine awp_ret ?_
      repeat (first | refine athen_ret ?_ | refine ain_ret ?_)
      first
        | refine apost_ret (aend (l := [.sl _ _ _ _, .err _]) (.tmp (.tmp .nil)) (fun h => by cases h) (.cons (.noN rfl rfl) (.cons (.noN rfl rfl) .nil)) ⟨Wk.v ?_, rfl, rfl⟩)
        | refine apost_ret (aends (l := [.sl _ _ _ _, .err _]) (.tmp (.tmp .nil)) (fun h => by cases h) (.cons shut (fun h => by cases h) (.cons shut (fun h => by cases h) .nil)) rfl ⟨Wk.v ?_, rfl, rfl⟩)
        | refine apost_ret (aend (l := [.osl _ _ _ _ _, .err _]) (.tmp (.tmp .nil)) (fun h => by cases h) (.cons (.noN rfl rfl) (.cons (.noN rfl rfl) .nil)) ⟨Wk.v ?_, rfl, rfl⟩)
        | refine apost_ret (aends (l := [.osl _ _ _ _ _, .err _]) (.tmp (.tmp .nil)) (fun h => by cases h) (.cons shut (fun h => by cases h) (.cons shut (fun h => by cases h) .nil)) rfl ⟨Wk.v ?_, rfl, rfl⟩)
      have hgd : (Sp.goodPart p && Sp.goodXid x && Sp.goodStage st) = true := by
        cases h1 : Sp.goodPart p <;> cases h2 : Sp.goodXid x <;> cases h3 : Sp.goodStage st <;> simp [h1, h2, h3] at hc3 ⊢
      rw [show Sp.cut p x st im = ([], 11) by simp [Sp.cut, hgd, hc6]]; show Wk _ (.tup [.sl 10 true 0 _, .err (.code 11)]); (repeat' (first | exact Wk.refl | exact Wk.sl0 | apply Wk.tup | apply Wk.agg | apply WkL.cons | exact WkL.nil | refine Wk.sl (fun _ _ => ?_)))
    · (try simp only [cmpI, errD_nil, Bool.not_eq_true', Bool.not_eq_false', decide_eq_true_eq, decide_eq_false_iff_not] at hc6); have ht30 := hc6
      refine awp_skip ?_
      refine awp_seq ?_
      have hsz : 1 ≤ im.length ∧ im.length ≤ 4096 := by
        have : Sp.within im.length 1 4096 = true := by simpa using hc6
        simp only [Sp.within, decide_eq_true_eq] at this; omega
      have htot : Sp.total im ≤ 32 := by unfold Sp.total; omega
      have htot1 : 1 ≤ Sp.total im := by unfold Sp.total; omega
      have hgd : (Sp.goodPart p && Sp.goodXid x && Sp.goodStage st) = true := by
        cases h1 : Sp.goodPart p <;> cases h2 : Sp.goodXid x <;> cases h3 : Sp.goodStage st <;> simp [h1, h2, h3] at hc3 ⊢
      refine awp_region rfl ?_
      refine sR (opr_alloc (n := 10) rfl z48) rfl rfl rfl ?_
      refine awp_seq ?_
      refine awp_seq ?_
      refine awp_region rfl ?_
      first
        | refine sP (opp_mv (v := .sl _ _ _ _) rfl rfl) rfl rfl ?_
        | refine sP (opp_mv (v := .osl _ _ _ _ _) rfl rfl) rfl rfl ?_
      refine sR (opr_call rfl rfl ent91 rfl (c91 _ _ _ _ (by first | omega | (simp_all; done))) (AViews.refl _ rfl)) rfl rfl rfl ?_ -- d=33 t=160
      refine awp_block ?_
      refine awp_rangeFunc (x := fun k => .sl 1 (decide (im.length ≤ 128 * k)) (min 128 (im.length - 128 * k)) (fun j => bAt im (128 * k + j))) (total := Sp.total im) rfl ent124 (chunk_seq b im.length (bAt im) (by omega) (by omega)) rfl rfl rfl (Nat.le_of_ble_eq_true rfl) (Nat.le_of_ble_eq_true rfl) (by kernel_rfl) (fun pre => [(10, cond pre.isEmpty (some (.sl 10 true 0 (fun _ => .top))) (some (.osl 1044 10 0 pre.length pre.length))), (1044, cond pre.isEmpty none (some (.arr 10 pre.length (fun j => noteAV (Sp.cutNote p x st im (pre.getD j 0) j 0)))))]) [1044] (by
        refine imp_over (L := []) [] rfl rfl (by kernel_rfl) True.intro ?_
        refine And.intro (And.intro rfl (And.intro rfl (Exists.intro _ (And.intro rfl wkc)))) ?_
        exact True.intro
        ) (fun C' hV' hN' hM' l m pre k hlen => ?_) ?_
      obtain ⟨_, _, w0', G0', σ0', _, own0'⟩ := C'; dsimp only at hV' hN' hM'; subst hV'; subst hN'; subst hM'; rcases pre with _ | ⟨p0, rest⟩
      · skip
        refine awpr_block ?_
        refine awpr_region rfl rfl ?_
        first
          | refine sP (opp_loadP rfl rfl rfl rfl bi rfl ty48) rfl rfl ?_
          | refine sP (opp_loadF rfl rfl ty48) rfl rfl ?_
        first
          | refine sP (opp_loadP rfl rfl rfl rfl bi rfl ty3) rfl rfl ?_
          | refine sP (opp_loadF rfl rfl ty3) rfl rfl ?_
        first
          | refine sP (opp_loadP rfl rfl rfl rfl bi rfl ty23) rfl rfl ?_
          | refine sP (opp_loadF rfl rfl ty23) rfl rfl ?_
        first
          | refine sP (opp_loadP rfl rfl rfl rfl bi rfl ty3) rfl rfl ?_
          | refine sP (opp_loadF rfl rfl ty3) rfl rfl ?_
        first
          | refine sP (opp_loadP rfl rfl rfl rfl bi rfl ty48) rfl rfl ?_
          | refine sP (opp_loadF rfl rfl ty48) rfl rfl ?_
        first
          | refine sP (opp_lenSl rfl rfl un48) rfl rfl ?_
          | refine sP (opp_lenOsl rfl rfl un48) rfl rfl ?_
        first
          | refine sP (opp_mv (v := .sl _ _ _ _) rfl rfl) rfl rfl ?_
          | refine sP (opp_mv (v := .osl _ _ _ _ _) rfl rfl) rfl rfl ?_
        refine sP (opp_bytesStr rfl rfl (Sp.pieceOf im k) (Sp.pieceOf_length im k) (fun j hj => by rw [Sp.pieceOf_get im k j hj]; rfl) un36 unu8 un9) rfl rfl ?_
        refine sP (opp_build rfl z26 bld26 rfl [.int _ _, .int _ _, .agg _, .int _ _, .int _ _, .int .i64 0, .int .u32 0, .str _] rfl) rfl rfl ?_
        refine sR (opr_buildSlice (n := 44) (g := fun j => if j = 0 then .agg _ else .agg [.int .i64 0, .int .i64 0, .agg [.int .i64 0, .int .i64 0, .int .i64 0], .int .i64 0, .int .i64 0, .int .i64 0, .int .u32 0, .str []]) rfl eb48 z26 (by decide) rfl rfl) rfl rfl rfl ?_
        first
          | refine sR (opr_append (d := 45) rfl rfl rfl (by omega) (.osl0 rfl (by omega)) eb48 z26 (by omega) (by omega)) rfl rfl rfl ?_
          | refine sR (opr_append (d := 45) rfl rfl rfl (by omega) .sl eb48 z26 (by omega) (by omega)) rfl rfl rfl ?_
          | refine sR (opr_append (d := 45) rfl rfl rfl (by omega) (.osl rfl (by omega) (fun _ _ => rfl)) eb48 z26 (by omega) (by omega)) rfl rfl rfl ?_
          | refine sR (opr_appendNil (d := 45) rfl rfl (.osl0 rfl (by omega)) eb48 z26 (by omega) (by omega) (by omega)) rfl rfl rfl ?_
          | refine sR (opr_appendNil (d := 45) rfl rfl .sl eb48 z26 (by omega) (by omega) (by omega)) rfl rfl rfl ?_
          | refine sR (opr_appendNil (d := 45) rfl rfl (.osl rfl (by omega) (fun _ _ => rfl)) eb48 z26 (by omega) (by omega) (by omega)) rfl rfl rfl ?_
        first
          | refine sR0 (opr_store (v := .sl _ _ _ _) (trn := (.sl _ _ _ _)) rfl rfl rfl rfl bi rfl rfl rfl rfl fr2 ty48 (fun _ _ h => h)) rfl rfl rfl ?_
          | refine sR0 (opr_store (v := .osl _ _ _ _ _) (trn := (.osl _ _ _ _ _)) rfl rfl rfl rfl bi rfl rfl rfl rfl fr2 ty48 (fun _ _ h => h)) rfl rfl rfl ?_
        refine And.intro rfl (Exists.intro [] (imp_overH [(1044, 45)] rfl (by kernel_rfl) ?_))
        refine And.intro (And.intro rfl (And.intro rfl (Exists.intro _ (And.intro rfl wkc)))) ?_
        refine And.intro (And.intro rfl (And.intro rfl (Exists.intro _ (And.intro rfl (by exact WkC.arr (fun j hj => by have h0 : j = 0 := (by simpa using hj); subst h0; rfl)))))) ?_
        exact True.intro
      · skip
        refine awpr_block ?_
        refine awpr_region rfl rfl ?_
        first
          | refine sP (opp_loadP rfl rfl rfl rfl bi rfl ty48) rfl rfl ?_
          | refine sP (opp_loadF rfl rfl ty48) rfl rfl ?_
        first
          | refine sP (opp_loadP rfl rfl rfl rfl bi rfl ty3) rfl rfl ?_
          | refine sP (opp_loadF rfl rfl ty3) rfl rfl ?_
        first
          | refine sP (opp_loadP rfl rfl rfl rfl bi rfl ty23) rfl rfl ?_
          | refine sP (opp_loadF rfl rfl ty23) rfl rfl ?_
        first
          | refine sP (opp_loadP rfl rfl rfl rfl bi rfl ty3) rfl rfl ?_
          | refine sP (opp_loadF rfl rfl ty3) rfl rfl ?_
        first
          | refine sP (opp_loadP rfl rfl rfl rfl bi rfl ty48) rfl rfl ?_
          | refine sP (opp_loadF rfl rfl ty48) rfl rfl ?_
        first
          | refine sP (opp_lenSl rfl rfl un48) rfl rfl ?_
          | refine sP (opp_lenOsl rfl rfl un48) rfl rfl ?_
        first
          | refine sP (opp_mv (v := .sl _ _ _ _) rfl rfl) rfl rfl ?_
          | refine sP (opp_mv (v := .osl _ _ _ _ _) rfl rfl) rfl rfl ?_
        refine sP (opp_bytesStr rfl rfl (Sp.pieceOf im k) (Sp.pieceOf_length im k) (fun j hj => by rw [Sp.pieceOf_get im k j hj]; rfl) un36 unu8 un9) rfl rfl ?_
        refine sP (opp_build rfl z26 bld26 rfl [.int _ _, .int _ _, .agg _, .int _ _, .int _ _, .int .i64 0, .int .u32 0, .str _] rfl) rfl rfl ?_
        refine sR (opr_buildSlice (n := 44) (g := fun j => if j = 0 then .agg _ else .agg [.int .i64 0, .int .i64 0, .agg [.int .i64 0, .int .i64 0, .int .i64 0], .int .i64 0, .int .i64 0, .int .i64 0, .int .u32 0, .str []]) rfl eb48 z26 (by decide) rfl rfl) rfl rfl rfl ?_
        first
          | refine sR (opr_append (d := 45) rfl rfl rfl (by omega) (.osl0 rfl (by omega)) eb48 z26 (by omega) (by omega)) rfl rfl rfl ?_
          | refine sR (opr_append (d := 45) rfl rfl rfl (by omega) .sl eb48 z26 (by omega) (by omega)) rfl rfl rfl ?_
          | refine sR (opr_append (d := 45) rfl rfl rfl (by omega) (.osl rfl (by omega) (fun _ _ => rfl)) eb48 z26 (by omega) (by omega)) rfl rfl rfl ?_
          | refine sR (opr_appendNil (d := 45) rfl rfl (.osl0 rfl (by omega)) eb48 z26 (by omega) (by omega) (by omega)) rfl rfl rfl ?_
          | refine sR (opr_appendNil (d := 45) rfl rfl .sl eb48 z26 (by omega) (by omega) (by omega)) rfl rfl rfl ?_
          | refine sR (opr_appendNil (d := 45) rfl rfl (.osl rfl (by omega) (fun _ _ => rfl)) eb48 z26 (by omega) (by omega) (by omega)) rfl rfl rfl ?_
        first
          | refine sR0 (opr_store (v := .sl _ _ _ _) (trn := (.sl _ _ _ _)) rfl rfl rfl rfl bi rfl rfl rfl rfl fr2 ty48 (fun _ _ h => h)) rfl rfl rfl ?_
          | refine sR0 (opr_store (v := .osl _ _ _ _ _) (trn := (.osl _ _ _ _ _)) rfl rfl rfl rfl bi rfl rfl rfl rfl fr2 ty48 (fun _ _ h => h)) rfl rfl rfl ?_
        refine And.intro rfl (Exists.intro [] (imp_overH [(1044, 45)] rfl (by kernel_rfl) ?_))
        refine And.intro (And.intro rfl (And.intro rfl (Exists.intro _ (And.intro rfl (by exact WkC.of (by show AV.osl 45 10 0 _ _ = AV.osl 45 10 0 _ _; simp)))))) ?_
        refine And.intro (And.intro rfl (And.intro rfl (Exists.intro _ (And.intro rfl (by show WkC (AV.arr 10 _ _) (AV.arr 10 _ _); rw [List.length_append]; exact WkC.arr (fun j hj => Sp.cut_append p x st im (p0 :: rest) k j _ rfl _ hj)))))) ?_
        exact True.intro
      · obtain ⟨p0, rest, hr⟩ : ∃ p0 rest, List.range (Sp.total im) = p0 :: rest := by
          cases h : List.range (Sp.total im) with
          | nil => have := congrArg List.length h; simp at this; omega
          | cons p0 rest => exact ⟨p0, rest, rfl⟩
        have hlen : (p0 :: rest).length = Sp.total im := by rw [← hr]; simp
        rw [hr]
        refine awp_seq ?_
        refine awp_seq ?_
        refine awp_region rfl ?_
        first
          | refine sP (opp_loadP rfl rfl rfl rfl bi rfl ty48) rfl rfl ?_
          | refine sP (opp_loadF rfl rfl ty48) rfl rfl ?_
        first
          | refine sP (opp_lenSl rfl rfl un48) rfl rfl ?_
          | refine sP (opp_lenOsl rfl rfl un48) rfl rfl ?_
        refine sP (opp_mv (v := .int _ _) rfl rfl) rfl rfl ?_
        refine awp_block ?_
        refine awp_loopK (ι := Nat) (fun i => i ≤ (p0 :: rest).length) (fun i => [(12, .top), (48, .int .i64 i), (49, .top), (50, .top), (51, .top), (52, .top), (53, .top), (54, .top), (55, .top), (56, .top), (57, .top)]) (fun i => [(1044, some (.arr 10 (p0 :: rest).length (fun j => noteAV (Sp.cutNote p x st im j j (if j < i then Sp.total im else 0)))))]) [] (fun i => (p0 :: rest).length - i) (0) (Nat.zero_le _) (by
          refine imp_over [] rfl rfl (by kernel_rfl) ?_ ?_
          · refine And.intro wkv ?_
            refine And.intro wkv ?_
            refine And.intro wkv ?_
            refine And.intro wkv ?_
            refine And.intro wkv ?_
            refine And.intro wkv ?_
            refine And.intro wkv ?_
            refine And.intro wkv ?_
            refine And.intro wkv ?_
            refine And.intro wkv ?_
            refine And.intro wkv ?_
            exact True.intro
          · refine And.intro (And.intro rfl (And.intro rfl (Exists.intro _ (And.intro rfl (by exact WkC.arr (fun j hj => by rw [← hr, Sp.range_get _ _ (by rw [← hlen]; exact hj)]; simp)))))) ?_
            exact True.intro
          ) ?_
        intro i hi1
        refine awp_seq ?_
        refine awp_region rfl ?_
        refine sP (opp_cmp rfl rfl rfl rfl) rfl rfl ?_
        refine awp_seq ?_
        refine awp_cond _ rfl (fun hc14 => ?_) (fun hc14 => ?_)
        · (try simp only [cmpI, errD_nil, Bool.not_eq_true', Bool.not_eq_false', decide_eq_true_eq, decide_eq_false_iff_not] at hc14); have ht49 := hc14
          refine awp_skip ?_
          refine awp_seq ?_
          refine awp_block ?_
          refine awp_seq ?_
          refine awp_region rfl ?_
          refine sP (opp_mv (v := .int _ _) rfl rfl) rfl rfl ?_
          refine sP (opp_as (v := .int _ _) rfl rfl) rfl rfl ?_
          refine awp_region rfl ?_
          first
            | refine sP (opp_loadP rfl rfl rfl rfl bi rfl ty48) rfl rfl ?_
            | refine sP (opp_loadF rfl rfl ty48) rfl rfl ?_
          refine sP (opp_mv (v := .int _ _) rfl rfl) rfl rfl ?_
          first
            | refine sP (opp_loadP rfl rfl rfl rfl bi rfl ty48) rfl rfl ?_
            | refine sP (opp_loadF rfl rfl ty48) rfl rfl ?_
          first
            | refine sP (opp_lenSl rfl rfl un48) rfl rfl ?_
            | refine sP (opp_lenOsl rfl rfl un48) rfl rfl ?_
          first
            | refine sP (opp_indexSl rfl rfl rfl el48 (by omega) (by omega)) rfl rfl ?_
            | refine sP (opp_indexOsl0 rfl rfl rfl el48 (by omega) (by omega)) rfl rfl ?_
            | refine sP (opp_indexOsl rfl rfl rfl el48 (by omega) (by omega)) rfl rfl ?_
          first
            | refine sP (opp_fieldP rfl rfl fld26_5 rfl) rfl rfl ?_
            | refine sP (opp_fieldF rfl rfl rfl fld26_5 rfl rfl) rfl rfl ?_
          first
            | refine sR0 (opr_storeA (v := .int _ _) rfl rfl rfl (by omega) (by first | rfl | omega) rfl rfl rfl rfl ty3) rfl rfl rfl ?_
            | refine sR0 (opr_storeAF (v := .int _ _) (w := .agg [_, _, _, _, _, .int _ _, _, _]) rfl rfl rfl (by omega) rfl rfl rfl rfl rfl rfl rfl rfl ty3) rfl rfl rfl ?_
          refine awp_region rfl ?_
          first
            | refine sP (opp_arith rfl rfl rfl (.inl ⟨rfl, w64 (by omega)⟩)) rfl rfl ?_
            | refine sP (opp_arith rfl rfl rfl (.inl ⟨rfl, rfl⟩)) rfl rfl ?_
          refine sP (opp_mv (v := .int _ _) rfl rfl) rfl rfl ?_
          refine Exists.intro (i + 1) (And.intro (And.intro (by omega) (by omega)) (by
            refine imp_over [] rfl rfl (by kernel_rfl) ?_ ?_
            · refine And.intro wkv ?_
              refine And.intro wkv ?_
              refine And.intro wkv ?_
              refine And.intro wkv ?_
              refine And.intro wkv ?_
              refine And.intro wkv ?_
              refine And.intro wkv ?_
              refine And.intro wkv ?_
              refine And.intro wkv ?_
              refine And.intro wkv ?_
              refine And.intro wkv ?_
              exact True.intro
            · refine And.intro (And.intro rfl (And.intro rfl (Exists.intro _ (And.intro rfl (by exact WkC.arr (fun j hj => Sp.cut_tot p x st im j i _ _ (fun h => by subst h; rw [hlen]; simp [noteAV, Sp.cutNote]))))))) ?_
              exact True.intro
            ))
        · (try simp only [cmpI, errD_nil, Bool.not_eq_true', Bool.not_eq_false', decide_eq_true_eq, decide_eq_false_iff_not] at hc14); have ht49 := hc14
          refine awp_exit ?_
          refine awp_seq ?_
          refine awp_region rfl ?_
          first
            | refine sP (opp_loadP rfl rfl rfl rfl bi rfl ty48) rfl rfl ?_
            | refine sP (opp_loadF rfl rfl ty48) rfl rfl ?_
          first
            | refine sP (opp_as (v := .sl _ _ _ _) rfl rfl) rfl rfl ?_
            | refine sP (opp_as (v := .osl _ _ _ _ _) rfl rfl) rfl rfl ?_
          refine sP (opp_as (v := .err _) rfl rfl) rfl rfl ?_
          refine awp_ret ?_
          repeat (first | refine athen_ret ?_ | refine ain_ret ?_)
          first
            | refine apost_ret (aend (l := [.sl _ _ _ _, .err _]) (.tmp (.tmp .nil)) (fun h => by cases h) (.cons (.noN rfl rfl) (.cons (.noN rfl rfl) .nil)) ⟨Wk.v ?_, rfl, rfl⟩)
            | refine apost_ret (aends (l := [.sl _ _ _ _, .err _]) (.tmp (.tmp .nil)) (fun h => by cases h) (.cons shut (fun h => by cases h) (.cons shut (fun h => by cases h) .nil)) rfl ⟨Wk.v ?_, rfl, rfl⟩)
            | refine apost_ret (aend (l := [.osl _ _ _ _ _, .err _]) (.tmp (.tmp .nil)) (fun h => by cases h) (.cons (.noN rfl rfl) (.cons (.noN rfl rfl) .nil)) ⟨Wk.v ?_, rfl, rfl⟩)
            | refine apost_ret (aends (l := [.osl _ _ _ _ _, .err _]) (.tmp (.tmp .nil)) (fun h => by cases h) (.cons shut (fun h => by cases h) (.cons shut (fun h => by cases h) .nil)) rfl ⟨Wk.v ?_, rfl, rfl⟩)
          have hi2 : i = Sp.total im := by omega
          have hne : Sp.notes p x st im ≠ [] := fun h => by have := congrArg List.length h; rw [Sp.notes_length] at this; simp at this; omega
          rw [show Sp.cut p x st im = (Sp.notes p x st im, 0) by simp [Sp.cut, hgd, hc6], hlen]; simp only [decide_eq_false hne, Sp.notes_length]; (repeat' (first | exact Wk.refl | exact Wk.sl0 | apply Wk.tup | apply Wk.agg | apply WkL.cons | exact WkL.nil | refine Wk.sl (fun _ _ => ?_)))
          rename_i j hj; rw [Sp.notes_get _ _ _ _ _ hj, if_pos (by omega)]
end
end Go.Proofs.YtgaihhimkodmmaaDoor
/- The laws of layer 20: what they begin with (walks over this dump). -/
namespace Go.Proofs.YtgaihhimkodmmaaDoor
attribute [local irreducible] Tryd.prog
open Go.Fy
set_option linter.unusedSimpArgs false
set_option linter.unusedVariables false
section
variable {ea : Nat → Addr} {cds : List Nat} {gl : Nat → Option AV}
theorem bAt_rep (n j : Nat) : bAt (List.replicate n 0) j = .int .u8 0 := by
  simp only [bAt, List.getD_eq_getElem?_getD, List.getElem?_replicate]; split <;> rfl
theorem c17 : APure (V ea cds gl) 17 [] true (noteAV Sp.kN) := by
  refine acalls_of_body (N := 3) Tryd.func17 rfl rfl (Nat.le_of_ble_eq_true rfl) fun C hV hN hM hO => ?_
  obtain ⟨_, _, w0, G0, σ0, _, own0⟩ := C; dsimp only at hV hN hM hO; subst hV; subst hN; subst hM
  refine awp_seq ?_
  refine awp_region rfl ?_
  refine sR (opr_alloc (n := 0) rfl z26) rfl rfl rfl ?_
  refine awp_seq ?_
  refine awp_region rfl ?_
  refine sP (opp_build rfl z23 bld23 rfl [.int _ _, .int _ _, .int _ _] rfl) rfl rfl ?_
  refine sP (opp_build rfl z26 bld26 rfl [.int _ _, .int _ _, .agg _, .int .i64 0, .int .i64 0, .int .i64 0, .int .u32 0, .str []] rfl) rfl rfl ?_
  refine sR0 (opr_store (v := .agg _) (trn := (.agg _)) rfl rfl rfl rfl bi rfl rfl rfl rfl fr2 ty26 (fun _ _ h => h)) rfl rfl rfl ?_
  refine awp_ret ?_
  repeat (first | refine athen_ret ?_ | refine ain_ret ?_)
  first
    | refine apost_ret (aend1 (r0 := .agg _) (.cell rfl rfl rfl (by exact True.intro) rfl ty26 .nil) (.noN rfl rfl) ⟨Wk.v ?_, rfl, rfl⟩)
    | refine apost_ret (aend1s (r0 := .agg _) (.cell rfl rfl rfl (by exact True.intro) rfl ty26 .nil) shut rfl ⟨Wk.v ?_, rfl, rfl⟩)
  exact .refl
set_option maxRecDepth 100000 in
theorem c13 (hG0 : gl 0 = some (.err (.code 1))) (hG1 : gl 1 = some (.err (.code 5))) (hG9 : gl 9 = some (.err (.code 6)))
    (hG4 : gl 4 = some (.err (.code 7))) (hG8 : gl 8 = some (.err (.code 4))) (hG2 : gl 2 = some (.err (.code 12))) (hG6 : gl 6 = some (.err (.code 11))) :
    APure (V ea cds gl) 13 [] false (.bool true) := by
  refine acalls_of_body (N := 60) Tryd.func13 rfl rfl (Nat.le_of_ble_eq_true rfl) fun C hV hN hM hO => ?_
  obtain ⟨_, _, w0, G0, σ0, _, own0⟩ := C; dsimp only at hV hN hM hO; subst hV; subst hN; subst hM
  refine awp_seq ?_
  refine awp_region rfl ?_
  refine sP (opp_as (v := .bool _) rfl rfl) rfl rfl ?_
  refine awp_seq ?_
  refine awp_region rfl ?_
  refine sR (opr_call rfl rfl ent17 rfl (c17) (AViews.refl _ rfl)) rfl rfl rfl ?_ -- d=8 t=26
  refine sR (opr_call rfl rfl ent15 rfl (c15 Sp.kN (by decide) hG4 hG8) (AViews.refl _ rfl)) rfl rfl rfl ?_ -- d=9 t=32
  refine sP (opp_mv (v := .tup _) rfl rfl) rfl rfl ?_
  refine sP (opp_extract rfl rfl rfl) rfl rfl ?_
  refine sP (opp_extract rfl rfl rfl) rfl rfl ?_
  refine sP (opp_as (v := .str _) rfl rfl) rfl rfl ?_
  refine sP (opp_as (v := .err _) rfl rfl) rfl rfl ?_
  refine awp_seq ?_
  rw [Sp.k_put]
  refine awp_region rfl ?_
  refine sP (opp_mv (v := .str _) rfl rfl) rfl rfl ?_
  refine sR (opr_call rfl rfl ent14 rfl (c14 (Sp.crcSeal Sp.kB) (by rw [Sp.k_len]; decide) hG0 hG1 hG9 hG4 hG8) (AViews.refl _ rfl)) rfl rfl rfl ?_ -- d=14 t=30
  refine sP (opp_mv (v := .tup _) rfl rfl) rfl rfl ?_
  refine sP (opp_extract rfl rfl rfl) rfl rfl ?_
  refine sP (opp_extract rfl rfl rfl) rfl rfl ?_
  refine sR (opr_alloc (n := 3) rfl z26) rfl rfl rfl ?_
  refine sR0 (opr_store (v := .agg _) (trn := (.agg _)) rfl rfl rfl rfl bi rfl rfl rfl rfl fr2 ty26 (fun _ _ h => h)) rfl rfl rfl ?_
  refine sP (opp_as (v := .err _) rfl rfl) rfl rfl ?_
  refine awp_seq ?_
  rw [Sp.k_get]
  refine awp_draw hmix rfl (by kernel_rfl) ?_
  refine dR (fun _ => false) (opr_call rfl rfl ent17 rfl (c17) (AViews.refl _ rfl)) rfl rfl rfl ?_ -- d=18 t=26
  refine dP (fun _ => false) (opp_field rfl rfl rfl fld26_2 rfl) rfl rfl ?_
  refine dR (fun _ => false) (opr_make (n := 20) rfl rfl rfl eb36 z5 (by omega) (by omega) (by omega) (by omega)) rfl rfl rfl ?_
  refine dR (fun n => !([] : List Nat).contains n) (opr_call rfl rfl ent40 rfl (c40 2 ⟨1, 3, 2⟩ 1 false (List.replicate 300 0) hG2 hG6) (.cons (aview_noN rfl) (.cons (aview_noN rfl) (.cons (aview_noN rfl) (.cons (aview_osl rfl (fun j h => by cases h) (by decide) _ (fun j hj => bAt_rep 300 j)) .nil))))) rfl rfl rfl ?_ -- d=21 t=49
  refine dP (fun _ => false) (opp_mv (v := .tup _) rfl rfl) rfl rfl ?_
  refine dP (fun _ => false) (opp_extract rfl rfl rfl) rfl rfl ?_
  refine dP (fun _ => false) (opp_extract rfl rfl rfl) rfl rfl ?_
  first
    | refine dP (fun _ => false) (opp_as (v := .sl _ _ _ _) rfl rfl) rfl rfl ?_
    | refine dP (fun _ => false) (opp_as (v := .osl _ _ _ _ _) rfl rfl) rfl rfl ?_
  refine dP (fun _ => false) (opp_as (v := .err _) rfl rfl) rfl rfl ?_
  refine And.intro (by kernel_rfl) ?_
  refine awp_seq ?_
  refine awp_seq ?_
  rw [Sp.k_cut]
  refine awp_draw hmix rfl (by kernel_rfl) ?_
  refine dP (fun _ => false) (opp_mv (v := .err _) rfl rfl) rfl rfl ?_
  refine dP (fun _ => false) (opp_errNil rfl rfl rfl un29 (.inr ⟨rfl, rfl⟩)) rfl rfl ?_
  refine dP (fun _ => false) (opp_mv (v := .bool _) rfl rfl) rfl rfl ?_
  refine dG _ (fun _ => false) rfl rfl rfl rfl (fun hg => (And.intro gi (True.intro))) (fun hg => opp_mv (v := .err _) rfl rfl) ?_
  refine dG _ (fun _ => false) rfl rfl rfl rfl (fun hg => (And.intro gi (And.intro gi (True.intro)))) (fun hg => opp_errNil rfl rfl rfl un29 (.inr ⟨rfl, rfl⟩)) ?_
  refine dPick (fun _ => false) rfl rfl rfl rfl (by exact True.intro) rfl rfl (fun hg => gi) (fun hg => gi) ?_
  refine dP (fun _ => false) (opp_mv (v := .bool _) rfl rfl) rfl rfl ?_
  refine dG _ (fun _ => false) rfl rfl rfl rfl (fun hg => (And.intro gi (True.intro))) (fun hg => opp_mv (v := .err _) rfl rfl) ?_
  refine dG _ (fun _ => false) rfl rfl rfl rfl (fun hg => (And.intro gi (And.intro gi (True.intro)))) (fun hg => opp_errNil rfl rfl rfl un29 (.inr ⟨rfl, rfl⟩)) ?_
  refine dPick (fun _ => false) rfl rfl rfl rfl (by exact True.intro) rfl rfl (fun hg => gi) (fun hg => gi) ?_
  refine dP (fun _ => false) (opp_mv (v := .bool _) rfl rfl) rfl rfl ?_
  first
    | refine dG _ (fun n => Nat.beq n 3) rfl rfl rfl rfl (fun hg => (And.intro gi (True.intro))) (fun hg => opp_loadP rfl rfl rfl rfl bi rfl ty26) ?_
    | refine dG _ (fun n => Nat.beq n 3) rfl rfl rfl rfl (fun hg => (And.intro gi (True.intro))) (fun hg => opp_loadF rfl rfl ty26) ?_
  refine dGR _ (fun n => !([] : List Nat).contains n) rfl rfl rfl rfl (fun hg => (And.intro gi (True.intro))) (fun hg => (opr_call rfl rfl ent17 rfl (c17) (AViews.refl _ rfl))) ?_
  refine dG _ (fun _ => false) rfl rfl rfl rfl (fun hg => (And.intro gi (And.intro gi (True.intro)))) (fun hg => opp_eqAgg rfl rfl rfl (eq26 ..) eg26 rfl (.inr ⟨rfl, rfl⟩)) ?_
  refine dPick (fun _ => false) rfl rfl rfl rfl (by exact True.intro) rfl rfl (fun hg => gi) (fun hg => gi) ?_
  refine dP (fun _ => false) (opp_mv (v := .bool _) rfl rfl) rfl rfl ?_
  first
    | refine dG _ (fun _ => false) rfl rfl rfl rfl (fun hg => (And.intro gi (True.intro))) (fun hg => opp_mv (v := .sl _ _ _ _) rfl rfl) ?_
    | refine dG _ (fun _ => false) rfl rfl rfl rfl (fun hg => (And.intro gi (True.intro))) (fun hg => opp_mv (v := .osl _ _ _ _ _) rfl rfl) ?_
  first
    | refine dG _ (fun n => !([] : List Nat).contains n) rfl rfl rfl rfl (fun hg => (And.intro gi (True.intro))) (fun hg => opp_lenSl rfl rfl un48) ?_
    | refine dG _ (fun n => !([] : List Nat).contains n) rfl rfl rfl rfl (fun hg => (And.intro gi (True.intro))) (fun hg => opp_lenOsl rfl rfl un48) ?_
  refine dG _ (fun _ => false) rfl rfl rfl rfl (fun hg => (And.intro gi (And.intro gi (True.intro)))) (fun hg => opp_cmp rfl rfl rfl rfl) ?_
  refine dPick (fun _ => false) rfl rfl rfl rfl (by exact True.intro) rfl rfl (fun hg => gi) (fun hg => gi) ?_
  refine dP (fun _ => false) (opp_mv (v := .bool _) rfl rfl) rfl rfl ?_
  first
    | refine dG _ (fun _ => false) rfl rfl rfl rfl (fun hg => (And.intro gi (True.intro))) (fun hg => opp_mv (v := .sl _ _ _ _) rfl rfl) ?_
    | refine dG _ (fun _ => false) rfl rfl rfl rfl (fun hg => (And.intro gi (True.intro))) (fun hg => opp_mv (v := .osl _ _ _ _ _) rfl rfl) ?_
  refine dG _ (fun _ => false) rfl rfl rfl rfl (fun hg => (And.intro gi (And.intro gi (True.intro)))) (fun hg => opp_indexSl rfl rfl rfl el48 (by decide) (by decide)) ?_
  first
    | refine dG _ (fun _ => false) rfl rfl rfl rfl (fun hg => (And.intro gi (True.intro))) (fun hg => opp_fieldP rfl rfl fld26_7 rfl) ?_
    | refine dG _ (fun _ => false) rfl rfl rfl rfl (fun hg => (And.intro gi (True.intro))) (fun hg => opp_fieldF rfl rfl rfl fld26_7 rfl rfl) ?_
  first
    | refine dG _ (fun n => !([] : List Nat).contains n) rfl rfl rfl rfl (fun hg => (And.intro gi (True.intro))) (fun hg => opp_loadP rfl rfl rfl rfl bi rfl ty9) ?_
    | refine dG _ (fun n => !([] : List Nat).contains n) rfl rfl rfl rfl (fun hg => (And.intro gi (True.intro))) (fun hg => opp_loadF rfl rfl ty9) ?_
  refine dG _ (fun n => !([] : List Nat).contains n) rfl rfl rfl rfl (fun hg => (And.intro gi (True.intro))) (fun hg => opp_lenStr rfl rfl un9) ?_
  refine dG _ (fun _ => false) rfl rfl rfl rfl (fun hg => (And.intro gi (And.intro gi (True.intro)))) (fun hg => opp_cmp rfl rfl rfl rfl) ?_
  refine dPick (fun _ => false) rfl rfl rfl rfl (by exact True.intro) rfl rfl (fun hg => gi) (fun hg => gi) ?_
  refine And.intro (by kernel_rfl) ?_
  refine awp_cond _ rfl (fun hc6 => ?_) (fun hc6 => ?_)
  · (try simp only [cmpI, errD_nil, Bool.not_eq_true', Bool.not_eq_false', decide_eq_true_eq, decide_eq_false_iff_not] at hc6); have ht51 := hc6
    exfalso; simp [Sp.kCut] at ht51
  · (try simp only [cmpI, errD_nil, Bool.not_eq_true', Bool.not_eq_false', decide_eq_true_eq, decide_eq_false_iff_not] at hc6); have ht51 := hc6
    refine awp_skip ?_
    refine awp_seq ?_
    rw [show ((Sp.crcSeal Sp.kB, (0 : Nat)).1) = Sp.crcSeal Sp.kB from rfl]
    have hk := Sp.k_len
    refine awp_region rfl ?_
    refine sP (opp_mv (v := .str _) rfl rfl) rfl rfl ?_
    refine sP (opp_lenStr rfl rfl un9) rfl rfl ?_
    refine sP (opp_cmp rfl rfl rfl rfl) rfl rfl ?_
    refine sP (opp_mv (v := .bool _) rfl rfl) rfl rfl ?_
    refine sG _ rfl rfl rfl rfl (fun hg => (And.intro gi (True.intro))) (fun hg => opp_mv (v := .str _) rfl rfl) ?_
    refine sG _ rfl rfl rfl rfl (fun hg => (And.intro gi (And.intro gi (True.intro)))) (fun hg => opp_sliceStr rfl rfl rfl rfl un9 (by omega) (by omega) (by omega)) ?_
    refine sG _ rfl rfl rfl rfl (fun hg => (And.intro gi (And.intro gi (True.intro)))) (fun hg => opp_strEq (b := [0, 27, 4, 2, 0, 0, 0, 1, 0, 0, 0, 3, 0, 0, 0, 2, 0, 0, 0, 0, 0, 0, 0]) rfl rfl rfl (.inl ⟨rfl, rfl⟩)) ?_
    refine sPick rfl rfl rfl rfl (by exact True.intro) rfl rfl (fun hg => gi) (fun hg => gi) ?_
    refine sP (opp_as (v := .bool _) rfl rfl) rfl rfl ?_
    refine awp_ret ?_
    repeat (first | refine athen_ret ?_ | refine ain_ret ?_)
    first
      | refine apost_ret (aend1 (r0 := .bool _) (.tmp .nil) (.noN rfl rfl) ⟨Wk.v ?_, rfl, rfl⟩)
      | refine apost_ret (aend1s (r0 := .bool _) (.tmp .nil) shut rfl ⟨Wk.v ?_, rfl, rfl⟩)
    have hh := Sp.k_head
    refine .of (congrArg AV.bool ?_)
    simp only [cmpI, hk, Int.toNat_zero, List.drop_zero]
    show (bif decide (((27 : Nat) : Int) = 27) then decide ((Sp.crcSeal Sp.kB).take 23 = Sp.kB) else false) = true
    rw [hh]; simp
end
end Go.Proofs.YtgaihhimkodmmaaDoor
/- The numbers of errors: api.Code; ferrylaw22.plain (walks over this dump). -/
namespace Go.Proofs.YtgaihhimkodmmaaDoor
attribute [local irreducible] Tryd.prog
open Go.Fy
set_option linter.unusedSimpArgs false
set_option linter.unusedVariables false
section
variable {ea : Nat → Addr} {cds : List Nat} {gl : Nat → Option AV}
theorem c134 (c : Nat) (h1 : 11 ≤ c) (h20 : c ≤ 20) (hS : Sents cds gl) : APure (V ea cds gl) 134 [.err (.code c)] false (.int .i64 c) := by
  have hS0 := hS
  obtain ⟨hG0, hG11, hG12, hG8, hG1, hG9, hG4, hG13, hG3, hG5, hG6, hG2, hG15, hG7, hG16, hG17, hG18, hG19, hG20, hG21, hT, hall⟩ := hS
  refine acalls_of_body (N := 43) Tryd.func134 rfl rfl (Nat.le_of_ble_eq_true rfl) fun C hV hN hM hO => ?_
  obtain ⟨_, _, w0, G0, σ0, _, own0⟩ := C; dsimp only at hV hN hM hO; subst hV; subst hN; subst hM
  refine awp_seq ?_
  refine awp_region rfl ?_
  refine sP (opp_as (v := .int _ _) rfl rfl) rfl rfl ?_
  refine awp_seq ?_
  refine awp_block ?_
  refine awp_seq ?_
  refine awp_region rfl ?_
  refine sP (opp_mv (v := .err _) rfl rfl) rfl rfl ?_
  refine sP (opp_loadF rfl (ev_glob hG6) ty29) rfl rfl ?_
  refine sR (opr_call rfl rfl ent133 rfl (c133 c 11 (hall _ (by omega) h20) (hall _ (by omega) (by omega))) (AViews.refl _ rfl)) rfl rfl rfl ?_ -- d=6 t=4
  refine sP (opp_as (v := .bool _) rfl rfl) rfl rfl ?_
  refine awp_cond _ rfl (fun hc3 => ?_) (fun hc3 => ?_)
  · (try simp only [cmpI, errD_nil, Bool.not_eq_true', Bool.not_eq_false', decide_eq_true_eq, decide_eq_false_iff_not] at hc3); have ht3 := hc3
    refine awp_seq ?_
    refine awp_region rfl ?_
    refine sP (opp_as (v := .int _ _) rfl rfl) rfl rfl ?_
    refine awp_ret ?_
    repeat (first | refine athen_ret ?_ | refine ain_ret ?_)
    first
      | refine apost_ret (aend1 (r0 := .int _ _) (.tmp .nil) (.noN rfl rfl) ⟨Wk.v ?_, rfl, rfl⟩)
      | refine apost_ret (aend1s (r0 := .int _ _) (.tmp .nil) shut rfl ⟨Wk.v ?_, rfl, rfl⟩)
    have hk : c = 11 := by omega
    subst hk; exact .refl
  · (try simp only [cmpI, errD_nil, Bool.not_eq_true', Bool.not_eq_false', decide_eq_true_eq, decide_eq_false_iff_not] at hc3); have ht3 := hc3
    refine awp_seq ?_
    refine awp_region rfl ?_
    refine sP (opp_mv (v := .err _) rfl rfl) rfl rfl ?_
    refine sP (opp_loadF rfl (ev_glob hG2) ty29) rfl rfl ?_
    refine sR (opr_call rfl rfl ent133 rfl (c133 c 12 (hall _ (by omega) h20) (hall _ (by omega) (by omega))) (AViews.refl _ rfl)) rfl rfl rfl ?_ -- d=10 t=4
    refine sP (opp_as (v := .bool _) rfl rfl) rfl rfl ?_
    refine awp_cond _ rfl (fun hc6 => ?_) (fun hc6 => ?_)
    · (try simp only [cmpI, errD_nil, Bool.not_eq_true', Bool.not_eq_false', decide_eq_true_eq, decide_eq_false_iff_not] at hc6); have ht7 := hc6
      refine awp_seq ?_
      refine awp_region rfl ?_
      refine sP (opp_as (v := .int _ _) rfl rfl) rfl rfl ?_
      refine awp_ret ?_
      repeat (first | refine athen_ret ?_ | refine ain_ret ?_)
      first
        | refine apost_ret (aend1 (r0 := .int _ _) (.tmp .nil) (.noN rfl rfl) ⟨Wk.v ?_, rfl, rfl⟩)
        | refine apost_ret (aend1s (r0 := .int _ _) (.tmp .nil) shut rfl ⟨Wk.v ?_, rfl, rfl⟩)
      have hk : c = 12 := by omega
      subst hk; exact .refl
    · (try simp only [cmpI, errD_nil, Bool.not_eq_true', Bool.not_eq_false', decide_eq_true_eq, decide_eq_false_iff_not] at hc6); have ht7 := hc6
      refine awp_seq ?_
      refine awp_region rfl ?_
      refine sP (opp_mv (v := .err _) rfl rfl) rfl rfl ?_
      refine sP (opp_loadF rfl (ev_glob hG15) ty29) rfl rfl ?_
      refine sR (opr_call rfl rfl ent133 rfl (c133 c 13 (hall _ (by omega) h20) (hall _ (by omega) (by omega))) (AViews.refl _ rfl)) rfl rfl rfl ?_ -- d=14 t=4
      refine sP (opp_as (v := .bool _) rfl rfl) rfl rfl ?_
      refine awp_cond _ rfl (fun hc9 => ?_) (fun hc9 => ?_)
      · (try simp only [cmpI, errD_nil, Bool.not_eq_true', Bool.not_eq_false', decide_eq_true_eq, decide_eq_false_iff_not] at hc9); have ht11 := hc9
        refine awp_seq ?_
        refine awp_region rfl ?_
        refine sP (opp_as (v := .int _ _) rfl rfl) rfl rfl ?_
        refine awp_ret ?_
        repeat (first | refine athen_ret ?_ | refine ain_ret ?_)
        first
          | refine apost_ret (aend1 (r0 := .int _ _) (.tmp .nil) (.noN rfl rfl) ⟨Wk.v ?_, rfl, rfl⟩)
          | refine apost_ret (aend1s (r0 := .int _ _) (.tmp .nil) shut rfl ⟨Wk.v ?_, rfl, rfl⟩)
        have hk : c = 13 := by omega
        subst hk; exact .refl
      · (try simp only [cmpI, errD_nil, Bool.not_eq_true', Bool.not_eq_false', decide_eq_true_eq, decide_eq_false_iff_not] at hc9); have ht11 := hc9
        refine awp_seq ?_
        refine awp_region rfl ?_
        refine sP (opp_mv (v := .err _) rfl rfl) rfl rfl ?_
        refine sP (opp_loadF rfl (ev_glob hG7) ty29) rfl rfl ?_
        refine sR (opr_call rfl rfl ent133 rfl (c133 c 14 (hall _ (by omega) h20) (hall _ (by omega) (by omega))) (AViews.refl _ rfl)) rfl rfl rfl ?_ -- d=18 t=4
        refine sP (opp_as (v := .bool _) rfl rfl) rfl rfl ?_
        refine awp_cond _ rfl (fun hc12 => ?_) (fun hc12 => ?_)
        · (try simp only [cmpI, errD_nil, Bool.not_eq_true', Bool.not_eq_false', decide_eq_true_eq, decide_eq_false_iff_not] at hc12); have ht15 := hc12
          refine awp_seq ?_
          refine awp_region rfl ?_
          refine sP (opp_as (v := .int _ _) rfl rfl) rfl rfl ?_
          refine awp_ret ?_
          repeat (first | refine athen_ret ?_ | refine ain_ret ?_)
          first
            | refine apost_ret (aend1 (r0 := .int _ _) (.tmp .nil) (.noN rfl rfl) ⟨Wk.v ?_, rfl, rfl⟩)
            | refine apost_ret (aend1s (r0 := .int _ _) (.tmp .nil) shut rfl ⟨Wk.v ?_, rfl, rfl⟩)
          have hk : c = 14 := by omega
          subst hk; exact .refl
        · (try simp only [cmpI, errD_nil, Bool.not_eq_true', Bool.not_eq_false', decide_eq_true_eq, decide_eq_false_iff_not] at hc12); have ht15 := hc12
          refine awp_seq ?_
          refine awp_region rfl ?_
          refine sP (opp_mv (v := .err _) rfl rfl) rfl rfl ?_
          refine sP (opp_loadF rfl (ev_glob hG16) ty29) rfl rfl ?_
          refine sR (opr_call rfl rfl ent133 rfl (c133 c 15 (hall _ (by omega) h20) (hall _ (by omega) (by omega))) (AViews.refl _ rfl)) rfl rfl rfl ?_ -- d=22 t=4
          refine sP (opp_as (v := .bool _) rfl rfl) rfl rfl ?_
          refine awp_cond _ rfl (fun hc15 => ?_) (fun hc15 => ?_)
          · (try simp only [cmpI, errD_nil, Bool.not_eq_true', Bool.not_eq_false', decide_eq_true_eq, decide_eq_false_iff_not] at hc15); have ht19 := hc15
            refine awp_seq ?_
            refine awp_region rfl ?_
            refine sP (opp_as (v := .int _ _) rfl rfl) rfl rfl ?_
            refine awp_ret ?_
            repeat (first | refine athen_ret ?_ | refine ain_ret ?_)
            first
              | refine apost_ret (aend1 (r0 := .int _ _) (.tmp .nil) (.noN rfl rfl) ⟨Wk.v ?_, rfl, rfl⟩)
              | refine apost_ret (aend1s (r0 := .int _ _) (.tmp .nil) shut rfl ⟨Wk.v ?_, rfl, rfl⟩)
            have hk : c = 15 := by omega
            subst hk; exact .refl
          · (try simp only [cmpI, errD_nil, Bool.not_eq_true', Bool.not_eq_false', decide_eq_true_eq, decide_eq_false_iff_not] at hc15); have ht19 := hc15
            refine awp_seq ?_
            refine awp_region rfl ?_
            refine sP (opp_mv (v := .err _) rfl rfl) rfl rfl ?_
            refine sP (opp_loadF rfl (ev_glob hG17) ty29) rfl rfl ?_
            refine sR (opr_call rfl rfl ent133 rfl (c133 c 16 (hall _ (by omega) h20) (hall _ (by omega) (by omega))) (AViews.refl _ rfl)) rfl rfl rfl ?_ -- d=26 t=4
            refine sP (opp_as (v := .bool _) rfl rfl) rfl rfl ?_
            refine awp_cond _ rfl (fun hc18 => ?_) (fun hc18 => ?_)
            · (try simp only [cmpI, errD_nil, Bool.not_eq_true', Bool.not_eq_false', decide_eq_true_eq, decide_eq_false_iff_not] at hc18); have ht23 := hc18
              refine awp_seq ?_
              refine awp_region rfl ?_
              refine sP (opp_as (v := .int _ _) rfl rfl) rfl rfl ?_
              refine awp_ret ?_
              repeat (first | refine athen_ret ?_ | refine ain_ret ?_)
              first
                | refine apost_ret (aend1 (r0 := .int _ _) (.tmp .nil) (.noN rfl rfl) ⟨Wk.v ?_, rfl, rfl⟩)
                | refine apost_ret (aend1s (r0 := .int _ _) (.tmp .nil) shut rfl ⟨Wk.v ?_, rfl, rfl⟩)
              have hk : c = 16 := by omega
              subst hk; exact .refl
            · (try simp only [cmpI, errD_nil, Bool.not_eq_true', Bool.not_eq_false', decide_eq_true_eq, decide_eq_false_iff_not] at hc18); have ht23 := hc18
              refine awp_seq ?_
              refine awp_region rfl ?_
              refine sP (opp_mv (v := .err _) rfl rfl) rfl rfl ?_
              refine sP (opp_loadF rfl (ev_glob hG18) ty29) rfl rfl ?_
              refine sR (opr_call rfl rfl ent133 rfl (c133 c 17 (hall _ (by omega) h20) (hall _ (by omega) (by omega))) (AViews.refl _ rfl)) rfl rfl rfl ?_ -- d=30 t=4
              refine sP (opp_as (v := .bool _) rfl rfl) rfl rfl ?_
              refine awp_cond _ rfl (fun hc21 => ?_) (fun hc21 => ?_)
              · (try simp only [cmpI, errD_nil, Bool.not_eq_true', Bool.not_eq_false', decide_eq_true_eq, decide_eq_false_iff_not] at hc21); have ht27 := hc21
                refine awp_seq ?_
                refine awp_region rfl ?_
                refine sP (opp_as (v := .int _ _) rfl rfl) rfl rfl ?_
                refine awp_ret ?_
                repeat (first | refine athen_ret ?_ | refine ain_ret ?_)
                first
                  | refine apost_ret (aend1 (r0 := .int _ _) (.tmp .nil) (.noN rfl rfl) ⟨Wk.v ?_, rfl, rfl⟩)
                  | refine apost_ret (aend1s (r0 := .int _ _) (.tmp .nil) shut rfl ⟨Wk.v ?_, rfl, rfl⟩)
                have hk : c = 17 := by omega
                subst hk; exact .refl
              · (try simp only [cmpI, errD_nil, Bool.not_eq_true', Bool.not_eq_false', decide_eq_true_eq, decide_eq_false_iff_not] at hc21); have ht27 := hc21
                refine awp_seq ?_
                refine awp_region rfl ?_
                refine sP (opp_mv (v := .err _) rfl rfl) rfl rfl ?_
                refine sP (opp_loadF rfl (ev_glob hG19) ty29) rfl rfl ?_
                refine sR (opr_call rfl rfl ent133 rfl (c133 c 18 (hall _ (by omega) h20) (hall _ (by omega) (by omega))) (AViews.refl _ rfl)) rfl rfl rfl ?_ -- d=34 t=4
                refine sP (opp_as (v := .bool _) rfl rfl) rfl rfl ?_
                refine awp_cond _ rfl (fun hc24 => ?_) (fun hc24 => ?_)
                · (try simp only [cmpI, errD_nil, Bool.not_eq_true', Bool.not_eq_false', decide_eq_true_eq, decide_eq_false_iff_not] at hc24); have ht31 := hc24
                  refine awp_seq ?_
                  refine awp_region rfl ?_
                  refine sP (opp_as (v := .int _ _) rfl rfl) rfl rfl ?_
                  refine awp_ret ?_
                  repeat (first | refine athen_ret ?_ | refine ain_ret ?_)
                  first
                    | refine apost_ret (aend1 (r0 := .int _ _) (.tmp .nil) (.noN rfl rfl) ⟨Wk.v ?_, rfl, rfl⟩)
                    | refine apost_ret (aend1s (r0 := .int _ _) (.tmp .nil) shut rfl ⟨Wk.v ?_, rfl, rfl⟩)
                  have hk : c = 18 := by omega
                  subst hk; exact .refl
                · (try simp only [cmpI, errD_nil, Bool.not_eq_true', Bool.not_eq_false', decide_eq_true_eq, decide_eq_false_iff_not] at hc24); have ht31 := hc24
                  refine awp_seq ?_
                  refine awp_region rfl ?_
                  refine sP (opp_mv (v := .err _) rfl rfl) rfl rfl ?_
                  refine sP (opp_loadF rfl (ev_glob hG20) ty29) rfl rfl ?_
                  refine sR (opr_call rfl rfl ent133 rfl (c133 c 19 (hall _ (by omega) h20) (hall _ (by omega) (by omega))) (AViews.refl _ rfl)) rfl rfl rfl ?_ -- d=38 t=4
                  refine sP (opp_as (v := .bool _) rfl rfl) rfl rfl ?_
                  refine awp_cond _ rfl (fun hc27 => ?_) (fun hc27 => ?_)
                  · (try simp only [cmpI, errD_nil, Bool.not_eq_true', Bool.not_eq_false', decide_eq_true_eq, decide_eq_false_iff_not] at hc27); have ht35 := hc27
                    refine awp_seq ?_
                    refine awp_region rfl ?_
                    refine sP (opp_as (v := .int _ _) rfl rfl) rfl rfl ?_
                    refine awp_ret ?_
                    repeat (first | refine athen_ret ?_ | refine ain_ret ?_)
                    first
                      | refine apost_ret (aend1 (r0 := .int _ _) (.tmp .nil) (.noN rfl rfl) ⟨Wk.v ?_, rfl, rfl⟩)
                      | refine apost_ret (aend1s (r0 := .int _ _) (.tmp .nil) shut rfl ⟨Wk.v ?_, rfl, rfl⟩)
                    have hk : c = 19 := by omega
                    subst hk; exact .refl
                  · (try simp only [cmpI, errD_nil, Bool.not_eq_true', Bool.not_eq_false', decide_eq_true_eq, decide_eq_false_iff_not] at hc27); have ht35 := hc27
                    refine awp_seq ?_
                    refine awp_region rfl ?_
                    refine sP (opp_mv (v := .err _) rfl rfl) rfl rfl ?_
                    refine sP (opp_loadF rfl (ev_glob hG21) ty29) rfl rfl ?_
                    refine sR (opr_call rfl rfl ent133 rfl (c133 c 20 (hall _ (by omega) h20) (hall _ (by omega) (by omega))) (AViews.refl _ rfl)) rfl rfl rfl ?_ -- d=42 t=4
                    refine sP (opp_as (v := .bool _) rfl rfl) rfl rfl ?_
                    refine awp_cond _ rfl (fun hc30 => ?_) (fun hc30 => ?_)
                    · (try simp only [cmpI, errD_nil, Bool.not_eq_true', Bool.not_eq_false', decide_eq_true_eq, decide_eq_false_iff_not] at hc30); have ht39 := hc30
                      refine awp_seq ?_
                      refine awp_region rfl ?_
                      refine sP (opp_as (v := .int _ _) rfl rfl) rfl rfl ?_
                      refine awp_ret ?_
                      repeat (first | refine athen_ret ?_ | refine ain_ret ?_)
                      first
                        | refine apost_ret (aend1 (r0 := .int _ _) (.tmp .nil) (.noN rfl rfl) ⟨Wk.v ?_, rfl, rfl⟩)
                        | refine apost_ret (aend1s (r0 := .int _ _) (.tmp .nil) shut rfl ⟨Wk.v ?_, rfl, rfl⟩)
                      have hk : c = 20 := by omega
                      subst hk; exact .refl
                    · (try simp only [cmpI, errD_nil, Bool.not_eq_true', Bool.not_eq_false', decide_eq_true_eq, decide_eq_false_iff_not] at hc30); have ht39 := hc30
                      refine awp_skip ?_
                      refine awp_seq ?_
                      refine awp_region rfl ?_
                      refine sP (opp_as (v := .int _ _) rfl rfl) rfl rfl ?_
                      refine awp_ret ?_
                      repeat (first | refine athen_ret ?_ | refine ain_ret ?_)
                      first
                        | refine apost_ret (aend1 (r0 := .int _ _) (.tmp .nil) (.noN rfl rfl) ⟨Wk.v ?_, rfl, rfl⟩)
                        | refine apost_ret (aend1s (r0 := .int _ _) (.tmp .nil) shut rfl ⟨Wk.v ?_, rfl, rfl⟩)
                      exfalso; omega
theorem c99 (c : Nat) (h1 : 1 ≤ c) (h20 : c ≤ 20) (hS : Sents cds gl) : APure (V ea cds gl) 99 [.err (.code c)] false (.int .i64 c) := by
  have hS0 := hS
  obtain ⟨hG0, hG11, hG12, hG8, hG1, hG9, hG4, hG13, hG3, hG5, hG6, hG2, hG15, hG7, hG16, hG17, hG18, hG19, hG20, hG21, hT, hall⟩ := hS
  refine acalls_of_body (N := 48) Tryd.func99 rfl rfl (Nat.le_of_ble_eq_true rfl) fun C hV hN hM hO => ?_
  obtain ⟨_, _, w0, G0, σ0, _, own0⟩ := C; dsimp only at hV hN hM hO; subst hV; subst hN; subst hM
  refine awp_seq ?_
  refine awp_region rfl ?_
  refine sP (opp_as (v := .int _ _) rfl rfl) rfl rfl ?_
  refine awp_seq ?_
  refine awp_block ?_
  refine awp_seq ?_
  refine awp_region rfl ?_
  refine sP (opp_mv (v := .err _) rfl rfl) rfl rfl ?_
  refine sP (opp_errNil rfl rfl rfl un29 (.inl ⟨rfl, rfl⟩)) rfl rfl ?_
  refine sP (opp_as (v := .bool _) rfl rfl) rfl rfl ?_
  refine awp_cond _ rfl (fun hc3 => ?_) (fun hc3 => ?_)
  · (try simp only [cmpI, errD_nil, Bool.not_eq_true', Bool.not_eq_false', decide_eq_true_eq, decide_eq_false_iff_not] at hc3); have ht3 := hc3
    cases ht3
  · (try simp only [cmpI, errD_nil, Bool.not_eq_true', Bool.not_eq_false', decide_eq_true_eq, decide_eq_false_iff_not] at hc3); have ht3 := hc3
    refine awp_seq ?_
    refine awp_region rfl ?_
    refine sP (opp_mv (v := .err _) rfl rfl) rfl rfl ?_
    refine sP (opp_loadF rfl (ev_glob hG0) ty29) rfl rfl ?_
    refine sR (opr_call rfl rfl ent133 rfl (c133 c 1 (hall _ (by omega) h20) (hall _ (by omega) (by omega))) (AViews.refl _ rfl)) rfl rfl rfl ?_ -- d=9 t=4
    refine sP (opp_as (v := .bool _) rfl rfl) rfl rfl ?_
    refine awp_cond _ rfl (fun hc5 => ?_) (fun hc5 => ?_)
    · (try simp only [cmpI, errD_nil, Bool.not_eq_true', Bool.not_eq_false', decide_eq_true_eq, decide_eq_false_iff_not] at hc5); have ht6 := hc5
      refine awp_seq ?_
      refine awp_region rfl ?_
      refine sP (opp_as (v := .int _ _) rfl rfl) rfl rfl ?_
      refine awp_ret ?_
      repeat (first | refine athen_ret ?_ | refine ain_ret ?_)
      first
        | refine apost_ret (aend1 (r0 := .int _ _) (.tmp .nil) (.noN rfl rfl) ⟨Wk.v ?_, rfl, rfl⟩)
        | refine apost_ret (aend1s (r0 := .int _ _) (.tmp .nil) shut rfl ⟨Wk.v ?_, rfl, rfl⟩)
      have hk : c = 1 := by omega
      subst hk; exact .refl
    · (try simp only [cmpI, errD_nil, Bool.not_eq_true', Bool.not_eq_false', decide_eq_true_eq, decide_eq_false_iff_not] at hc5); have ht6 := hc5
      refine awp_seq ?_
      refine awp_region rfl ?_
      refine sP (opp_mv (v := .err _) rfl rfl) rfl rfl ?_
      refine sP (opp_loadF rfl (ev_glob hG11) ty29) rfl rfl ?_
      refine sR (opr_call rfl rfl ent133 rfl (c133 c 2 (hall _ (by omega) h20) (hall _ (by omega) (by omega))) (AViews.refl _ rfl)) rfl rfl rfl ?_ -- d=13 t=4
      refine sP (opp_as (v := .bool _) rfl rfl) rfl rfl ?_
      refine awp_cond _ rfl (fun hc8 => ?_) (fun hc8 => ?_)
      · (try simp only [cmpI, errD_nil, Bool.not_eq_true', Bool.not_eq_false', decide_eq_true_eq, decide_eq_false_iff_not] at hc8); have ht10 := hc8
        refine awp_seq ?_
        refine awp_region rfl ?_
        refine sP (opp_as (v := .int _ _) rfl rfl) rfl rfl ?_
        refine awp_ret ?_
        repeat (first | refine athen_ret ?_ | refine ain_ret ?_)
        first
          | refine apost_ret (aend1 (r0 := .int _ _) (.tmp .nil) (.noN rfl rfl) ⟨Wk.v ?_, rfl, rfl⟩)
          | refine apost_ret (aend1s (r0 := .int _ _) (.tmp .nil) shut rfl ⟨Wk.v ?_, rfl, rfl⟩)
        have hk : c = 2 := by omega
        subst hk; exact .refl
      · (try simp only [cmpI, errD_nil, Bool.not_eq_true', Bool.not_eq_false', decide_eq_true_eq, decide_eq_false_iff_not] at hc8); have ht10 := hc8
        refine awp_seq ?_
        refine awp_region rfl ?_
        refine sP (opp_mv (v := .err _) rfl rfl) rfl rfl ?_
        refine sP (opp_loadF rfl (ev_glob hG12) ty29) rfl rfl ?_
        refine sR (opr_call rfl rfl ent133 rfl (c133 c 3 (hall _ (by omega) h20) (hall _ (by omega) (by omega))) (AViews.refl _ rfl)) rfl rfl rfl ?_ -- d=17 t=4
        refine sP (opp_as (v := .bool _) rfl rfl) rfl rfl ?_
        refine awp_cond _ rfl (fun hc11 => ?_) (fun hc11 => ?_)
        · (try simp only [cmpI, errD_nil, Bool.not_eq_true', Bool.not_eq_false', decide_eq_true_eq, decide_eq_false_iff_not] at hc11); have ht14 := hc11
          refine awp_seq ?_
          refine awp_region rfl ?_
          refine sP (opp_as (v := .int _ _) rfl rfl) rfl rfl ?_
          refine awp_ret ?_
          repeat (first | refine athen_ret ?_ | refine ain_ret ?_)
          first
            | refine apost_ret (aend1 (r0 := .int _ _) (.tmp .nil) (.noN rfl rfl) ⟨Wk.v ?_, rfl, rfl⟩)
            | refine apost_ret (aend1s (r0 := .int _ _) (.tmp .nil) shut rfl ⟨Wk.v ?_, rfl, rfl⟩)
          have hk : c = 3 := by omega
          subst hk; exact .refl
        · (try simp only [cmpI, errD_nil, Bool.not_eq_true', Bool.not_eq_false', decide_eq_true_eq, decide_eq_false_iff_not] at hc11); have ht14 := hc11
          refine awp_seq ?_
          refine awp_region rfl ?_
          refine sP (opp_mv (v := .err _) rfl rfl) rfl rfl ?_
          refine sP (opp_loadF rfl (ev_glob hG8) ty29) rfl rfl ?_
          refine sR (opr_call rfl rfl ent133 rfl (c133 c 4 (hall _ (by omega) h20) (hall _ (by omega) (by omega))) (AViews.refl _ rfl)) rfl rfl rfl ?_ -- d=21 t=4
          refine sP (opp_as (v := .bool _) rfl rfl) rfl rfl ?_
          refine awp_cond _ rfl (fun hc14 => ?_) (fun hc14 => ?_)
          · (try simp only [cmpI, errD_nil, Bool.not_eq_true', Bool.not_eq_false', decide_eq_true_eq, decide_eq_false_iff_not] at hc14); have ht18 := hc14
            refine awp_seq ?_
            refine awp_region rfl ?_
            refine sP (opp_as (v := .int _ _) rfl rfl) rfl rfl ?_
            refine awp_ret ?_
            repeat (first | refine athen_ret ?_ | refine ain_ret ?_)
            first
              | refine apost_ret (aend1 (r0 := .int _ _) (.tmp .nil) (.noN rfl rfl) ⟨Wk.v ?_, rfl, rfl⟩)
              | refine apost_ret (aend1s (r0 := .int _ _) (.tmp .nil) shut rfl ⟨Wk.v ?_, rfl, rfl⟩)
            have hk : c = 4 := by omega
            subst hk; exact .refl
          · (try simp only [cmpI, errD_nil, Bool.not_eq_true', Bool.not_eq_false', decide_eq_true_eq, decide_eq_false_iff_not] at hc14); have ht18 := hc14
            refine awp_seq ?_
            refine awp_region rfl ?_
            refine sP (opp_mv (v := .err _) rfl rfl) rfl rfl ?_
            refine sP (opp_loadF rfl (ev_glob hG1) ty29) rfl rfl ?_
            refine sR (opr_call rfl rfl ent133 rfl (c133 c 5 (hall _ (by omega) h20) (hall _ (by omega) (by omega))) (AViews.refl _ rfl)) rfl rfl rfl ?_ -- d=25 t=4
            refine sP (opp_as (v := .bool _) rfl rfl) rfl rfl ?_
            refine awp_cond _ rfl (fun hc17 => ?_) (fun hc17 => ?_)
            · (try simp only [cmpI, errD_nil, Bool.not_eq_true', Bool.not_eq_false', decide_eq_true_eq, decide_eq_false_iff_not] at hc17); have ht22 := hc17
              refine awp_seq ?_
              refine awp_region rfl ?_
              refine sP (opp_as (v := .int _ _) rfl rfl) rfl rfl ?_
              refine awp_ret ?_
              repeat (first | refine athen_ret ?_ | refine ain_ret ?_)
              first
                | refine apost_ret (aend1 (r0 := .int _ _) (.tmp .nil) (.noN rfl rfl) ⟨Wk.v ?_, rfl, rfl⟩)
                | refine apost_ret (aend1s (r0 := .int _ _) (.tmp .nil) shut rfl ⟨Wk.v ?_, rfl, rfl⟩)
              have hk : c = 5 := by omega
              subst hk; exact .refl
            · (try simp only [cmpI, errD_nil, Bool.not_eq_true', Bool.not_eq_false', decide_eq_true_eq, decide_eq_false_iff_not] at hc17); have ht22 := hc17
              refine awp_seq ?_
              refine awp_region rfl ?_
              refine sP (opp_mv (v := .err _) rfl rfl) rfl rfl ?_
              refine sP (opp_loadF rfl (ev_glob hG9) ty29) rfl rfl ?_
              refine sR (opr_call rfl rfl ent133 rfl (c133 c 6 (hall _ (by omega) h20) (hall _ (by omega) (by omega))) (AViews.refl _ rfl)) rfl rfl rfl ?_ -- d=29 t=4
              refine sP (opp_as (v := .bool _) rfl rfl) rfl rfl ?_
              refine awp_cond _ rfl (fun hc20 => ?_) (fun hc20 => ?_)
              · (try simp only [cmpI, errD_nil, Bool.not_eq_true', Bool.not_eq_false', decide_eq_true_eq, decide_eq_false_iff_not] at hc20); have ht26 := hc20
                refine awp_seq ?_
                refine awp_region rfl ?_
                refine sP (opp_as (v := .int _ _) rfl rfl) rfl rfl ?_
                refine awp_ret ?_
                repeat (first | refine athen_ret ?_ | refine ain_ret ?_)
                first
                  | refine apost_ret (aend1 (r0 := .int _ _) (.tmp .nil) (.noN rfl rfl) ⟨Wk.v ?_, rfl, rfl⟩)
                  | refine apost_ret (aend1s (r0 := .int _ _) (.tmp .nil) shut rfl ⟨Wk.v ?_, rfl, rfl⟩)
                have hk : c = 6 := by omega
                subst hk; exact .refl
              · (try simp only [cmpI, errD_nil, Bool.not_eq_true', Bool.not_eq_false', decide_eq_true_eq, decide_eq_false_iff_not] at hc20); have ht26 := hc20
                refine awp_seq ?_
                refine awp_region rfl ?_
                refine sP (opp_mv (v := .err _) rfl rfl) rfl rfl ?_
                refine sP (opp_loadF rfl (ev_glob hG4) ty29) rfl rfl ?_
                refine sR (opr_call rfl rfl ent133 rfl (c133 c 7 (hall _ (by omega) h20) (hall _ (by omega) (by omega))) (AViews.refl _ rfl)) rfl rfl rfl ?_ -- d=33 t=4
                refine sP (opp_as (v := .bool _) rfl rfl) rfl rfl ?_
                refine awp_cond _ rfl (fun hc23 => ?_) (fun hc23 => ?_)
                · (try simp only [cmpI, errD_nil, Bool.not_eq_true', Bool.not_eq_false', decide_eq_true_eq, decide_eq_false_iff_not] at hc23); have ht30 := hc23
                  refine awp_seq ?_
                  refine awp_region rfl ?_
                  refine sP (opp_as (v := .int _ _) rfl rfl) rfl rfl ?_
                  refine awp_ret ?_
                  repeat (first | refine athen_ret ?_ | refine ain_ret ?_)
                  first
                    | refine apost_ret (aend1 (r0 := .int _ _) (.tmp .nil) (.noN rfl rfl) ⟨Wk.v ?_, rfl, rfl⟩)
                    | refine apost_ret (aend1s (r0 := .int _ _) (.tmp .nil) shut rfl ⟨Wk.v ?_, rfl, rfl⟩)
                  have hk : c = 7 := by omega
                  subst hk; exact .refl
                · (try simp only [cmpI, errD_nil, Bool.not_eq_true', Bool.not_eq_false', decide_eq_true_eq, decide_eq_false_iff_not] at hc23); have ht30 := hc23
                  refine awp_seq ?_
                  refine awp_region rfl ?_
                  refine sP (opp_mv (v := .err _) rfl rfl) rfl rfl ?_
                  refine sP (opp_loadF rfl (ev_glob hG13) ty29) rfl rfl ?_
                  refine sR (opr_call rfl rfl ent133 rfl (c133 c 8 (hall _ (by omega) h20) (hall _ (by omega) (by omega))) (AViews.refl _ rfl)) rfl rfl rfl ?_ -- d=37 t=4
                  refine sP (opp_as (v := .bool _) rfl rfl) rfl rfl ?_
                  refine awp_cond _ rfl (fun hc26 => ?_) (fun hc26 => ?_)
                  · (try simp only [cmpI, errD_nil, Bool.not_eq_true', Bool.not_eq_false', decide_eq_true_eq, decide_eq_false_iff_not] at hc26); have ht34 := hc26
                    refine awp_seq ?_
                    refine awp_region rfl ?_
                    refine sP (opp_as (v := .int _ _) rfl rfl) rfl rfl ?_
                    refine awp_ret ?_
                    repeat (first | refine athen_ret ?_ | refine ain_ret ?_)
                    first
                      | refine apost_ret (aend1 (r0 := .int _ _) (.tmp .nil) (.noN rfl rfl) ⟨Wk.v ?_, rfl, rfl⟩)
                      | refine apost_ret (aend1s (r0 := .int _ _) (.tmp .nil) shut rfl ⟨Wk.v ?_, rfl, rfl⟩)
                    have hk : c = 8 := by omega
                    subst hk; exact .refl
                  · (try simp only [cmpI, errD_nil, Bool.not_eq_true', Bool.not_eq_false', decide_eq_true_eq, decide_eq_false_iff_not] at hc26); have ht34 := hc26
                    refine awp_seq ?_
                    refine awp_region rfl ?_
                    refine sP (opp_mv (v := .err _) rfl rfl) rfl rfl ?_
                    refine sP (opp_loadF rfl (ev_glob hG3) ty29) rfl rfl ?_
                    refine sR (opr_call rfl rfl ent133 rfl (c133 c 9 (hall _ (by omega) h20) (hall _ (by omega) (by omega))) (AViews.refl _ rfl)) rfl rfl rfl ?_ -- d=41 t=4
                    refine sP (opp_as (v := .bool _) rfl rfl) rfl rfl ?_
                    refine awp_cond _ rfl (fun hc29 => ?_) (fun hc29 => ?_)
                    · (try simp only [cmpI, errD_nil, Bool.not_eq_true', Bool.not_eq_false', decide_eq_true_eq, decide_eq_false_iff_not] at hc29); have ht38 := hc29
                      refine awp_seq ?_
                      refine awp_region rfl ?_
                      refine sP (opp_as (v := .int _ _) rfl rfl) rfl rfl ?_
                      refine awp_ret ?_
                      repeat (first | refine athen_ret ?_ | refine ain_ret ?_)
                      first
                        | refine apost_ret (aend1 (r0 := .int _ _) (.tmp .nil) (.noN rfl rfl) ⟨Wk.v ?_, rfl, rfl⟩)
                        | refine apost_ret (aend1s (r0 := .int _ _) (.tmp .nil) shut rfl ⟨Wk.v ?_, rfl, rfl⟩)
                      have hk : c = 9 := by omega
                      subst hk; exact .refl
                    · (try simp only [cmpI, errD_nil, Bool.not_eq_true', Bool.not_eq_false', decide_eq_true_eq, decide_eq_false_iff_not] at hc29); have ht38 := hc29
                      refine awp_seq ?_
                      refine awp_region rfl ?_
                      refine sP (opp_mv (v := .err _) rfl rfl) rfl rfl ?_
                      refine sP (opp_loadF rfl (ev_glob hG5) ty29) rfl rfl ?_
                      refine sR (opr_call rfl rfl ent133 rfl (c133 c 10 (hall _ (by omega) h20) (hall _ (by omega) (by omega))) (AViews.refl _ rfl)) rfl rfl rfl ?_ -- d=45 t=4
                      refine sP (opp_as (v := .bool _) rfl rfl) rfl rfl ?_
                      refine awp_cond _ rfl (fun hc32 => ?_) (fun hc32 => ?_)
                      · (try simp only [cmpI, errD_nil, Bool.not_eq_true', Bool.not_eq_false', decide_eq_true_eq, decide_eq_false_iff_not] at hc32); have ht42 := hc32
                        refine awp_seq ?_
                        refine awp_region rfl ?_
                        refine sP (opp_as (v := .int _ _) rfl rfl) rfl rfl ?_
                        refine awp_ret ?_
                        repeat (first | refine athen_ret ?_ | refine ain_ret ?_)
                        first
                          | refine apost_ret (aend1 (r0 := .int _ _) (.tmp .nil) (.noN rfl rfl) ⟨Wk.v ?_, rfl, rfl⟩)
                          | refine apost_ret (aend1s (r0 := .int _ _) (.tmp .nil) shut rfl ⟨Wk.v ?_, rfl, rfl⟩)
                        have hk : c = 10 := by omega
                        subst hk; exact .refl
                      · (try simp only [cmpI, errD_nil, Bool.not_eq_true', Bool.not_eq_false', decide_eq_true_eq, decide_eq_false_iff_not] at hc32); have ht42 := hc32
                        refine awp_skip ?_
                        refine awp_seq ?_
                        refine awp_region rfl ?_
                        refine sP (opp_mv (v := .err _) rfl rfl) rfl rfl ?_
                        refine sR (opr_call rfl rfl ent134 rfl (c134 c (by omega) h20 hS0) (AViews.refl _ rfl)) rfl rfl rfl ?_ -- d=47 t=3
                        refine sP (opp_as (v := .int _ _) rfl rfl) rfl rfl ?_
                        refine awp_ret ?_
                        repeat (first | refine athen_ret ?_ | refine ain_ret ?_)
                        first
                          | refine apost_ret (aend1 (r0 := .int _ _) (.tmp .nil) (.noN rfl rfl) ⟨Wk.v ?_, rfl, rfl⟩)
                          | refine apost_ret (aend1s (r0 := .int _ _) (.tmp .nil) shut rfl ⟨Wk.v ?_, rfl, rfl⟩)
                        exact .refl
theorem cn99 (hS : Sents cds gl) : APure (V ea cds gl) 99 [.err .nil] false (.int .i64 0) := by
  have hS0 := hS
  obtain ⟨hG0, hG11, hG12, hG8, hG1, hG9, hG4, hG13, hG3, hG5, hG6, hG2, hG15, hG7, hG16, hG17, hG18, hG19, hG20, hG21, hT, hall⟩ := hS
  refine acalls_of_body (N := 48) Tryd.func99 rfl rfl (Nat.le_of_ble_eq_true rfl) fun C hV hN hM hO => ?_
  obtain ⟨_, _, w0, G0, σ0, _, own0⟩ := C; dsimp only at hV hN hM hO; subst hV; subst hN; subst hM
  refine awp_seq ?_
  refine awp_region rfl ?_
  refine sP (opp_as (v := .int _ _) rfl rfl) rfl rfl ?_
  refine awp_seq ?_
  refine awp_block ?_
  refine awp_seq ?_
  refine awp_region rfl ?_
  refine sP (opp_mv (v := .err _) rfl rfl) rfl rfl ?_
  refine sP (opp_errNil rfl rfl rfl un29 (.inl ⟨rfl, rfl⟩)) rfl rfl ?_
  refine sP (opp_as (v := .bool _) rfl rfl) rfl rfl ?_
  refine awp_cond _ rfl (fun hc3 => ?_) (fun hc3 => ?_)
  · (try simp only [cmpI, errD_nil, Bool.not_eq_true', Bool.not_eq_false', decide_eq_true_eq, decide_eq_false_iff_not] at hc3); have ht3 := hc3
    refine awp_seq ?_
    refine awp_region rfl ?_
    refine sP (opp_as (v := .int _ _) rfl rfl) rfl rfl ?_
    refine awp_ret ?_
    repeat (first | refine athen_ret ?_ | refine ain_ret ?_)
    first
      | refine apost_ret (aend1 (r0 := .int _ _) (.tmp .nil) (.noN rfl rfl) ⟨Wk.v ?_, rfl, rfl⟩)
      | refine apost_ret (aend1s (r0 := .int _ _) (.tmp .nil) shut rfl ⟨Wk.v ?_, rfl, rfl⟩)
    exact .refl
  · (try simp only [cmpI, errD_nil, Bool.not_eq_true', Bool.not_eq_false', decide_eq_true_eq, decide_eq_false_iff_not] at hc3); have ht3 := hc3
    exfalso; simp [ErrD.isNil] at ht3
theorem ck99 (c : Nat) (hc : c ≤ 20) (hS : Sents cds gl) : APure (V ea cds gl) 99 [.err (errD c)] false (.int .i64 c) := by
  by_cases e : c = 0
  · subst e; exact cn99 hS
  · rw [show errD c = .code c from if_neg e]; exact c99 c (by omega) hc hS
end
end Go.Proofs.YtgaihhimkodmmaaDoor
/- Go's library: strings.Join (the shelf's contract); layer 20: the whole image (walks over this dump). -/
namespace Go.Proofs.YtgaihhimkodmmaaDoor
attribute [local irreducible] Tryd.prog
open Go.Fy Go.RowKit
set_option linter.unusedSimpArgs false
section
variable {ea : Nat → Addr} {cds : List Nat} {gl : Nat → Option AV}
end
end Go.Proofs.YtgaihhimkodmmaaDoor
/- Layer 22: an image on its way (walks over this dump). -/
namespace Go.Proofs.YtgaihhimkodmmaaDoor
attribute [local irreducible] Tryd.prog
open Go.Fy
set_option linter.unusedSimpArgs false
section
variable {ea : Nat → Addr} {cds : List Nat} {gl : Nat → Option AV}
end
end Go.Proofs.YtgaihhimkodmmaaDoor
/- Layer 22: what has come, whole; the law's fixed fact (walks over this dump). -/
namespace Go.Proofs.YtgaihhimkodmmaaDoor
attribute [local irreducible] Tryd.prog
open Go.Fy
set_option linter.unusedSimpArgs false
section
variable {ea : Nat → Addr} {cds : List Nat} {gl : Nat → Option AV}
end
end Go.Proofs.YtgaihhimkodmmaaDoor
/- The document's answers for layer 20: an image is cut; for layer 22: an image is started (walks over this dump). -/
namespace Go.Proofs.YtgaihhimkodmmaaDoor
attribute [local irreducible] Tryd.prog
open Go.Fy
set_option linter.unusedSimpArgs false
set_option linter.unusedVariables false
section
variable {ea : Nat → Addr} {cds : List Nat} {gl : Nat → Option AV}
theorem c104 (a : Int) : APure (V ea cds gl) 104 [.int .i64 a] false (.bool (Sp.goodPart a)) := by
  refine acalls_of_body (N := 9) Tryd.func104 rfl rfl (Nat.le_of_ble_eq_true rfl) fun C hV hN hM hO => ?_
  obtain ⟨_, _, w0, G0, σ0, _, own0⟩ := C; dsimp only at hV hN hM hO; subst hV; subst hN; subst hM
  refine awp_seq ?_
  refine awp_region rfl ?_
  refine sP (opp_as (v := .bool _) rfl rfl) rfl rfl ?_
  refine awp_seq ?_
  refine awp_region rfl ?_
  refine sP (opp_mv (v := .int _ _) rfl rfl) rfl rfl ?_
  refine sP (opp_cmp rfl rfl rfl rfl) rfl rfl ?_
  refine sP (opp_mv (v := .bool _) rfl rfl) rfl rfl ?_
  refine sG _ rfl rfl rfl rfl (fun hg => (And.intro gi (True.intro))) (fun hg => opp_mv (v := .int _ _) rfl rfl) ?_
  refine sG _ rfl rfl rfl rfl (fun hg => (And.intro gi (And.intro gi (True.intro)))) (fun hg => opp_cmp rfl rfl rfl rfl) ?_
  refine sPick rfl rfl rfl rfl (by exact True.intro) rfl rfl (fun hg => gi) (fun hg => gi) ?_
  refine sP (opp_as (v := .bool _) rfl rfl) rfl rfl ?_
  refine awp_ret ?_
  repeat (first | refine athen_ret ?_ | refine ain_ret ?_)
  first
    | refine apost_ret (aend1 (r0 := .bool _) (.tmp .nil) (.noN rfl rfl) ⟨Wk.v ?_, rfl, rfl⟩)
    | refine apost_ret (aend1s (r0 := .bool _) (.tmp .nil) shut rfl ⟨Wk.v ?_, rfl, rfl⟩)
  refine .of (congrArg AV.bool ?_)
  simp only [cmpI, Sp.goodPart, Sp.within]; by_cases h1 : 0 ≤ a <;> simp [h1]; omega
theorem c105 (x : Xid) : APure (V ea cds gl) 105 [xidAV x] false (.bool (Sp.goodXid x)) := by
  refine acalls_of_body (N := 31) Tryd.func105 rfl rfl (Nat.le_of_ble_eq_true rfl) fun C hV hN hM hO => ?_
  obtain ⟨_, _, w0, G0, σ0, _, own0⟩ := C; dsimp only at hV hN hM hO; subst hV; subst hN; subst hM
  refine awp_seq ?_
  refine awp_region rfl ?_
  refine sR (opr_box (y := .agg _) (n := 1) rfl rfl rfl) rfl rfl rfl ?_
  refine sP (opp_as (v := .bool _) rfl rfl) rfl rfl ?_
  refine awp_seq ?_
  refine awp_region rfl ?_
  first
    | refine sP (opp_fieldP rfl rfl fld23_0 rfl) rfl rfl ?_
    | refine sP (opp_fieldF rfl rfl rfl fld23_0 rfl rfl) rfl rfl ?_
  first
    | refine sP (opp_loadP rfl rfl rfl rfl bi rfl ty3) rfl rfl ?_
    | refine sP (opp_loadF rfl rfl ty3) rfl rfl ?_
  refine sP (opp_cmp rfl rfl rfl rfl) rfl rfl ?_
  refine sP (opp_mv (v := .bool _) rfl rfl) rfl rfl ?_
  first
    | refine sG _ rfl rfl rfl rfl (fun hg => (And.intro gi (True.intro))) (fun hg => opp_fieldP rfl rfl fld23_0 rfl) ?_
    | refine sG _ rfl rfl rfl rfl (fun hg => (And.intro gi (True.intro))) (fun hg => opp_fieldF rfl rfl rfl fld23_0 rfl rfl) ?_
  first
    | refine sG _ rfl rfl rfl rfl (fun hg => (And.intro gi (True.intro))) (fun hg => opp_loadP rfl rfl rfl rfl bi rfl ty3) ?_
    | refine sG _ rfl rfl rfl rfl (fun hg => (And.intro gi (True.intro))) (fun hg => opp_loadF rfl rfl ty3) ?_
  refine sG _ rfl rfl rfl rfl (fun hg => (And.intro gi (And.intro gi (True.intro)))) (fun hg => opp_cmp rfl rfl rfl rfl) ?_
  refine sPick rfl rfl rfl rfl (by exact True.intro) rfl rfl (fun hg => gi) (fun hg => gi) ?_
  refine sP (opp_mv (v := .bool _) rfl rfl) rfl rfl ?_
  first
    | refine sG _ rfl rfl rfl rfl (fun hg => (And.intro gi (True.intro))) (fun hg => opp_fieldP rfl rfl fld23_1 rfl) ?_
    | refine sG _ rfl rfl rfl rfl (fun hg => (And.intro gi (True.intro))) (fun hg => opp_fieldF rfl rfl rfl fld23_1 rfl rfl) ?_
  first
    | refine sG _ rfl rfl rfl rfl (fun hg => (And.intro gi (True.intro))) (fun hg => opp_loadP rfl rfl rfl rfl bi rfl ty3) ?_
    | refine sG _ rfl rfl rfl rfl (fun hg => (And.intro gi (True.intro))) (fun hg => opp_loadF rfl rfl ty3) ?_
  refine sG _ rfl rfl rfl rfl (fun hg => (And.intro gi (And.intro gi (True.intro)))) (fun hg => opp_cmp rfl rfl rfl rfl) ?_
  refine sPick rfl rfl rfl rfl (by exact True.intro) rfl rfl (fun hg => gi) (fun hg => gi) ?_
  refine sP (opp_mv (v := .bool _) rfl rfl) rfl rfl ?_
  first
    | refine sG _ rfl rfl rfl rfl (fun hg => (And.intro gi (True.intro))) (fun hg => opp_fieldP rfl rfl fld23_1 rfl) ?_
    | refine sG _ rfl rfl rfl rfl (fun hg => (And.intro gi (True.intro))) (fun hg => opp_fieldF rfl rfl rfl fld23_1 rfl rfl) ?_
  first
    | refine sG _ rfl rfl rfl rfl (fun hg => (And.intro gi (True.intro))) (fun hg => opp_loadP rfl rfl rfl rfl bi rfl ty3) ?_
    | refine sG _ rfl rfl rfl rfl (fun hg => (And.intro gi (True.intro))) (fun hg => opp_loadF rfl rfl ty3) ?_
  refine sG _ rfl rfl rfl rfl (fun hg => (And.intro gi (And.intro gi (True.intro)))) (fun hg => opp_cmp rfl rfl rfl rfl) ?_
  refine sPick rfl rfl rfl rfl (by exact True.intro) rfl rfl (fun hg => gi) (fun hg => gi) ?_
  refine sP (opp_mv (v := .bool _) rfl rfl) rfl rfl ?_
  first
    | refine sG _ rfl rfl rfl rfl (fun hg => (And.intro gi (True.intro))) (fun hg => opp_fieldP rfl rfl fld23_2 rfl) ?_
    | refine sG _ rfl rfl rfl rfl (fun hg => (And.intro gi (True.intro))) (fun hg => opp_fieldF rfl rfl rfl fld23_2 rfl rfl) ?_
  first
    | refine sG _ rfl rfl rfl rfl (fun hg => (And.intro gi (True.intro))) (fun hg => opp_loadP rfl rfl rfl rfl bi rfl ty3) ?_
    | refine sG _ rfl rfl rfl rfl (fun hg => (And.intro gi (True.intro))) (fun hg => opp_loadF rfl rfl ty3) ?_
  refine sG _ rfl rfl rfl rfl (fun hg => (And.intro gi (And.intro gi (True.intro)))) (fun hg => opp_cmp rfl rfl rfl rfl) ?_
  refine sPick rfl rfl rfl rfl (by exact True.intro) rfl rfl (fun hg => gi) (fun hg => gi) ?_
  refine sP (opp_mv (v := .bool _) rfl rfl) rfl rfl ?_
  first
    | refine sG _ rfl rfl rfl rfl (fun hg => (And.intro gi (True.intro))) (fun hg => opp_fieldP rfl rfl fld23_2 rfl) ?_
    | refine sG _ rfl rfl rfl rfl (fun hg => (And.intro gi (True.intro))) (fun hg => opp_fieldF rfl rfl rfl fld23_2 rfl rfl) ?_
  first
    | refine sG _ rfl rfl rfl rfl (fun hg => (And.intro gi (True.intro))) (fun hg => opp_loadP rfl rfl rfl rfl bi rfl ty3) ?_
    | refine sG _ rfl rfl rfl rfl (fun hg => (And.intro gi (True.intro))) (fun hg => opp_loadF rfl rfl ty3) ?_
  refine sG _ rfl rfl rfl rfl (fun hg => (And.intro gi (And.intro gi (True.intro)))) (fun hg => opp_cmp rfl rfl rfl rfl) ?_
  refine sPick rfl rfl rfl rfl (by exact True.intro) rfl rfl (fun hg => gi) (fun hg => gi) ?_
  refine sP (opp_as (v := .bool _) rfl rfl) rfl rfl ?_
  refine awp_ret ?_
  repeat (first | refine athen_ret ?_ | refine ain_ret ?_)
  first
    | refine apost_ret (aend1 (r0 := .bool _) (.tmp .nil) (.noN rfl rfl) ⟨Wk.v ?_, rfl, rfl⟩)
    | refine apost_ret (aend1s (r0 := .bool _) (.tmp .nil) shut rfl ⟨Wk.v ?_, rfl, rfl⟩)
  refine .of (congrArg AV.bool ?_)
  simp only [cmpI, Sp.goodXid, Sp.within]
  by_cases h1 : 1 ≤ x.boot <;> by_cases h2 : x.boot ≤ 2147483647 <;> by_cases h3 : 1 ≤ x.peer <;> by_cases h4 : x.peer ≤ 2147483647 <;> by_cases h5 : 1 ≤ x.num <;> by_cases h6 : x.num ≤ 2147483647 <;> simp [h1, h2, h3, h4, h5, h6]
/-- The first i pieces. -/
def notesTo (p : Int) (x : Xid) (st : Int) (im : List UInt8) (i : Nat) : List Note := (List.range i).map fun j => Sp.cutNote p x st im j j (Sp.total im)
theorem notesTo_succ (p : Int) (x : Xid) (st : Int) (im : List UInt8) (i : Nat) : notesTo p x st im (i + 1) = notesTo p x st im i ++ [Sp.cutNote p x st im i i (Sp.total im)] := by simp [notesTo, List.range_succ]
theorem notesTo_len (p : Int) (x : Xid) (st : Int) (im : List UInt8) (i : Nat) : (notesTo p x st im i).length = i := by simp [notesTo]
theorem c49 (p : Int) (x : Xid) (st : Int) (b : Bool) (im : List UInt8) (h0 : im.length ≤ 281474976710656) :
    APure (V ea cds gl) 49 [.int .i64 p, xidAV x, .int .i64 st, .sl 1 b im.length (bAt im)] true (.tup [.sl 10 (decide ((Sp.cut p x st im).1 = [])) (Sp.cut p x st im).1.length (noAt (Sp.cut p x st im).1), .int .i64 ((Sp.cut p x st im).2 : Nat)]) := by
  have htot : Sp.total im = (im.length + 127) / 128 := rfl
  refine acalls_of_body (N := 70) Tryd.func49 rfl rfl (Nat.le_of_ble_eq_true rfl) fun C hV hN hM hO => ?_
  obtain ⟨_, _, w0, G0, σ0, _, own0⟩ := C; dsimp only at hV hN hM hO; subst hV; subst hN; subst hM
  refine awp_seq ?_
  refine awp_region rfl ?_
  refine sR (opr_box (y := .agg _) (n := 5) rfl rfl rfl) rfl rfl rfl ?_
  first
    | refine sP (opp_as (v := .sl _ _ _ _) rfl rfl) rfl rfl ?_
    | refine sP (opp_as (v := .osl _ _ _ _ _) rfl rfl) rfl rfl ?_
  refine sP (opp_as (v := .int _ _) rfl rfl) rfl rfl ?_
  refine awp_seq ?_
  refine awp_seq ?_
  refine awp_region rfl ?_
  refine sP (opp_mv (v := .int _ _) rfl rfl) rfl rfl ?_
  refine sR (opr_call rfl rfl ent104 rfl (c104 _) (AViews.refl _ rfl)) rfl rfl rfl ?_ -- d=14 t=4
  refine sP (opp_not rfl rfl) rfl rfl ?_
  refine sP (opp_mv (v := .bool _) rfl rfl) rfl rfl ?_
  first
    | refine sG _ rfl rfl rfl rfl (fun hg => (And.intro gi (True.intro))) (fun hg => opp_loadP rfl rfl rfl rfl bi rfl ty23) ?_
    | refine sG _ rfl rfl rfl rfl (fun hg => (And.intro gi (True.intro))) (fun hg => opp_loadF rfl rfl ty23) ?_
  refine sGR _ rfl rfl rfl rfl (fun hg => (And.intro gi (And.intro gi (True.intro)))) (fun hg => (opr_call rfl rfl ent105 rfl (c105 _) (AViews.refl _ rfl))) ?_
  refine sG _ rfl rfl rfl rfl (fun hg => (And.intro gi (True.intro))) (fun hg => opp_not rfl rfl) ?_
  refine sPick rfl rfl rfl rfl (by exact True.intro) rfl rfl (fun hg => gi) (fun hg => gi) ?_
  refine sP (opp_mv (v := .bool _) rfl rfl) rfl rfl ?_
  refine sG _ rfl rfl rfl rfl (fun hg => (And.intro gi (True.intro))) (fun hg => opp_mv (v := .int _ _) rfl rfl) ?_
  refine sG _ rfl rfl rfl rfl (fun hg => (And.intro gi (And.intro gi (True.intro)))) (fun hg => opp_cmp rfl rfl rfl rfl) ?_
  refine sG _ rfl rfl rfl rfl (fun hg => (And.intro gi (True.intro))) (fun hg => opp_mv (v := .bool _) rfl rfl) ?_
  refine sG _ rfl rfl rfl rfl (fun hg => (And.intro gi (True.intro))) (fun hg => opp_mv (v := .int _ _) rfl rfl) ?_
  refine sG _ rfl rfl rfl rfl (fun hg => (And.intro gi (And.intro gi (True.intro)))) (fun hg => opp_cmp rfl rfl rfl rfl) ?_
  refine sPickG _ rfl rfl rfl rfl rfl rfl (fun hg => by first | exact True.intro | exact And.intro hg True.intro | (refine And.intro ?_ True.intro; simp_all; done)) rfl rfl (fun h0 hg => g2) (fun h0 hg => g2) ?_
  refine sPick rfl rfl rfl rfl (by exact True.intro) rfl rfl (fun hg => gi) (fun hg => gi) ?_
  refine awp_cond _ rfl (fun hc3 => ?_) (fun hc3 => ?_)
  · (try simp only [cmpI, errD_nil, Bool.not_eq_true', Bool.not_eq_false', decide_eq_true_eq, decide_eq_false_iff_not] at hc3); have ht28 := hc3
    refine awp_seq ?_
    refine awp_region rfl ?_
    first
      | refine sP (opp_as (v := .sl _ _ _ _) rfl rfl) rfl rfl ?_
      | refine sP (opp_as (v := .osl _ _ _ _ _) rfl rfl) rfl rfl ?_
    refine sP (opp_as (v := .int _ _) rfl rfl) rfl rfl ?_
    refine awp_ret ?_
    repeat (first | refine athen_ret ?_ | refine ain_ret ?_)
    first
      | refine apost_ret (aend (l := [.sl _ _ _ _, .int _ _]) (.tmp (.tmp .nil)) (fun h => by cases h) (.cons (.noN rfl rfl) (.cons (.noN rfl rfl) .nil)) ⟨Wk.v ?_, rfl, rfl⟩)
      | refine apost_ret (aends (l := [.sl _ _ _ _, .int _ _]) (.tmp (.tmp .nil)) (fun h => by cases h) (.cons shut (fun h => by cases h) (.cons shut (fun h => by cases h) .nil)) rfl ⟨Wk.v ?_, rfl, rfl⟩)
      | refine apost_ret (aend (l := [.osl _ _ _ _ _, .int _ _]) (.tmp (.tmp .nil)) (fun h => by cases h) (.cons (.noN rfl rfl) (.cons (.noN rfl rfl) .nil)) ⟨Wk.v ?_, rfl, rfl⟩)
      | refine apost_ret (aends (l := [.osl _ _ _ _ _, .int _ _]) (.tmp (.tmp .nil)) (fun h => by cases h) (.cons shut (fun h => by cases h) (.cons shut (fun h => by cases h) .nil)) rfl ⟨Wk.v ?_, rfl, rfl⟩)
    have hq : (Sp.goodPart p && Sp.goodXid x && Sp.goodStage st) = false := by
      revert ht28; simp only [Sp.goodStage]; cases Sp.goodPart p <;> cases Sp.goodXid x <;> by_cases h1 : st = 1 <;> by_cases h2 : st = 2 <;> simp [cmpI, h1, h2]
    rw [show Sp.cut p x st im = ([], 12) from if_pos hq]; show Wk _ (.tup [.sl 10 true 0 _, .int .i64 12]); (repeat' (first | exact Wk.refl | exact Wk.sl0 | apply Wk.tup | apply Wk.agg | apply WkL.cons | exact WkL.nil | refine Wk.sl (fun _ _ => ?_)))
  · (try simp only [cmpI, errD_nil, Bool.not_eq_true', Bool.not_eq_false', decide_eq_true_eq, decide_eq_false_iff_not] at hc3); have ht28 := hc3
    refine awp_skip ?_
    refine awp_seq ?_
    refine awp_seq ?_
    have hq : ¬ (Sp.goodPart p && Sp.goodXid x && Sp.goodStage st) = false := by
      revert ht28; simp only [Sp.goodStage]; cases Sp.goodPart p <;> cases Sp.goodXid x <;> by_cases h1 : st = 1 <;> by_cases h2 : st = 2 <;> simp [cmpI, h1, h2]
    refine awp_region rfl ?_
    first
      | refine sP (opp_mv (v := .sl _ _ _ _) rfl rfl) rfl rfl ?_
      | refine sP (opp_mv (v := .osl _ _ _ _ _) rfl rfl) rfl rfl ?_
    first
      | refine sP (opp_lenSl rfl rfl un36) rfl rfl ?_
      | refine sP (opp_lenOsl rfl rfl un36) rfl rfl ?_
    refine sP (opp_cmp rfl rfl rfl rfl) rfl rfl ?_
    refine sP (opp_mv (v := .bool _) rfl rfl) rfl rfl ?_
    first
      | refine sG _ rfl rfl rfl rfl (fun hg => (And.intro gi (True.intro))) (fun hg => opp_mv (v := .sl _ _ _ _) rfl rfl) ?_
      | refine sG _ rfl rfl rfl rfl (fun hg => (And.intro gi (True.intro))) (fun hg => opp_mv (v := .osl _ _ _ _ _) rfl rfl) ?_
    first
      | refine sG _ rfl rfl rfl rfl (fun hg => (And.intro gi (True.intro))) (fun hg => opp_lenSl rfl rfl un36) ?_
      | refine sG _ rfl rfl rfl rfl (fun hg => (And.intro gi (True.intro))) (fun hg => opp_lenOsl rfl rfl un36) ?_
    refine sG _ rfl rfl rfl rfl (fun hg => (And.intro gi (And.intro gi (True.intro)))) (fun hg => opp_cmp rfl rfl rfl rfl) ?_
    refine sPick rfl rfl rfl rfl (by exact True.intro) rfl rfl (fun hg => gi) (fun hg => gi) ?_
    refine awp_cond _ rfl (fun hc6 => ?_) (fun hc6 => ?_)
    · (try simp only [cmpI, errD_nil, Bool.not_eq_true', Bool.not_eq_false', decide_eq_true_eq, decide_eq_false_iff_not] at hc6); have ht36 := hc6
      refine awp_seq ?_
      refine awp_region rfl ?_
      first
        | refine sP (opp_as (v := .sl _ _ _ _) rfl rfl) rfl rfl ?_
        | refine sP (opp_as (v := .osl _ _ _ _ _) rfl rfl) rfl rfl ?_
      refine sP (opp_as (v := .int _ _) rfl rfl) rfl rfl ?_
      refine awp_ret ?_
      repeat (first | refine athen_ret ?_ | refine ain_ret ?_)
      first
        | refine apost_ret (aend (l := [.sl _ _ _ _, .int _ _]) (.tmp (.tmp .nil)) (fun h => by cases h) (.cons (.noN rfl rfl) (.cons (.noN rfl rfl) .nil)) ⟨Wk.v ?_, rfl, rfl⟩)
        | refine apost_ret (aends (l := [.sl _ _ _ _, .int _ _]) (.tmp (.tmp .nil)) (fun h => by cases h) (.cons shut (fun h => by cases h) (.cons shut (fun h => by cases h) .nil)) rfl ⟨Wk.v ?_, rfl, rfl⟩)
        | refine apost_ret (aend (l := [.osl _ _ _ _ _, .int _ _]) (.tmp (.tmp .nil)) (fun h => by cases h) (.cons (.noN rfl rfl) (.cons (.noN rfl rfl) .nil)) ⟨Wk.v ?_, rfl, rfl⟩)
        | refine apost_ret (aends (l := [.osl _ _ _ _ _, .int _ _]) (.tmp (.tmp .nil)) (fun h => by cases h) (.cons shut (fun h => by cases h) (.cons shut (fun h => by cases h) .nil)) rfl ⟨Wk.v ?_, rfl, rfl⟩)
      have hw : Sp.within im.length 1 4096 = false := by
        simp only [Sp.within, decide_eq_false_iff_not]; by_cases h1 : im.length = 0
        · omega
        · simp [cmpI, h1] at ht36; omega
      rw [show Sp.cut p x st im = ([], 11) by rw [Sp.cut, if_neg hq, if_pos hw]]; show Wk _ (.tup [.sl 10 true 0 _, .int .i64 11]); (repeat' (first | exact Wk.refl | exact Wk.sl0 | apply Wk.tup | apply Wk.agg | apply WkL.cons | exact WkL.nil | refine Wk.sl (fun _ _ => ?_)))
    · (try simp only [cmpI, errD_nil, Bool.not_eq_true', Bool.not_eq_false', decide_eq_true_eq, decide_eq_false_iff_not] at hc6); have ht36 := hc6
      refine awp_skip ?_
      refine awp_seq ?_
      have hw : 1 ≤ im.length ∧ im.length ≤ 4096 := by
        by_cases h1 : im.length = 0
        · simp [h1] at ht36
        · simp [cmpI, h1] at ht36; omega
      have hcut : Sp.cut p x st im = (notesTo p x st im (Sp.total im), 0) := by
        have hw2 : ¬ Sp.within im.length 1 4096 = false := by simp only [Sp.within, decide_eq_false_iff_not]; omega
        rw [Sp.cut, if_neg hq, if_neg hw2]; rfl
      refine awp_region rfl ?_
      refine sP (opp_as (v := .int _ _) rfl rfl) rfl rfl ?_
      refine awp_seq ?_
      refine awp_block ?_
      refine awp_loopK (ι := Nat) (fun i => i ≤ Sp.total im) (fun i => [(10, .int .i64 i), (37, .top), (38, .top), (39, .top), (40, .top), (41, .top), (42, .top), (43, .top)]) (fun i => []) [] (fun i => Sp.total im - i) (0) (Nat.zero_le _) (by
        refine imp_over [] rfl rfl (by kernel_rfl) ?_ ?_
        · refine And.intro wkv ?_
          refine And.intro wkv ?_
          refine And.intro wkv ?_
          refine And.intro wkv ?_
          refine And.intro wkv ?_
          refine And.intro wkv ?_
          refine And.intro wkv ?_
          refine And.intro wkv ?_
          exact True.intro
        · exact True.intro
        ) ?_
      intro i hi1
      refine awp_seq ?_
      refine awp_seq ?_
      refine awp_region rfl ?_
      refine sP (opp_mv (v := .int _ _) rfl rfl) rfl rfl ?_
      first
        | refine sP (opp_arith rfl rfl rfl (.inr <| .inr <| .inl ⟨rfl, w64 (by omega)⟩)) rfl rfl ?_
        | refine sP (opp_arith rfl rfl rfl (.inr <| .inr <| .inl ⟨rfl, rfl⟩)) rfl rfl ?_
      first
        | refine sP (opp_mv (v := .sl _ _ _ _) rfl rfl) rfl rfl ?_
        | refine sP (opp_mv (v := .osl _ _ _ _ _) rfl rfl) rfl rfl ?_
      first
        | refine sP (opp_lenSl rfl rfl un36) rfl rfl ?_
        | refine sP (opp_lenOsl rfl rfl un36) rfl rfl ?_
      refine sP (opp_cmp rfl rfl rfl rfl) rfl rfl ?_
      refine awp_cond _ rfl (fun hc10 => ?_) (fun hc10 => ?_)
      · (try simp only [cmpI, errD_nil, Bool.not_eq_true', Bool.not_eq_false', decide_eq_true_eq, decide_eq_false_iff_not] at hc10); have ht41 := hc10
        refine awp_skip ?_
        refine awp_block ?_
        refine awp_region rfl ?_
        refine sP (opp_mv (v := .int _ _) rfl rfl) rfl rfl ?_
        first
          | refine sP (opp_arith rfl rfl rfl (.inl ⟨rfl, w64 (by omega)⟩)) rfl rfl ?_
          | refine sP (opp_arith rfl rfl rfl (.inl ⟨rfl, rfl⟩)) rfl rfl ?_
        refine sP (opp_as (v := .int _ _) rfl rfl) rfl rfl ?_
        refine Exists.intro (i + 1) (And.intro (And.intro ((by show i + 1 ≤ Sp.total im; omega)) (by omega)) (by
          refine imp_over [] rfl rfl (by kernel_rfl) ?_ ?_
          · refine And.intro wkv ?_
            refine And.intro wkv ?_
            refine And.intro wkv ?_
            refine And.intro wkv ?_
            refine And.intro wkv ?_
            refine And.intro wkv ?_
            refine And.intro wkv ?_
            refine And.intro wkv ?_
            exact True.intro
          · exact True.intro
          ))
      · (try simp only [cmpI, errD_nil, Bool.not_eq_true', Bool.not_eq_false', decide_eq_true_eq, decide_eq_false_iff_not] at hc10); have ht41 := hc10
        refine awp_exit ?_
        refine awp_seq ?_
        have hi0 : i = Sp.total im := by omega
        subst hi0
        refine awp_region rfl ?_
        first
          | refine sP (opp_as (v := .sl _ _ _ _) rfl rfl) rfl rfl ?_
          | refine sP (opp_as (v := .osl _ _ _ _ _) rfl rfl) rfl rfl ?_
        refine awp_seq ?_
        refine awp_seq ?_
        refine awp_region rfl ?_
        refine sP (opp_as (v := .int _ _) rfl rfl) rfl rfl ?_
        refine awp_block ?_
        refine awp_loopK (ι := Nat × Bool) (fun p2 => p2.1 ≤ Sp.total im ∧ (p2.2 = true ↔ p2.1 = 0)) (fun p2 => [(11, cond p2.2 (.sl 1 true 0 (fun _ => .top)) (.osl 1011 10 0 (notesTo p x st im p2.1).length (notesTo p x st im p2.1).length)), (12, .int .i64 p2.1), (44, .top), (45, .top), (46, .top), (47, .top), (48, .top), (49, .top), (50, .top), (51, .top), (52, .top), (53, .top), (54, .top), (55, .top), (56, .top), (57, .top), (58, .top), (59, .top), (60, .top), (61, .top), (62, .top), (63, .top), (64, .top), (65, .top), (66, .top), (67, .top), (68, .top)]) (fun p2 => [(1011, cond p2.2 none (some (.arr 10 (notesTo p x st im p2.1).length (noAt (notesTo p x st im p2.1)))))]) [1011] (fun p2 => Sp.total im - p2.1) ((0, true)) (⟨Nat.zero_le _, by simp⟩) (by
          refine imp_over [] rfl rfl (by kernel_rfl) ?_ ?_
          · refine And.intro wkv ?_
            refine And.intro wkv ?_
            refine And.intro wkv ?_
            refine And.intro wkv ?_
            refine And.intro wkv ?_
            refine And.intro wkv ?_
            refine And.intro wkv ?_
            refine And.intro wkv ?_
            refine And.intro wkv ?_
            refine And.intro wkv ?_
            refine And.intro wkv ?_
            refine And.intro wkv ?_
            refine And.intro wkv ?_
            refine And.intro wkv ?_
            refine And.intro wkv ?_
            refine And.intro wkv ?_
            refine And.intro wkv ?_
            refine And.intro wkv ?_
            refine And.intro wkv ?_
            refine And.intro wkv ?_
            refine And.intro wkv ?_
            refine And.intro wkv ?_
            refine And.intro wkv ?_
            refine And.intro wkv ?_
            refine And.intro wkv ?_
            refine And.intro wkv ?_
            refine And.intro wkv ?_
            exact True.intro
          · exact True.intro
          ) ?_
        intro p2 hi1; obtain ⟨i, e⟩ := p2; rcases e with _ | _
        · dsimp only [cond] at hi1 ⊢; have hdl := notesTo_len p x st im i
          refine awp_seq ?_
          refine awp_seq ?_
          refine awp_region rfl ?_
          refine sP (opp_mv (v := .int _ _) rfl rfl) rfl rfl ?_
          refine sP (opp_mv (v := .int _ _) rfl rfl) rfl rfl ?_
          refine sP (opp_cmp rfl rfl rfl rfl) rfl rfl ?_
          refine awp_cond _ rfl (fun hc15 => ?_) (fun hc15 => ?_)
          · (try simp only [cmpI, errD_nil, Bool.not_eq_true', Bool.not_eq_false', decide_eq_true_eq, decide_eq_false_iff_not] at hc15); have ht46 := hc15
            refine awp_skip ?_
            refine awp_seq ?_
            refine awp_block ?_
            refine awp_draw hmix rfl (by kernel_rfl) ?_
            first
              | refine dP (fun _ => false) (opp_mv (v := .sl _ _ _ _) rfl rfl) rfl rfl ?_
              | refine dP (fun _ => false) (opp_mv (v := .osl _ _ _ _ _) rfl rfl) rfl rfl ?_
            refine dP (fun _ => false) (opp_mv (v := .int _ _) rfl rfl) rfl rfl ?_
            first
              | refine dP (fun n => Nat.beq n 5) (opp_loadP rfl rfl rfl rfl bi rfl ty23) rfl rfl ?_
              | refine dP (fun n => Nat.beq n 5) (opp_loadF rfl rfl ty23) rfl rfl ?_
            refine dP (fun _ => false) (opp_mv (v := .int _ _) rfl rfl) rfl rfl ?_
            refine dP (fun _ => false) (opp_mv (v := .int _ _) rfl rfl) rfl rfl ?_
            refine dP (fun _ => false) (opp_mv (v := .int _ _) rfl rfl) rfl rfl ?_
            first
              | refine dP (fun _ => false) (opp_mv (v := .sl _ _ _ _) rfl rfl) rfl rfl ?_
              | refine dP (fun _ => false) (opp_mv (v := .osl _ _ _ _ _) rfl rfl) rfl rfl ?_
            refine dP (fun _ => false) (opp_mv (v := .int _ _) rfl rfl) rfl rfl ?_
            first
              | refine dP (fun _ => false) (opp_arith rfl rfl rfl (.inr <| .inr <| .inl ⟨rfl, w64 (by omega)⟩)) rfl rfl ?_
              | refine dP (fun _ => false) (opp_arith rfl rfl rfl (.inr <| .inr <| .inl ⟨rfl, rfl⟩)) rfl rfl ?_
            first
              | refine dP (fun _ => false) (opp_mv (v := .sl _ _ _ _) rfl rfl) rfl rfl ?_
              | refine dP (fun _ => false) (opp_mv (v := .osl _ _ _ _ _) rfl rfl) rfl rfl ?_
            first
              | refine dP (fun _ => false) (opp_lenSl rfl rfl un36) rfl rfl ?_
              | refine dP (fun _ => false) (opp_lenOsl rfl rfl un36) rfl rfl ?_
            refine dP (fun _ => false) (opp_mv (v := .int _ _) rfl rfl) rfl rfl ?_
            first
              | refine dP (fun _ => false) (opp_arith rfl rfl rfl (.inr <| .inr <| .inl ⟨rfl, w64 (by omega)⟩)) rfl rfl ?_
              | refine dP (fun _ => false) (opp_arith rfl rfl rfl (.inr <| .inr <| .inl ⟨rfl, rfl⟩)) rfl rfl ?_
            first
              | refine dP (fun _ => false) (opp_arith rfl rfl rfl (.inl ⟨rfl, w64 (by omega)⟩)) rfl rfl ?_
              | refine dP (fun _ => false) (opp_arith rfl rfl rfl (.inl ⟨rfl, rfl⟩)) rfl rfl ?_
            refine dP (fun _ => false) (opp_min rfl rfl rfl) rfl rfl ?_
            refine dP (fun _ => false) (opp_sliceSl rfl rfl rfl rfl el36 (by omega) (by omega) (by omega)) rfl rfl ?_
            refine dP (fun _ => false) (opp_bytesStr rfl rfl (Sp.pieceOf im i) (by rw [Sp.pieceOf_length]; omega) (fun j hj => by rw [Sp.pieceOf_get im i j (by omega), show 128 * i + j = ((i : Int) * 128).toNat + j by omega]; rfl) un36 unu8 un9) rfl rfl ?_
            refine dP (fun _ => false) (opp_build rfl z26 bld26 rfl [.int _ _, .int _ _, .agg _, .int _ _, .int _ _, .int _ _, .int .u32 0, .str _] rfl) rfl rfl ?_
            refine dR (fun _ => false) (opr_buildSlice (n := 67) (g := fun j => if j = 0 then .agg _ else .agg [.int .i64 0, .int .i64 0, .agg [.int .i64 0, .int .i64 0, .int .i64 0], .int .i64 0, .int .i64 0, .int .i64 0, .int .u32 0, .str []]) rfl eb48 z26 (by decide) rfl rfl) rfl rfl rfl ?_
            first
              | refine dR (fun n => Nat.beq n 67 || Nat.beq n 1011) (opr_append (d := 68) rfl rfl rfl (by omega) (.osl0 rfl (by omega)) eb48 z26 (by omega) (by omega)) rfl rfl rfl ?_
              | refine dR (fun n => Nat.beq n 67 || Nat.beq n 1011) (opr_append (d := 68) rfl rfl rfl (by omega) .sl eb48 z26 (by omega) (by omega)) rfl rfl rfl ?_
              | refine dR (fun n => Nat.beq n 67 || Nat.beq n 1011) (opr_append (d := 68) rfl rfl rfl (by omega) (.osl rfl (by omega) (fun _ _ => rfl)) eb48 z26 (by omega) (by omega)) rfl rfl rfl ?_
              | refine dR (fun n => Nat.beq n 67 || Nat.beq n 1011) (opr_appendNil (d := 68) rfl rfl (.osl0 rfl (by omega)) eb48 z26 (by omega) (by omega) (by omega)) rfl rfl rfl ?_
              | refine dR (fun n => Nat.beq n 67 || Nat.beq n 1011) (opr_appendNil (d := 68) rfl rfl .sl eb48 z26 (by omega) (by omega) (by omega)) rfl rfl rfl ?_
              | refine dR (fun n => Nat.beq n 67 || Nat.beq n 1011) (opr_appendNil (d := 68) rfl rfl (.osl rfl (by omega) (fun _ _ => rfl)) eb48 z26 (by omega) (by omega) (by omega)) rfl rfl rfl ?_
            first
              | refine dP (fun _ => false) (opp_as (v := .sl _ _ _ _) rfl rfl) rfl rfl ?_
              | refine dP (fun _ => false) (opp_as (v := .osl _ _ _ _ _) rfl rfl) rfl rfl ?_
            refine And.intro (by kernel_rfl) ?_
            refine awp_region rfl ?_
            refine sP (opp_mv (v := .int _ _) rfl rfl) rfl rfl ?_
            first
              | refine sP (opp_arith rfl rfl rfl (.inl ⟨rfl, w64 (by omega)⟩)) rfl rfl ?_
              | refine sP (opp_arith rfl rfl rfl (.inl ⟨rfl, rfl⟩)) rfl rfl ?_
            refine sP (opp_as (v := .int _ _) rfl rfl) rfl rfl ?_
            refine Exists.intro ((i + 1, false)) (And.intro (And.intro (And.intro (by show i + 1 ≤ Sp.total im; omega) (by simp)) (by omega)) (by
              refine imp_over [(1011, 68)] rfl rfl (by kernel_rfl) ?_ ?_
              · refine And.intro (by exact Or.inr (And.intro rfl (WkV.of (by show AV.osl 68 10 0 _ _ = AV.osl 68 10 0 _ _; rw [notesTo_succ]; simp)))) ?_
                refine And.intro wkv ?_
                refine And.intro wkv ?_
                refine And.intro wkv ?_
                refine And.intro wkv ?_
                refine And.intro wkv ?_
                refine And.intro wkv ?_
                refine And.intro wkv ?_
                refine And.intro wkv ?_
                refine And.intro wkv ?_
                refine And.intro wkv ?_
                refine And.intro wkv ?_
                refine And.intro wkv ?_
                refine And.intro wkv ?_
                refine And.intro wkv ?_
                refine And.intro wkv ?_
                refine And.intro wkv ?_
                refine And.intro wkv ?_
                refine And.intro wkv ?_
                refine And.intro wkv ?_
                refine And.intro wkv ?_
                refine And.intro wkv ?_
                refine And.intro wkv ?_
                refine And.intro wkv ?_
                refine And.intro wkv ?_
                refine And.intro wkv ?_
                refine And.intro wkv ?_
                exact True.intro
              · refine And.intro (And.intro rfl (And.intro rfl (Exists.intro _ (And.intro rfl (by show WkC (AV.arr 10 _ _) (AV.arr 10 _ _); rw [notesTo_succ, List.length_append]; exact WkC.arr (fun j hj => no_append _ (Sp.cutNote p x st im i i (Sp.total im)) j _ rfl _ hj)))))) ?_
                exact True.intro
              ))
          · (try simp only [cmpI, errD_nil, Bool.not_eq_true', Bool.not_eq_false', decide_eq_true_eq, decide_eq_false_iff_not] at hc15); have ht46 := hc15
            refine awp_exit ?_
            refine awp_seq ?_
            refine awp_region rfl ?_
            first
              | refine sP (opp_mv (v := .sl _ _ _ _) rfl rfl) rfl rfl ?_
              | refine sP (opp_mv (v := .osl _ _ _ _ _) rfl rfl) rfl rfl ?_
            first
              | refine sP (opp_as (v := .sl _ _ _ _) rfl rfl) rfl rfl ?_
              | refine sP (opp_as (v := .osl _ _ _ _ _) rfl rfl) rfl rfl ?_
            refine sP (opp_as (v := .int _ _) rfl rfl) rfl rfl ?_
            refine awp_ret ?_
            repeat (first | refine athen_ret ?_ | refine ain_ret ?_)
            first
              | refine apost_ret (aend (l := [.sl _ _ _ _, .int _ _]) (.tmp (.tmp .nil)) (fun h => by cases h) (.cons (.noN rfl rfl) (.cons (.noN rfl rfl) .nil)) ⟨Wk.v ?_, rfl, rfl⟩)
              | refine apost_ret (aends (l := [.sl _ _ _ _, .int _ _]) (.tmp (.tmp .nil)) (fun h => by cases h) (.cons shut (fun h => by cases h) (.cons shut (fun h => by cases h) .nil)) rfl ⟨Wk.v ?_, rfl, rfl⟩)
              | refine apost_ret (aend (l := [.osl _ _ _ _ _, .int _ _]) (.tmp (.tmp .nil)) (fun h => by cases h) (.cons (.noN rfl rfl) (.cons (.noN rfl rfl) .nil)) ⟨Wk.v ?_, rfl, rfl⟩)
              | refine apost_ret (aends (l := [.osl _ _ _ _ _, .int _ _]) (.tmp (.tmp .nil)) (fun h => by cases h) (.cons shut (fun h => by cases h) (.cons shut (fun h => by cases h) .nil)) rfl ⟨Wk.v ?_, rfl, rfl⟩)
            have hi2 : i = Sp.total im := by omega
            subst hi2
            have hne : notesTo p x st im (Sp.total im) ≠ [] := fun h => by have := congrArg List.length h; rw [notesTo_len] at this; simp at this; omega
            rw [hcut]; simp only [decide_eq_false hne]; (repeat' (first | exact Wk.refl | exact Wk.sl0 | apply Wk.tup | apply Wk.agg | apply WkL.cons | exact WkL.nil | refine Wk.sl (fun _ _ => ?_)))
        · dsimp only [cond] at hi1 ⊢; have hdl := notesTo_len p x st im i
          refine awp_seq ?_
          refine awp_seq ?_
          refine awp_region rfl ?_
          refine sP (opp_mv (v := .int _ _) rfl rfl) rfl rfl ?_
          refine sP (opp_mv (v := .int _ _) rfl rfl) rfl rfl ?_
          refine sP (opp_cmp rfl rfl rfl rfl) rfl rfl ?_
          refine awp_cond _ rfl (fun hc20 => ?_) (fun hc20 => ?_)
          · (try simp only [cmpI, errD_nil, Bool.not_eq_true', Bool.not_eq_false', decide_eq_true_eq, decide_eq_false_iff_not] at hc20); have ht46 := hc20
            refine awp_skip ?_
            refine awp_seq ?_
            refine awp_block ?_
            refine awp_draw hmix rfl (by kernel_rfl) ?_
            first
              | refine dP (fun _ => false) (opp_mv (v := .sl _ _ _ _) rfl rfl) rfl rfl ?_
              | refine dP (fun _ => false) (opp_mv (v := .osl _ _ _ _ _) rfl rfl) rfl rfl ?_
            refine dP (fun _ => false) (opp_mv (v := .int _ _) rfl rfl) rfl rfl ?_
            first
              | refine dP (fun n => Nat.beq n 5) (opp_loadP rfl rfl rfl rfl bi rfl ty23) rfl rfl ?_
              | refine dP (fun n => Nat.beq n 5) (opp_loadF rfl rfl ty23) rfl rfl ?_
            refine dP (fun _ => false) (opp_mv (v := .int _ _) rfl rfl) rfl rfl ?_
            refine dP (fun _ => false) (opp_mv (v := .int _ _) rfl rfl) rfl rfl ?_
            refine dP (fun _ => false) (opp_mv (v := .int _ _) rfl rfl) rfl rfl ?_
            first
              | refine dP (fun _ => false) (opp_mv (v := .sl _ _ _ _) rfl rfl) rfl rfl ?_
              | refine dP (fun _ => false) (opp_mv (v := .osl _ _ _ _ _) rfl rfl) rfl rfl ?_
            refine dP (fun _ => false) (opp_mv (v := .int _ _) rfl rfl) rfl rfl ?_
            first
              | refine dP (fun _ => false) (opp_arith rfl rfl rfl (.inr <| .inr <| .inl ⟨rfl, w64 (by omega)⟩)) rfl rfl ?_
              | refine dP (fun _ => false) (opp_arith rfl rfl rfl (.inr <| .inr <| .inl ⟨rfl, rfl⟩)) rfl rfl ?_
            first
              | refine dP (fun _ => false) (opp_mv (v := .sl _ _ _ _) rfl rfl) rfl rfl ?_
              | refine dP (fun _ => false) (opp_mv (v := .osl _ _ _ _ _) rfl rfl) rfl rfl ?_
            first
              | refine dP (fun _ => false) (opp_lenSl rfl rfl un36) rfl rfl ?_
              | refine dP (fun _ => false) (opp_lenOsl rfl rfl un36) rfl rfl ?_
            refine dP (fun _ => false) (opp_mv (v := .int _ _) rfl rfl) rfl rfl ?_
            first
              | refine dP (fun _ => false) (opp_arith rfl rfl rfl (.inr <| .inr <| .inl ⟨rfl, w64 (by omega)⟩)) rfl rfl ?_
              | refine dP (fun _ => false) (opp_arith rfl rfl rfl (.inr <| .inr <| .inl ⟨rfl, rfl⟩)) rfl rfl ?_
            first
              | refine dP (fun _ => false) (opp_arith rfl rfl rfl (.inl ⟨rfl, w64 (by omega)⟩)) rfl rfl ?_
              | refine dP (fun _ => false) (opp_arith rfl rfl rfl (.inl ⟨rfl, rfl⟩)) rfl rfl ?_
            refine dP (fun _ => false) (opp_min rfl rfl rfl) rfl rfl ?_
            refine dP (fun _ => false) (opp_sliceSl rfl rfl rfl rfl el36 (by omega) (by omega) (by omega)) rfl rfl ?_
            refine dP (fun _ => false) (opp_bytesStr rfl rfl (Sp.pieceOf im i) (by rw [Sp.pieceOf_length]; omega) (fun j hj => by rw [Sp.pieceOf_get im i j (by omega), show 128 * i + j = ((i : Int) * 128).toNat + j by omega]; rfl) un36 unu8 un9) rfl rfl ?_
            refine dP (fun _ => false) (opp_build rfl z26 bld26 rfl [.int _ _, .int _ _, .agg _, .int _ _, .int _ _, .int _ _, .int .u32 0, .str _] rfl) rfl rfl ?_
            refine dR (fun _ => false) (opr_buildSlice (n := 67) (g := fun j => if j = 0 then .agg _ else .agg [.int .i64 0, .int .i64 0, .agg [.int .i64 0, .int .i64 0, .int .i64 0], .int .i64 0, .int .i64 0, .int .i64 0, .int .u32 0, .str []]) rfl eb48 z26 (by decide) rfl rfl) rfl rfl rfl ?_
            first
              | refine dR (fun n => Nat.beq n 67 || Nat.beq n 1011) (opr_append (d := 68) rfl rfl rfl (by omega) (.osl0 rfl (by omega)) eb48 z26 (by omega) (by omega)) rfl rfl rfl ?_
              | refine dR (fun n => Nat.beq n 67 || Nat.beq n 1011) (opr_append (d := 68) rfl rfl rfl (by omega) .sl eb48 z26 (by omega) (by omega)) rfl rfl rfl ?_
              | refine dR (fun n => Nat.beq n 67 || Nat.beq n 1011) (opr_append (d := 68) rfl rfl rfl (by omega) (.osl rfl (by omega) (fun _ _ => rfl)) eb48 z26 (by omega) (by omega)) rfl rfl rfl ?_
              | refine dR (fun n => Nat.beq n 67 || Nat.beq n 1011) (opr_appendNil (d := 68) rfl rfl (.osl0 rfl (by omega)) eb48 z26 (by omega) (by omega) (by omega)) rfl rfl rfl ?_
              | refine dR (fun n => Nat.beq n 67 || Nat.beq n 1011) (opr_appendNil (d := 68) rfl rfl .sl eb48 z26 (by omega) (by omega) (by omega)) rfl rfl rfl ?_
              | refine dR (fun n => Nat.beq n 67 || Nat.beq n 1011) (opr_appendNil (d := 68) rfl rfl (.osl rfl (by omega) (fun _ _ => rfl)) eb48 z26 (by omega) (by omega) (by omega)) rfl rfl rfl ?_
            first
              | refine dP (fun _ => false) (opp_as (v := .sl _ _ _ _) rfl rfl) rfl rfl ?_
              | refine dP (fun _ => false) (opp_as (v := .osl _ _ _ _ _) rfl rfl) rfl rfl ?_
            refine And.intro (by kernel_rfl) ?_
            refine awp_region rfl ?_
            refine sP (opp_mv (v := .int _ _) rfl rfl) rfl rfl ?_
            first
              | refine sP (opp_arith rfl rfl rfl (.inl ⟨rfl, w64 (by omega)⟩)) rfl rfl ?_
              | refine sP (opp_arith rfl rfl rfl (.inl ⟨rfl, rfl⟩)) rfl rfl ?_
            refine sP (opp_as (v := .int _ _) rfl rfl) rfl rfl ?_
            have hi0 : i = 0 := hi1.2.1 rfl
            refine Exists.intro ((i + 1, false)) (And.intro (And.intro (And.intro (by show i + 1 ≤ Sp.total im; omega) (by simp)) (by omega)) (by
              refine imp_over [(1011, 68)] rfl rfl (by kernel_rfl) ?_ ?_
              · refine And.intro (by exact Or.inr (And.intro rfl (WkV.of (by show AV.osl 68 10 0 _ _ = AV.osl 68 10 0 _ _; rw [notesTo_succ, hi0]; rfl)))) ?_
                refine And.intro wkv ?_
                refine And.intro wkv ?_
                refine And.intro wkv ?_
                refine And.intro wkv ?_
                refine And.intro wkv ?_
                refine And.intro wkv ?_
                refine And.intro wkv ?_
                refine And.intro wkv ?_
                refine And.intro wkv ?_
                refine And.intro wkv ?_
                refine And.intro wkv ?_
                refine And.intro wkv ?_
                refine And.intro wkv ?_
                refine And.intro wkv ?_
                refine And.intro wkv ?_
                refine And.intro wkv ?_
                refine And.intro wkv ?_
                refine And.intro wkv ?_
                refine And.intro wkv ?_
                refine And.intro wkv ?_
                refine And.intro wkv ?_
                refine And.intro wkv ?_
                refine And.intro wkv ?_
                refine And.intro wkv ?_
                refine And.intro wkv ?_
                refine And.intro wkv ?_
                exact True.intro
              · refine And.intro (And.intro rfl (And.intro rfl (Exists.intro _ (And.intro rfl (by show WkC (AV.arr 10 _ _) (AV.arr 10 _ _); rw [notesTo_succ, hi0]; exact WkC.arr (fun j hj => by have h0 : j = 0 := (by simpa using hj); subst h0; rfl)))))) ?_
                exact True.intro
              ))
          · (try simp only [cmpI, errD_nil, Bool.not_eq_true', Bool.not_eq_false', decide_eq_true_eq, decide_eq_false_iff_not] at hc20); have ht46 := hc20
            refine awp_exit ?_
            refine awp_seq ?_
            refine awp_region rfl ?_
            first
              | refine sP (opp_mv (v := .sl _ _ _ _) rfl rfl) rfl rfl ?_
              | refine sP (opp_mv (v := .osl _ _ _ _ _) rfl rfl) rfl rfl ?_
            first
              | refine sP (opp_as (v := .sl _ _ _ _) rfl rfl) rfl rfl ?_
              | refine sP (opp_as (v := .osl _ _ _ _ _) rfl rfl) rfl rfl ?_
            refine sP (opp_as (v := .int _ _) rfl rfl) rfl rfl ?_
            refine awp_ret ?_
            repeat (first | refine athen_ret ?_ | refine ain_ret ?_)
            first
              | refine apost_ret (aend (l := [.sl _ _ _ _, .int _ _]) (.tmp (.tmp .nil)) (fun h => by cases h) (.cons (.noN rfl rfl) (.cons (.noN rfl rfl) .nil)) ⟨Wk.v ?_, rfl, rfl⟩)
              | refine apost_ret (aends (l := [.sl _ _ _ _, .int _ _]) (.tmp (.tmp .nil)) (fun h => by cases h) (.cons shut (fun h => by cases h) (.cons shut (fun h => by cases h) .nil)) rfl ⟨Wk.v ?_, rfl, rfl⟩)
              | refine apost_ret (aend (l := [.osl _ _ _ _ _, .int _ _]) (.tmp (.tmp .nil)) (fun h => by cases h) (.cons (.noN rfl rfl) (.cons (.noN rfl rfl) .nil)) ⟨Wk.v ?_, rfl, rfl⟩)
              | refine apost_ret (aends (l := [.osl _ _ _ _ _, .int _ _]) (.tmp (.tmp .nil)) (fun h => by cases h) (.cons shut (fun h => by cases h) (.cons shut (fun h => by cases h) .nil)) rfl ⟨Wk.v ?_, rfl, rfl⟩)
            exfalso; have := hi1.2.1 rfl; omega
end
end Go.Proofs.YtgaihhimkodmmaaDoor
/- Layer 22: the fixed fact of the layer's laws (walks over this dump). -/
namespace Go.Proofs.YtgaihhimkodmmaaDoor
attribute [local irreducible] Tryd.prog
open Go.Fy
set_option linter.unusedSimpArgs false
section
variable {ea : Nat → Addr} {cds : List Nat} {gl : Nat → Option AV}
section
variable (hG3 : gl 3 = some (.err (.code 9))) (hG4 : gl 4 = some (.err (.code 7))) (hG5 : gl 5 = some (.err (.code 10))) (hG2 : gl 2 = some (.err (.code 12))) (hG7 : gl 7 = some (.err (.code 14))) (hG8 : gl 8 = some (.err (.code 4))) (hG6 : gl 6 = some (.err (.code 11)))
include hG3 hG4 hG5 hG2 hG7 hG8
end
end
end Go.Proofs.YtgaihhimkodmmaaDoor
/- Layer 22: XferStarts: what Start answers is the document's answer: true (walks over this dump). -/
namespace Go.Proofs.YtgaihhimkodmmaaDoor
attribute [local irreducible] Tryd.prog
open Go.Fy
set_option linter.unusedSimpArgs false
set_option linter.unusedVariables false
section
variable {ea : Nat → Addr} {cds : List Nat} {gl : Nat → Option AV}
end
end Go.Proofs.YtgaihhimkodmmaaDoor
/- Layer 22: boundaries, acknowledgements (walks over this dump). -/
namespace Go.Proofs.YtgaihhimkodmmaaDoor
attribute [local irreducible] Tryd.prog
open Go.Fy
set_option linter.unusedSimpArgs false
section
variable {ea : Nat → Addr} {cds : List Nat} {gl : Nat → Option AV}
end
end Go.Proofs.YtgaihhimkodmmaaDoor
