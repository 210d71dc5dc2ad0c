/- Go's library: rows cloned, searched (walks over this dump). -/
import Derived.Test.YtgaihhimkodmmaaDoorK3x
namespace Go.Proofs.YtgaihhimkodmmaaDoor
attribute [local irreducible] Tryd.prog
open Go.Fy
set_option linter.unusedSimpArgs false
section
variable {ea : Nat → Addr} {cds : List Nat} {gl : Nat → Option AV}
theorem c94 (b : Bool) (n : Nat) (f : Nat → AV) (h0 : b = true → n = 0) (h1 : n ≤ 1099511627776) : APure (V ea cds gl) 94 [.sl 1 b n f] false (.sl 1 b n f) := by
  refine acalls_of_body (N := 8) Tryd.func94 rfl rfl (Nat.le_of_ble_eq_true rfl) fun C hV hN hM hO => ?_
  obtain ⟨_, _, w0, G0, σ0, _, own0⟩ := C; dsimp only at hV hN hM hO; subst hV; subst hN; subst hM
  refine awp_seq ?_
  refine awp_region rfl ?_
  first
    | refine sP (opp_as (v := .sl _ _ _ _) rfl rfl) rfl rfl ?_
    | refine sP (opp_as (v := .osl _ _ _ _ _) rfl rfl) rfl rfl ?_
  refine awp_seq ?_
  refine awp_seq ?_
  refine awp_region rfl ?_
  first
    | refine sP (opp_mv (v := .sl _ _ _ _) rfl rfl) rfl rfl ?_
    | refine sP (opp_mv (v := .osl _ _ _ _ _) rfl rfl) rfl rfl ?_
  first
    | refine sP (opp_slNil rfl rfl rfl un51 (.inl ⟨rfl, rfl⟩)) rfl rfl ?_
    | refine sP (opp_oslNil rfl rfl rfl un51 (.inl ⟨rfl, rfl⟩)) rfl rfl ?_
  refine awp_cond _ rfl (fun hc3 => ?_) (fun hc3 => ?_)
  · try simp only [cmpI, errD_nil, Bool.not_eq_true', Bool.not_eq_false', decide_eq_true_eq, decide_eq_false_iff_not] at hc3; have ht4 := hc3
    refine awp_seq ?_
    refine awp_region rfl ?_
    first
      | refine sP (opp_as (v := .sl _ _ _ _) rfl rfl) rfl rfl ?_
      | refine sP (opp_as (v := .osl _ _ _ _ _) rfl rfl) rfl rfl ?_
    refine awp_ret ?_
    repeat (first | refine athen_ret ?_ | refine ain_ret ?_)
    first
      | refine apost_ret (aend1 (r0 := .sl _ _ _ _) (.tmp .nil) (.noN rfl rfl) ⟨Wk.v ?_, rfl, rfl⟩)
      | refine apost_ret (aend1s (r0 := .sl _ _ _ _) (.tmp .nil) shut rfl ⟨Wk.v ?_, rfl, rfl⟩)
      | refine apost_ret (aend1 (r0 := .osl _ _ _ _ _) (.tmp .nil) (.noN rfl rfl) ⟨Wk.v ?_, rfl, rfl⟩)
      | refine apost_ret (aend1s (r0 := .osl _ _ _ _ _) (.tmp .nil) shut rfl ⟨Wk.v ?_, rfl, rfl⟩)
    have h2 := h0 hc3
    subst hc3; subst h2; exact .sl0
  · try simp only [cmpI, errD_nil, Bool.not_eq_true', Bool.not_eq_false', decide_eq_true_eq, decide_eq_false_iff_not] at hc3; have ht4 := hc3
    refine awp_skip ?_
    refine awp_seq ?_
    refine awp_region rfl ?_
    refine sR (opr_buildSlice (n := 5) (g := fun _ => .str []) rfl eb51 z9 (by decide) rfl rfl) rfl rfl rfl ?_
    first
      | refine sP (opp_mv (v := .sl _ _ _ _) rfl rfl) rfl rfl ?_
      | refine sP (opp_mv (v := .osl _ _ _ _ _) rfl rfl) rfl rfl ?_
    first
      | refine sR (opr_append (d := 7) rfl rfl rfl (by omega) (.osl0 rfl (by omega)) eb51 z9 (by omega) (by omega)) rfl rfl rfl ?_
      | refine sR (opr_append (d := 7) rfl rfl rfl (by omega) .sl eb51 z9 (by omega) (by omega)) rfl rfl rfl ?_
      | refine sR (opr_append (d := 7) rfl rfl rfl (by omega) (.osl rfl (by omega) (fun _ _ => rfl)) eb51 z9 (by omega) (by omega)) rfl rfl rfl ?_
      | refine sR (opr_appendNil (d := 7) rfl rfl (.osl0 rfl (by omega)) eb51 z9 (by omega) (by omega) (by omega)) rfl rfl rfl ?_
      | refine sR (opr_appendNil (d := 7) rfl rfl .sl eb51 z9 (by omega) (by omega) (by omega)) rfl rfl rfl ?_
      | refine sR (opr_appendNil (d := 7) rfl rfl (.osl rfl (by omega) (fun _ _ => rfl)) eb51 z9 (by omega) (by omega) (by omega)) rfl rfl rfl ?_
    first
      | refine sP (opp_as (v := .sl _ _ _ _) rfl rfl) rfl rfl ?_
      | refine sP (opp_as (v := .osl _ _ _ _ _) rfl rfl) rfl rfl ?_
    refine awp_ret ?_
    repeat (first | refine athen_ret ?_ | refine ain_ret ?_)
    first
      | refine apost_ret (aend1 (r0 := .sl _ _ _ _) (.tmp .nil) (.noN rfl rfl) ⟨Wk.v ?_, rfl, rfl⟩)
      | refine apost_ret (aend1s (r0 := .sl _ _ _ _) (.tmp .nil) shut rfl ⟨Wk.v ?_, rfl, rfl⟩)
      | refine apost_ret (aend1 (r0 := .osl _ _ _ _ _) (.tmp .nil) (.noN rfl rfl) ⟨Wk.v ?_, rfl, rfl⟩)
      | refine apost_ret (aend1s (r0 := .osl _ _ _ _ _) (.tmp .nil) shut rfl ⟨Wk.v ?_, rfl, rfl⟩)
    subst hc3; simp only [Nat.zero_add]; exact .sl (fun j hj => by simp)
theorem c119 (b : Bool) (n : Nat) (f : Nat → AV) (h0 : b = true → n = 0) (h1 : n ≤ 1099511627776) : APure (V ea cds gl) 119 [.sl 1 b n f] false (.sl 1 b n f) := by
  refine acalls_of_body (N := 8) Tryd.func119 rfl rfl (Nat.le_of_ble_eq_true rfl) fun C hV hN hM hO => ?_
  obtain ⟨_, _, w0, G0, σ0, _, own0⟩ := C; dsimp only at hV hN hM hO; subst hV; subst hN; subst hM
  refine awp_seq ?_
  refine awp_region rfl ?_
  first
    | refine sP (opp_as (v := .sl _ _ _ _) rfl rfl) rfl rfl ?_
    | refine sP (opp_as (v := .osl _ _ _ _ _) rfl rfl) rfl rfl ?_
  refine awp_seq ?_
  refine awp_seq ?_
  refine awp_region rfl ?_
  first
    | refine sP (opp_mv (v := .sl _ _ _ _) rfl rfl) rfl rfl ?_
    | refine sP (opp_mv (v := .osl _ _ _ _ _) rfl rfl) rfl rfl ?_
  first
    | refine sP (opp_slNil rfl rfl rfl un43 (.inl ⟨rfl, rfl⟩)) rfl rfl ?_
    | refine sP (opp_oslNil rfl rfl rfl un43 (.inl ⟨rfl, rfl⟩)) rfl rfl ?_
  refine awp_cond _ rfl (fun hc3 => ?_) (fun hc3 => ?_)
  · try simp only [cmpI, errD_nil, Bool.not_eq_true', Bool.not_eq_false', decide_eq_true_eq, decide_eq_false_iff_not] at hc3; have ht4 := hc3
    refine awp_seq ?_
    refine awp_region rfl ?_
    first
      | refine sP (opp_as (v := .sl _ _ _ _) rfl rfl) rfl rfl ?_
      | refine sP (opp_as (v := .osl _ _ _ _ _) rfl rfl) rfl rfl ?_
    refine awp_ret ?_
    repeat (first | refine athen_ret ?_ | refine ain_ret ?_)
    first
      | refine apost_ret (aend1 (r0 := .sl _ _ _ _) (.tmp .nil) (.noN rfl rfl) ⟨Wk.v ?_, rfl, rfl⟩)
      | refine apost_ret (aend1s (r0 := .sl _ _ _ _) (.tmp .nil) shut rfl ⟨Wk.v ?_, rfl, rfl⟩)
      | refine apost_ret (aend1 (r0 := .osl _ _ _ _ _) (.tmp .nil) (.noN rfl rfl) ⟨Wk.v ?_, rfl, rfl⟩)
      | refine apost_ret (aend1s (r0 := .osl _ _ _ _ _) (.tmp .nil) shut rfl ⟨Wk.v ?_, rfl, rfl⟩)
    have h2 := h0 hc3
    subst hc3; subst h2; exact .sl0
  · try simp only [cmpI, errD_nil, Bool.not_eq_true', Bool.not_eq_false', decide_eq_true_eq, decide_eq_false_iff_not] at hc3; have ht4 := hc3
    refine awp_skip ?_
    refine awp_seq ?_
    refine awp_region rfl ?_
    refine sR (opr_buildSlice (n := 5) (g := fun _ => .bool false) rfl eb43 z4 (by decide) rfl rfl) rfl rfl rfl ?_
    first
      | refine sP (opp_mv (v := .sl _ _ _ _) rfl rfl) rfl rfl ?_
      | refine sP (opp_mv (v := .osl _ _ _ _ _) rfl rfl) rfl rfl ?_
    first
      | refine sR (opr_append (d := 7) rfl rfl rfl (by omega) (.osl0 rfl (by omega)) eb43 z4 (by omega) (by omega)) rfl rfl rfl ?_
      | refine sR (opr_append (d := 7) rfl rfl rfl (by omega) .sl eb43 z4 (by omega) (by omega)) rfl rfl rfl ?_
      | refine sR (opr_append (d := 7) rfl rfl rfl (by omega) (.osl rfl (by omega) (fun _ _ => rfl)) eb43 z4 (by omega) (by omega)) rfl rfl rfl ?_
      | refine sR (opr_appendNil (d := 7) rfl rfl (.osl0 rfl (by omega)) eb43 z4 (by omega) (by omega) (by omega)) rfl rfl rfl ?_
      | refine sR (opr_appendNil (d := 7) rfl rfl .sl eb43 z4 (by omega) (by omega) (by omega)) rfl rfl rfl ?_
      | refine sR (opr_appendNil (d := 7) rfl rfl (.osl rfl (by omega) (fun _ _ => rfl)) eb43 z4 (by omega) (by omega) (by omega)) rfl rfl rfl ?_
    first
      | refine sP (opp_as (v := .sl _ _ _ _) rfl rfl) rfl rfl ?_
      | refine sP (opp_as (v := .osl _ _ _ _ _) rfl rfl) rfl rfl ?_
    refine awp_ret ?_
    repeat (first | refine athen_ret ?_ | refine ain_ret ?_)
    first
      | refine apost_ret (aend1 (r0 := .sl _ _ _ _) (.tmp .nil) (.noN rfl rfl) ⟨Wk.v ?_, rfl, rfl⟩)
      | refine apost_ret (aend1s (r0 := .sl _ _ _ _) (.tmp .nil) shut rfl ⟨Wk.v ?_, rfl, rfl⟩)
      | refine apost_ret (aend1 (r0 := .osl _ _ _ _ _) (.tmp .nil) (.noN rfl rfl) ⟨Wk.v ?_, rfl, rfl⟩)
      | refine apost_ret (aend1s (r0 := .osl _ _ _ _ _) (.tmp .nil) shut rfl ⟨Wk.v ?_, rfl, rfl⟩)
    subst hc3; simp only [Nat.zero_add]; exact .sl (fun j hj => by simp)
theorem c110 (b : Bool) (n : Nat) (f : Nat → AV) (h0 : b = true → n = 0) (h1 : n ≤ 1099511627776) : APure (V ea cds gl) 110 [.sl 1 b n f] false (.sl 1 b n f) := by
  refine acalls_of_body (N := 8) Tryd.func110 rfl rfl (Nat.le_of_ble_eq_true rfl) fun C hV hN hM hO => ?_
  obtain ⟨_, _, w0, G0, σ0, _, own0⟩ := C; dsimp only at hV hN hM hO; subst hV; subst hN; subst hM
  refine awp_seq ?_
  refine awp_region rfl ?_
  first
    | refine sP (opp_as (v := .sl _ _ _ _) rfl rfl) rfl rfl ?_
    | refine sP (opp_as (v := .osl _ _ _ _ _) rfl rfl) rfl rfl ?_
  refine awp_seq ?_
  refine awp_seq ?_
  refine awp_region rfl ?_
  first
    | refine sP (opp_mv (v := .sl _ _ _ _) rfl rfl) rfl rfl ?_
    | refine sP (opp_mv (v := .osl _ _ _ _ _) rfl rfl) rfl rfl ?_
  first
    | refine sP (opp_slNil rfl rfl rfl un36 (.inl ⟨rfl, rfl⟩)) rfl rfl ?_
    | refine sP (opp_oslNil rfl rfl rfl un36 (.inl ⟨rfl, rfl⟩)) rfl rfl ?_
  refine awp_cond _ rfl (fun hc3 => ?_) (fun hc3 => ?_)
  · try simp only [cmpI, errD_nil, Bool.not_eq_true', Bool.not_eq_false', decide_eq_true_eq, decide_eq_false_iff_not] at hc3; have ht4 := hc3
    refine awp_seq ?_
    refine awp_region rfl ?_
    first
      | refine sP (opp_as (v := .sl _ _ _ _) rfl rfl) rfl rfl ?_
      | refine sP (opp_as (v := .osl _ _ _ _ _) rfl rfl) rfl rfl ?_
    refine awp_ret ?_
    repeat (first | refine athen_ret ?_ | refine ain_ret ?_)
    first
      | refine apost_ret (aend1 (r0 := .sl _ _ _ _) (.tmp .nil) (.noN rfl rfl) ⟨Wk.v ?_, rfl, rfl⟩)
      | refine apost_ret (aend1s (r0 := .sl _ _ _ _) (.tmp .nil) shut rfl ⟨Wk.v ?_, rfl, rfl⟩)
      | refine apost_ret (aend1 (r0 := .osl _ _ _ _ _) (.tmp .nil) (.noN rfl rfl) ⟨Wk.v ?_, rfl, rfl⟩)
      | refine apost_ret (aend1s (r0 := .osl _ _ _ _ _) (.tmp .nil) shut rfl ⟨Wk.v ?_, rfl, rfl⟩)
    have h2 := h0 hc3
    subst hc3; subst h2; exact .sl0
  · try simp only [cmpI, errD_nil, Bool.not_eq_true', Bool.not_eq_false', decide_eq_true_eq, decide_eq_false_iff_not] at hc3; have ht4 := hc3
    refine awp_skip ?_
    refine awp_seq ?_
    refine awp_region rfl ?_
    refine sR (opr_buildSlice (n := 5) (g := fun _ => .int .u8 0) rfl eb36 z5 (by decide) rfl rfl) rfl rfl rfl ?_
    first
      | refine sP (opp_mv (v := .sl _ _ _ _) rfl rfl) rfl rfl ?_
      | refine sP (opp_mv (v := .osl _ _ _ _ _) rfl rfl) rfl rfl ?_
    first
      | refine sR (opr_append (d := 7) rfl rfl rfl (by omega) (.osl0 rfl (by omega)) eb36 z5 (by omega) (by omega)) rfl rfl rfl ?_
      | refine sR (opr_append (d := 7) rfl rfl rfl (by omega) .sl eb36 z5 (by omega) (by omega)) rfl rfl rfl ?_
      | refine sR (opr_append (d := 7) rfl rfl rfl (by omega) (.osl rfl (by omega) (fun _ _ => rfl)) eb36 z5 (by omega) (by omega)) rfl rfl rfl ?_
      | refine sR (opr_appendNil (d := 7) rfl rfl (.osl0 rfl (by omega)) eb36 z5 (by omega) (by omega) (by omega)) rfl rfl rfl ?_
      | refine sR (opr_appendNil (d := 7) rfl rfl .sl eb36 z5 (by omega) (by omega) (by omega)) rfl rfl rfl ?_
      | refine sR (opr_appendNil (d := 7) rfl rfl (.osl rfl (by omega) (fun _ _ => rfl)) eb36 z5 (by omega) (by omega) (by omega)) rfl rfl rfl ?_
    first
      | refine sP (opp_as (v := .sl _ _ _ _) rfl rfl) rfl rfl ?_
      | refine sP (opp_as (v := .osl _ _ _ _ _) rfl rfl) rfl rfl ?_
    refine awp_ret ?_
    repeat (first | refine athen_ret ?_ | refine ain_ret ?_)
    first
      | refine apost_ret (aend1 (r0 := .sl _ _ _ _) (.tmp .nil) (.noN rfl rfl) ⟨Wk.v ?_, rfl, rfl⟩)
      | refine apost_ret (aend1s (r0 := .sl _ _ _ _) (.tmp .nil) shut rfl ⟨Wk.v ?_, rfl, rfl⟩)
      | refine apost_ret (aend1 (r0 := .osl _ _ _ _ _) (.tmp .nil) (.noN rfl rfl) ⟨Wk.v ?_, rfl, rfl⟩)
      | refine apost_ret (aend1s (r0 := .osl _ _ _ _ _) (.tmp .nil) shut rfl ⟨Wk.v ?_, rfl, rfl⟩)
    subst hc3; simp only [Nat.zero_add]; exact .sl (fun j hj => by simp)
theorem c74 (b : Bool) (n : Nat) (f : Nat → AV) (h0 : b = true → n = 0) (h1 : n ≤ 1099511627776) : APure (V ea cds gl) 74 [.sl 1 b n f] false (.sl 1 b n f) := by
  refine acalls_of_body (N := 8) Tryd.func74 rfl rfl (Nat.le_of_ble_eq_true rfl) fun C hV hN hM hO => ?_
  obtain ⟨_, _, w0, G0, σ0, _, own0⟩ := C; dsimp only at hV hN hM hO; subst hV; subst hN; subst hM
  refine awp_seq ?_
  refine awp_region rfl ?_
  first
    | refine sP (opp_as (v := .sl _ _ _ _) rfl rfl) rfl rfl ?_
    | refine sP (opp_as (v := .osl _ _ _ _ _) rfl rfl) rfl rfl ?_
  refine awp_seq ?_
  refine awp_seq ?_
  refine awp_region rfl ?_
  first
    | refine sP (opp_mv (v := .sl _ _ _ _) rfl rfl) rfl rfl ?_
    | refine sP (opp_mv (v := .osl _ _ _ _ _) rfl rfl) rfl rfl ?_
  first
    | refine sP (opp_slNil rfl rfl rfl un36 (.inl ⟨rfl, rfl⟩)) rfl rfl ?_
    | refine sP (opp_oslNil rfl rfl rfl un36 (.inl ⟨rfl, rfl⟩)) rfl rfl ?_
  refine awp_cond _ rfl (fun hc3 => ?_) (fun hc3 => ?_)
  · try simp only [cmpI, errD_nil, Bool.not_eq_true', Bool.not_eq_false', decide_eq_true_eq, decide_eq_false_iff_not] at hc3; have ht4 := hc3
    refine awp_seq ?_
    refine awp_region rfl ?_
    first
      | refine sP (opp_as (v := .sl _ _ _ _) rfl rfl) rfl rfl ?_
      | refine sP (opp_as (v := .osl _ _ _ _ _) rfl rfl) rfl rfl ?_
    refine awp_ret ?_
    repeat (first | refine athen_ret ?_ | refine ain_ret ?_)
    first
      | refine apost_ret (aend1 (r0 := .sl _ _ _ _) (.tmp .nil) (.noN rfl rfl) ⟨Wk.v ?_, rfl, rfl⟩)
      | refine apost_ret (aend1s (r0 := .sl _ _ _ _) (.tmp .nil) shut rfl ⟨Wk.v ?_, rfl, rfl⟩)
      | refine apost_ret (aend1 (r0 := .osl _ _ _ _ _) (.tmp .nil) (.noN rfl rfl) ⟨Wk.v ?_, rfl, rfl⟩)
      | refine apost_ret (aend1s (r0 := .osl _ _ _ _ _) (.tmp .nil) shut rfl ⟨Wk.v ?_, rfl, rfl⟩)
    have h2 := h0 hc3
    subst hc3; subst h2; exact .sl0
  · try simp only [cmpI, errD_nil, Bool.not_eq_true', Bool.not_eq_false', decide_eq_true_eq, decide_eq_false_iff_not] at hc3; have ht4 := hc3
    refine awp_skip ?_
    refine awp_seq ?_
    refine awp_region rfl ?_
    refine sR (opr_buildSlice (n := 5) (g := fun _ => .int .u8 0) rfl eb36 z5 (by decide) rfl rfl) rfl rfl rfl ?_
    first
      | refine sP (opp_mv (v := .sl _ _ _ _) rfl rfl) rfl rfl ?_
      | refine sP (opp_mv (v := .osl _ _ _ _ _) rfl rfl) rfl rfl ?_
    first
      | refine sR (opr_append (d := 7) rfl rfl rfl (by omega) (.osl0 rfl (by omega)) eb36 z5 (by omega) (by omega)) rfl rfl rfl ?_
      | refine sR (opr_append (d := 7) rfl rfl rfl (by omega) .sl eb36 z5 (by omega) (by omega)) rfl rfl rfl ?_
      | refine sR (opr_append (d := 7) rfl rfl rfl (by omega) (.osl rfl (by omega) (fun _ _ => rfl)) eb36 z5 (by omega) (by omega)) rfl rfl rfl ?_
      | refine sR (opr_appendNil (d := 7) rfl rfl (.osl0 rfl (by omega)) eb36 z5 (by omega) (by omega) (by omega)) rfl rfl rfl ?_
      | refine sR (opr_appendNil (d := 7) rfl rfl .sl eb36 z5 (by omega) (by omega) (by omega)) rfl rfl rfl ?_
      | refine sR (opr_appendNil (d := 7) rfl rfl (.osl rfl (by omega) (fun _ _ => rfl)) eb36 z5 (by omega) (by omega) (by omega)) rfl rfl rfl ?_
    first
      | refine sP (opp_as (v := .sl _ _ _ _) rfl rfl) rfl rfl ?_
      | refine sP (opp_as (v := .osl _ _ _ _ _) rfl rfl) rfl rfl ?_
    refine awp_ret ?_
    repeat (first | refine athen_ret ?_ | refine ain_ret ?_)
    first
      | refine apost_ret (aend1 (r0 := .sl _ _ _ _) (.tmp .nil) (.noN rfl rfl) ⟨Wk.v ?_, rfl, rfl⟩)
      | refine apost_ret (aend1s (r0 := .sl _ _ _ _) (.tmp .nil) shut rfl ⟨Wk.v ?_, rfl, rfl⟩)
      | refine apost_ret (aend1 (r0 := .osl _ _ _ _ _) (.tmp .nil) (.noN rfl rfl) ⟨Wk.v ?_, rfl, rfl⟩)
      | refine apost_ret (aend1s (r0 := .osl _ _ _ _ _) (.tmp .nil) shut rfl ⟨Wk.v ?_, rfl, rfl⟩)
    subst hc3; simp only [Nat.zero_add]; exact .sl (fun j hj => by simp)
theorem c126 (b : Bool) (n : Nat) (f : Nat → List UInt8) (v : List UInt8) (h1 : n ≤ 4611686018427387904) : APure (V ea cds gl) 126 [.sl 1 b n (fun j => .str (f j)), .str v] false (.int .i64 (Sp.idx (fun j => decide (v = f j)) n)) := by
  refine acalls_of_body (N := 19) Tryd.func126 rfl rfl (Nat.le_of_ble_eq_true rfl) fun C hV hN hM hO => ?_
  obtain ⟨_, _, w0, G0, σ0, _, own0⟩ := C; dsimp only at hV hN hM hO; subst hV; subst hN; subst hM
  refine awp_seq ?_
  refine awp_region rfl ?_
  refine sP (opp_as (v := .int _ _) rfl rfl) rfl rfl ?_
  refine awp_seq ?_
  refine awp_seq ?_
  refine awp_region rfl ?_
  first
    | refine sP (opp_mv (v := .sl _ _ _ _) rfl rfl) rfl rfl ?_
    | refine sP (opp_mv (v := .osl _ _ _ _ _) rfl rfl) rfl rfl ?_
  first
    | refine sP (opp_lenSl rfl rfl un51) rfl rfl ?_
    | refine sP (opp_lenOsl rfl rfl un51) rfl rfl ?_
  refine sP (opp_mv (v := .int _ _) rfl rfl) rfl rfl ?_
  refine awp_block ?_
  refine awp_loopK (ι := Nat) (fun i => i ≤ n ∧ ∀ j, j < i → decide (v = f j) = false) (fun i => [(4, .top), (5, .top), (8, .int .i64 i), (9, .top), (10, .top), (11, .top), (12, .top), (13, .top), (14, .top), (15, .top), (16, .top), (17, .top), (18, .top)]) (fun i => []) [] (fun i => n - i) (0) (⟨Nat.zero_le _, fun j hj => absurd hj (by omega)⟩) (by
    refine imp_over [] rfl rfl (by kernel_rfl) ?_ ?_
    · refine And.intro wkv ?_
      refine And.intro wkv ?_
      refine And.intro wkv ?_
      refine And.intro wkv ?_
      refine And.intro wkv ?_
      refine And.intro wkv ?_
      refine And.intro wkv ?_
      refine And.intro wkv ?_
      refine And.intro wkv ?_
      refine And.intro wkv ?_
      refine And.intro wkv ?_
      refine And.intro wkv ?_
      refine And.intro wkv ?_
      exact True.intro
    · exact True.intro
    ) ?_
  intro i hi1
  refine awp_seq ?_
  refine awp_region rfl ?_
  refine sP (opp_cmp rfl rfl rfl rfl) rfl rfl ?_
  refine awp_seq ?_
  refine awp_cond _ rfl (fun hc4 => ?_) (fun hc4 => ?_)
  · try simp only [cmpI, errD_nil, Bool.not_eq_true', Bool.not_eq_false', decide_eq_true_eq, decide_eq_false_iff_not] at hc4; have ht9 := hc4
    refine awp_skip ?_
    refine awp_seq ?_
    refine awp_block ?_
    refine awp_seq ?_
    refine awp_region rfl ?_
    refine sP (opp_mv (v := .int _ _) rfl rfl) rfl rfl ?_
    refine sP (opp_as (v := .int _ _) rfl rfl) rfl rfl ?_
    refine awp_seq ?_
    refine awp_region rfl ?_
    refine sP (opp_mv (v := .str _) rfl rfl) rfl rfl ?_
    first
      | refine sP (opp_mv (v := .sl _ _ _ _) rfl rfl) rfl rfl ?_
      | refine sP (opp_mv (v := .osl _ _ _ _ _) rfl rfl) rfl rfl ?_
    refine sP (opp_mv (v := .int _ _) rfl rfl) rfl rfl ?_
    first
      | refine sP (opp_indexSl rfl rfl rfl el51 (by omega) (by omega)) rfl rfl ?_
      | refine sP (opp_indexOsl0 rfl rfl rfl el51 (by omega) (by omega)) rfl rfl ?_
      | refine sP (opp_indexOsl rfl rfl rfl el51 (by omega) (by omega)) rfl rfl ?_
    first
      | refine sP (opp_loadP rfl rfl rfl rfl bi rfl ty9) rfl rfl ?_
      | refine sP (opp_loadF rfl rfl ty9) rfl rfl ?_
    refine sP (opp_strEq rfl rfl rfl (.inl ⟨rfl, rfl⟩)) rfl rfl ?_
    refine awp_cond _ rfl (fun hc7 => ?_) (fun hc7 => ?_)
    · try simp only [cmpI, errD_nil, Bool.not_eq_true', Bool.not_eq_false', decide_eq_true_eq, decide_eq_false_iff_not] at hc7; have ht16 := hc7
      refine awp_seq ?_
      refine awp_region rfl ?_
      refine sP (opp_mv (v := .int _ _) rfl rfl) rfl rfl ?_
      refine sP (opp_as (v := .int _ _) rfl rfl) rfl rfl ?_
      refine awp_ret ?_
      repeat (first | refine athen_ret ?_ | refine ain_ret ?_)
      first
        | refine apost_ret (aend1 (r0 := .int _ _) (.tmp .nil) (.noN rfl rfl) ⟨Wk.v ?_, rfl, rfl⟩)
        | refine apost_ret (aend1s (r0 := .int _ _) (.tmp .nil) shut rfl ⟨Wk.v ?_, rfl, rfl⟩)
      simp only [Int.toNat_natCast] at hc7
      rw [Sp.idx_found hi1.2 (by simpa using hc7) (by omega)]; exact .refl
    · try simp only [cmpI, errD_nil, Bool.not_eq_true', Bool.not_eq_false', decide_eq_true_eq, decide_eq_false_iff_not] at hc7; have ht16 := hc7
      refine awp_skip ?_
      refine awp_region rfl ?_
      first
        | refine sP (opp_arith rfl rfl rfl (.inl ⟨rfl, w64 (by omega)⟩)) rfl rfl ?_
        | refine sP (opp_arith rfl rfl rfl (.inl ⟨rfl, rfl⟩)) rfl rfl ?_
      refine sP (opp_mv (v := .int _ _) rfl rfl) rfl rfl ?_
      simp only [Int.toNat_natCast] at hc7
      refine Exists.intro (i + 1) (And.intro (And.intro (⟨by omega, fun j hj => by by_cases e : j = i; (subst e; simpa using hc7); exact hi1.2 j (by omega)⟩) (by omega)) (by
        refine imp_over [] rfl rfl (by kernel_rfl) ?_ ?_
        · refine And.intro wkv ?_
          refine And.intro wkv ?_
          refine And.intro wkv ?_
          refine And.intro wkv ?_
          refine And.intro wkv ?_
          refine And.intro wkv ?_
          refine And.intro wkv ?_
          refine And.intro wkv ?_
          refine And.intro wkv ?_
          refine And.intro wkv ?_
          refine And.intro wkv ?_
          refine And.intro wkv ?_
          refine And.intro wkv ?_
          exact True.intro
        · exact True.intro
        ))
  · try simp only [cmpI, errD_nil, Bool.not_eq_true', Bool.not_eq_false', decide_eq_true_eq, decide_eq_false_iff_not] at hc4; have ht9 := hc4
    refine awp_exit ?_
    refine awp_seq ?_
    refine awp_region rfl ?_
    refine sP (opp_as (v := .int _ _) rfl rfl) rfl rfl ?_
    refine awp_ret ?_
    repeat (first | refine athen_ret ?_ | refine ain_ret ?_)
    first
      | refine apost_ret (aend1 (r0 := .int _ _) (.tmp .nil) (.noN rfl rfl) ⟨Wk.v ?_, rfl, rfl⟩)
      | refine apost_ret (aend1s (r0 := .int _ _) (.tmp .nil) shut rfl ⟨Wk.v ?_, rfl, rfl⟩)
    rw [Sp.idx_none (fun j hj => hi1.2 j (by omega))]; exact .refl
theorem c120 (b : Bool) (n : Nat) (f : Nat → Bool) (v : Bool) (h1 : n ≤ 4611686018427387904) : APure (V ea cds gl) 120 [.sl 1 b n (fun j => .bool (f j)), .bool v] false (.int .i64 (Sp.idx (fun j => (v == f j)) n)) := by
  refine acalls_of_body (N := 19) Tryd.func120 rfl rfl (Nat.le_of_ble_eq_true rfl) fun C hV hN hM hO => ?_
  obtain ⟨_, _, w0, G0, σ0, _, own0⟩ := C; dsimp only at hV hN hM hO; subst hV; subst hN; subst hM
  refine awp_seq ?_
  refine awp_region rfl ?_
  refine sP (opp_as (v := .int _ _) rfl rfl) rfl rfl ?_
  refine awp_seq ?_
  refine awp_seq ?_
  refine awp_region rfl ?_
  first
    | refine sP (opp_mv (v := .sl _ _ _ _) rfl rfl) rfl rfl ?_
    | refine sP (opp_mv (v := .osl _ _ _ _ _) rfl rfl) rfl rfl ?_
  first
    | refine sP (opp_lenSl rfl rfl un43) rfl rfl ?_
    | refine sP (opp_lenOsl rfl rfl un43) rfl rfl ?_
  refine sP (opp_mv (v := .int _ _) rfl rfl) rfl rfl ?_
  refine awp_block ?_
  refine awp_loopK (ι := Nat) (fun i => i ≤ n ∧ ∀ j, j < i → (v == f j) = false) (fun i => [(4, .top), (5, .top), (8, .int .i64 i), (9, .top), (10, .top), (11, .top), (12, .top), (13, .top), (14, .top), (15, .top), (16, .top), (17, .top), (18, .top)]) (fun i => []) [] (fun i => n - i) (0) (⟨Nat.zero_le _, fun j hj => absurd hj (by omega)⟩) (by
    refine imp_over [] rfl rfl (by kernel_rfl) ?_ ?_
    · refine And.intro wkv ?_
      refine And.intro wkv ?_
      refine And.intro wkv ?_
      refine And.intro wkv ?_
      refine And.intro wkv ?_
      refine And.intro wkv ?_
      refine And.intro wkv ?_
      refine And.intro wkv ?_
      refine And.intro wkv ?_
      refine And.intro wkv ?_
      refine And.intro wkv ?_
      refine And.intro wkv ?_
      refine And.intro wkv ?_
      exact True.intro
    · exact True.intro
    ) ?_
  intro i hi1
  refine awp_seq ?_
  refine awp_region rfl ?_
  refine sP (opp_cmp rfl rfl rfl rfl) rfl rfl ?_
  refine awp_seq ?_
  refine awp_cond _ rfl (fun hc4 => ?_) (fun hc4 => ?_)
  · try simp only [cmpI, errD_nil, Bool.not_eq_true', Bool.not_eq_false', decide_eq_true_eq, decide_eq_false_iff_not] at hc4; have ht9 := hc4
    refine awp_skip ?_
    refine awp_seq ?_
    refine awp_block ?_
    refine awp_seq ?_
    refine awp_region rfl ?_
    refine sP (opp_mv (v := .int _ _) rfl rfl) rfl rfl ?_
    refine sP (opp_as (v := .int _ _) rfl rfl) rfl rfl ?_
    refine awp_seq ?_
    refine awp_region rfl ?_
    refine sP (opp_mv (v := .bool _) rfl rfl) rfl rfl ?_
    first
      | refine sP (opp_mv (v := .sl _ _ _ _) rfl rfl) rfl rfl ?_
      | refine sP (opp_mv (v := .osl _ _ _ _ _) rfl rfl) rfl rfl ?_
    refine sP (opp_mv (v := .int _ _) rfl rfl) rfl rfl ?_
    first
      | refine sP (opp_indexSl rfl rfl rfl el43 (by omega) (by omega)) rfl rfl ?_
      | refine sP (opp_indexOsl0 rfl rfl rfl el43 (by omega) (by omega)) rfl rfl ?_
      | refine sP (opp_indexOsl rfl rfl rfl el43 (by omega) (by omega)) rfl rfl ?_
    first
      | refine sP (opp_loadP rfl rfl rfl rfl bi rfl ty4) rfl rfl ?_
      | refine sP (opp_loadF rfl rfl ty4) rfl rfl ?_
    refine sP (opp_boolEq rfl rfl rfl un4 (.inl ⟨rfl, rfl⟩)) rfl rfl ?_
    refine awp_cond _ rfl (fun hc7 => ?_) (fun hc7 => ?_)
    · try simp only [cmpI, errD_nil, Bool.not_eq_true', Bool.not_eq_false', decide_eq_true_eq, decide_eq_false_iff_not] at hc7; have ht16 := hc7
      refine awp_seq ?_
      refine awp_region rfl ?_
      refine sP (opp_mv (v := .int _ _) rfl rfl) rfl rfl ?_
      refine sP (opp_as (v := .int _ _) rfl rfl) rfl rfl ?_
      refine awp_ret ?_
      repeat (first | refine athen_ret ?_ | refine ain_ret ?_)
      first
        | refine apost_ret (aend1 (r0 := .int _ _) (.tmp .nil) (.noN rfl rfl) ⟨Wk.v ?_, rfl, rfl⟩)
        | refine apost_ret (aend1s (r0 := .int _ _) (.tmp .nil) shut rfl ⟨Wk.v ?_, rfl, rfl⟩)
      simp only [Int.toNat_natCast] at hc7
      rw [Sp.idx_found hi1.2 (by simpa using hc7) (by omega)]; exact .refl
    · try simp only [cmpI, errD_nil, Bool.not_eq_true', Bool.not_eq_false', decide_eq_true_eq, decide_eq_false_iff_not] at hc7; have ht16 := hc7
      refine awp_skip ?_
      refine awp_region rfl ?_
      first
        | refine sP (opp_arith rfl rfl rfl (.inl ⟨rfl, w64 (by omega)⟩)) rfl rfl ?_
        | refine sP (opp_arith rfl rfl rfl (.inl ⟨rfl, rfl⟩)) rfl rfl ?_
      refine sP (opp_mv (v := .int _ _) rfl rfl) rfl rfl ?_
      simp only [Int.toNat_natCast] at hc7
      refine Exists.intro (i + 1) (And.intro (And.intro (⟨by omega, fun j hj => by by_cases e : j = i; (subst e; simpa using hc7); exact hi1.2 j (by omega)⟩) (by omega)) (by
        refine imp_over [] rfl rfl (by kernel_rfl) ?_ ?_
        · refine And.intro wkv ?_
          refine And.intro wkv ?_
          refine And.intro wkv ?_
          refine And.intro wkv ?_
          refine And.intro wkv ?_
          refine And.intro wkv ?_
          refine And.intro wkv ?_
          refine And.intro wkv ?_
          refine And.intro wkv ?_
          refine And.intro wkv ?_
          refine And.intro wkv ?_
          refine And.intro wkv ?_
          refine And.intro wkv ?_
          exact True.intro
        · exact True.intro
        ))
  · try simp only [cmpI, errD_nil, Bool.not_eq_true', Bool.not_eq_false', decide_eq_true_eq, decide_eq_false_iff_not] at hc4; have ht9 := hc4
    refine awp_exit ?_
    refine awp_seq ?_
    refine awp_region rfl ?_
    refine sP (opp_as (v := .int _ _) rfl rfl) rfl rfl ?_
    refine awp_ret ?_
    repeat (first | refine athen_ret ?_ | refine ain_ret ?_)
    first
      | refine apost_ret (aend1 (r0 := .int _ _) (.tmp .nil) (.noN rfl rfl) ⟨Wk.v ?_, rfl, rfl⟩)
      | refine apost_ret (aend1s (r0 := .int _ _) (.tmp .nil) shut rfl ⟨Wk.v ?_, rfl, rfl⟩)
    rw [Sp.idx_none (fun j hj => hi1.2 j (by omega))]; exact .refl
theorem c95 (b : Bool) (n : Nat) (f : Nat → List UInt8) (v : List UInt8) (h1 : n ≤ 4611686018427387904) : APure (V ea cds gl) 95 [.sl 1 b n (fun j => .str (f j)), .str v] false (.bool ((List.range n).any fun j => decide (v = f j))) := by
  refine acalls_of_body (N := 9) Tryd.func95 rfl rfl (Nat.le_of_ble_eq_true rfl) fun C hV hN hM hO => ?_
  obtain ⟨_, _, w0, G0, σ0, _, own0⟩ := C; dsimp only at hV hN hM hO; subst hV; subst hN; subst hM
  refine awp_seq ?_
  refine awp_region rfl ?_
  refine sP (opp_as (v := .bool _) rfl rfl) rfl rfl ?_
  refine awp_seq ?_
  refine awp_region rfl ?_
  first
    | refine sP (opp_mv (v := .sl _ _ _ _) rfl rfl) rfl rfl ?_
    | refine sP (opp_mv (v := .osl _ _ _ _ _) rfl rfl) rfl rfl ?_
  refine sP (opp_mv (v := .str _) rfl rfl) rfl rfl ?_
  refine sR (opr_call rfl rfl ent126 rfl (c126 _ _ _ _ (by first | omega | (simp_all; done))) (AViews.refl _ rfl)) rfl rfl rfl ?_ -- d=7 t=3
  refine sP (opp_cmp rfl rfl rfl rfl) rfl rfl ?_
  refine sP (opp_as (v := .bool _) rfl rfl) rfl rfl ?_
  refine awp_ret ?_
  repeat (first | refine athen_ret ?_ | refine ain_ret ?_)
  first
    | refine apost_ret (aend1 (r0 := .bool _) (.tmp .nil) (.noN rfl rfl) ⟨Wk.v ?_, rfl, rfl⟩)
    | refine apost_ret (aend1s (r0 := .bool _) (.tmp .nil) shut rfl ⟨Wk.v ?_, rfl, rfl⟩)
  rw [← Sp.idx_nonneg]; exact .of (by simp [cmpI])
theorem c80 (b : Bool) (n : Nat) (f : Nat → Bool) (v : Bool) (h1 : n ≤ 4611686018427387904) : APure (V ea cds gl) 80 [.sl 1 b n (fun j => .bool (f j)), .bool v] false (.bool ((List.range n).any fun j => v == f j)) := by
  refine acalls_of_body (N := 9) Tryd.func80 rfl rfl (Nat.le_of_ble_eq_true rfl) fun C hV hN hM hO => ?_
  obtain ⟨_, _, w0, G0, σ0, _, own0⟩ := C; dsimp only at hV hN hM hO; subst hV; subst hN; subst hM
  refine awp_seq ?_
  refine awp_region rfl ?_
  refine sP (opp_as (v := .bool _) rfl rfl) rfl rfl ?_
  refine awp_seq ?_
  refine awp_region rfl ?_
  first
    | refine sP (opp_mv (v := .sl _ _ _ _) rfl rfl) rfl rfl ?_
    | refine sP (opp_mv (v := .osl _ _ _ _ _) rfl rfl) rfl rfl ?_
  refine sP (opp_mv (v := .bool _) rfl rfl) rfl rfl ?_
  refine sR (opr_call rfl rfl ent120 rfl (c120 _ _ _ _ (by first | omega | (simp_all; done))) (AViews.refl _ rfl)) rfl rfl rfl ?_ -- d=7 t=3
  refine sP (opp_cmp rfl rfl rfl rfl) rfl rfl ?_
  refine sP (opp_as (v := .bool _) rfl rfl) rfl rfl ?_
  refine awp_ret ?_
  repeat (first | refine athen_ret ?_ | refine ain_ret ?_)
  first
    | refine apost_ret (aend1 (r0 := .bool _) (.tmp .nil) (.noN rfl rfl) ⟨Wk.v ?_, rfl, rfl⟩)
    | refine apost_ret (aend1s (r0 := .bool _) (.tmp .nil) shut rfl ⟨Wk.v ?_, rfl, rfl⟩)
  rw [← Sp.idx_nonneg]; exact .of (by simp [cmpI])
theorem c118 (v : List UInt8) : APure (V ea cds gl) 118 [.str v] false (.bool (!decide (v = []))) := by
  refine acalls_of_body (N := 5) Tryd.func118 rfl rfl (Nat.le_of_ble_eq_true rfl) fun C hV hN hM hO => ?_
  obtain ⟨_, _, w0, G0, σ0, _, own0⟩ := C; dsimp only at hV hN hM hO; subst hV; subst hN; subst hM
  refine awp_seq ?_
  refine awp_region rfl ?_
  refine sP (opp_as (v := .bool _) rfl rfl) rfl rfl ?_
  refine awp_seq ?_
  refine awp_region rfl ?_
  refine sP (opp_mv (v := .str _) rfl rfl) rfl rfl ?_
  refine sP (opp_strEq (b := []) rfl rfl rfl (.inr ⟨rfl, rfl⟩)) rfl rfl ?_
  refine sP (opp_as (v := .bool _) rfl rfl) rfl rfl ?_
  refine awp_ret ?_
  repeat (first | refine athen_ret ?_ | refine ain_ret ?_)
  first
    | refine apost_ret (aend1 (r0 := .bool _) (.tmp .nil) (.noN rfl rfl) ⟨Wk.v ?_, rfl, rfl⟩)
    | refine apost_ret (aend1s (r0 := .bool _) (.tmp .nil) shut rfl ⟨Wk.v ?_, rfl, rfl⟩)
  exact .of (by simp)
end
end Go.Proofs.YtgaihhimkodmmaaDoor

