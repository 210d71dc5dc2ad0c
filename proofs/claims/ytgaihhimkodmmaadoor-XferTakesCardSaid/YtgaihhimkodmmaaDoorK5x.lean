/- Rows cloned, as own rows; stages go on (walks over this dump). -/
import Derived.Test.YtgaihhimkodmmaaDoorK4x
namespace Go.Proofs.YtgaihhimkodmmaaDoor
attribute [local irreducible] Tryd.prog
open Go.Fy
set_option linter.unusedSimpArgs false
section
variable {ea : Nat → Addr} {cds : List Nat} {gl : Nat → Option AV}
theorem co94 (n : Nat) (f : Nat → AV) (h1 : n ≤ 1099511627776) : AOwn (V ea cds gl) 94 [.sl 1 false n f] false (.osl 7 1 0 n n) [(7, some (.arr 1 n f))] := by
  refine aown_of_body (N := 8) Tryd.func94 rfl rfl (Nat.le_of_ble_eq_true rfl) fun C hV hN hM hO => ?_
  obtain ⟨_, _, w0, G0, σ0, _, own0⟩ := C; dsimp only at hV hN hM hO; subst hV; subst hN; subst hM
  refine awp_seq ?_
  refine awp_region rfl ?_
  first
    | refine sP (opp_as (v := .sl _ _ _ _) rfl rfl) rfl rfl ?_
    | refine sP (opp_as (v := .osl _ _ _ _ _) rfl rfl) rfl rfl ?_
  refine awp_seq ?_
  refine awp_seq ?_
  refine awp_region rfl ?_
  first
    | refine sP (opp_mv (v := .sl _ _ _ _) rfl rfl) rfl rfl ?_
    | refine sP (opp_mv (v := .osl _ _ _ _ _) rfl rfl) rfl rfl ?_
  first
    | refine sP (opp_slNil rfl rfl rfl un51 (.inl ⟨rfl, rfl⟩)) rfl rfl ?_
    | refine sP (opp_oslNil rfl rfl rfl un51 (.inl ⟨rfl, rfl⟩)) rfl rfl ?_
  refine awp_cond _ rfl (fun hc3 => ?_) (fun hc3 => ?_)
  · try simp only [cmpI, errD_nil, Bool.not_eq_true', Bool.not_eq_false', decide_eq_true_eq, decide_eq_false_iff_not] at hc3; have ht4 := hc3
    refine awp_seq ?_
    refine awp_region rfl ?_
    first
      | refine sP (opp_as (v := .sl _ _ _ _) rfl rfl) rfl rfl ?_
      | refine sP (opp_as (v := .osl _ _ _ _ _) rfl rfl) rfl rfl ?_
    refine awp_ret ?_
    repeat (first | refine athen_ret ?_ | refine ain_ret ?_)
    simp at hc3
  · try simp only [cmpI, errD_nil, Bool.not_eq_true', Bool.not_eq_false', decide_eq_true_eq, decide_eq_false_iff_not] at hc3; have ht4 := hc3
    refine awp_skip ?_
    refine awp_seq ?_
    refine awp_region rfl ?_
    refine sR (opr_buildSlice (n := 5) (g := fun _ => .str []) rfl eb51 z9 (by decide) rfl rfl) rfl rfl rfl ?_
    first
      | refine sP (opp_mv (v := .sl _ _ _ _) rfl rfl) rfl rfl ?_
      | refine sP (opp_mv (v := .osl _ _ _ _ _) rfl rfl) rfl rfl ?_
    first
      | refine sR (opr_append (d := 7) rfl rfl rfl (by omega) (.osl0 rfl (by omega)) eb51 z9 (by omega) (by omega)) rfl rfl rfl ?_
      | refine sR (opr_append (d := 7) rfl rfl rfl (by omega) .sl eb51 z9 (by omega) (by omega)) rfl rfl rfl ?_
      | refine sR (opr_append (d := 7) rfl rfl rfl (by omega) (.osl rfl (by omega) (fun _ _ => rfl)) eb51 z9 (by omega) (by omega)) rfl rfl rfl ?_
      | refine sR (opr_appendNil (d := 7) rfl rfl (.osl0 rfl (by omega)) eb51 z9 (by omega) (by omega) (by omega)) rfl rfl rfl ?_
      | refine sR (opr_appendNil (d := 7) rfl rfl .sl eb51 z9 (by omega) (by omega) (by omega)) rfl rfl rfl ?_
      | refine sR (opr_appendNil (d := 7) rfl rfl (.osl rfl (by omega) (fun _ _ => rfl)) eb51 z9 (by omega) (by omega) (by omega)) rfl rfl rfl ?_
    first
      | refine sP (opp_as (v := .sl _ _ _ _) rfl rfl) rfl rfl ?_
      | refine sP (opp_as (v := .osl _ _ _ _ _) rfl rfl) rfl rfl ?_
    refine awp_ret ?_
    repeat (first | refine athen_ret ?_ | refine ain_ret ?_)
    first
      | refine opost_ret (oend1 (r0 := .sl _ _ _ _) (.tmp .nil) shut rfl ?_ (And.intro (Exists.intro _ (Exists.intro _ (And.intro rfl (And.intro shut (And.intro (fun h => by cases h) (And.intro ?_ rfl)))))) True.intro))
      | refine opost_ret (oend1 (r0 := .osl _ _ _ _ _) (.tmp .nil) shut rfl ?_ (And.intro (Exists.intro _ (Exists.intro _ (And.intro rfl (And.intro shut (And.intro (fun h => by cases h) (And.intro ?_ rfl)))))) True.intro))
    · simp only [Nat.zero_add]; exact .refl
    · simp only [Nat.zero_add]; exact .arr (fun j hj => by simp)
theorem co119 (n : Nat) (f : Nat → AV) (h1 : n ≤ 1099511627776) : AOwn (V ea cds gl) 119 [.sl 1 false n f] false (.osl 7 1 0 n n) [(7, some (.arr 1 n f))] := by
  refine aown_of_body (N := 8) Tryd.func119 rfl rfl (Nat.le_of_ble_eq_true rfl) fun C hV hN hM hO => ?_
  obtain ⟨_, _, w0, G0, σ0, _, own0⟩ := C; dsimp only at hV hN hM hO; subst hV; subst hN; subst hM
  refine awp_seq ?_
  refine awp_region rfl ?_
  first
    | refine sP (opp_as (v := .sl _ _ _ _) rfl rfl) rfl rfl ?_
    | refine sP (opp_as (v := .osl _ _ _ _ _) rfl rfl) rfl rfl ?_
  refine awp_seq ?_
  refine awp_seq ?_
  refine awp_region rfl ?_
  first
    | refine sP (opp_mv (v := .sl _ _ _ _) rfl rfl) rfl rfl ?_
    | refine sP (opp_mv (v := .osl _ _ _ _ _) rfl rfl) rfl rfl ?_
  first
    | refine sP (opp_slNil rfl rfl rfl un43 (.inl ⟨rfl, rfl⟩)) rfl rfl ?_
    | refine sP (opp_oslNil rfl rfl rfl un43 (.inl ⟨rfl, rfl⟩)) rfl rfl ?_
  refine awp_cond _ rfl (fun hc3 => ?_) (fun hc3 => ?_)
  · try simp only [cmpI, errD_nil, Bool.not_eq_true', Bool.not_eq_false', decide_eq_true_eq, decide_eq_false_iff_not] at hc3; have ht4 := hc3
    refine awp_seq ?_
    refine awp_region rfl ?_
    first
      | refine sP (opp_as (v := .sl _ _ _ _) rfl rfl) rfl rfl ?_
      | refine sP (opp_as (v := .osl _ _ _ _ _) rfl rfl) rfl rfl ?_
    refine awp_ret ?_
    repeat (first | refine athen_ret ?_ | refine ain_ret ?_)
    simp at hc3
  · try simp only [cmpI, errD_nil, Bool.not_eq_true', Bool.not_eq_false', decide_eq_true_eq, decide_eq_false_iff_not] at hc3; have ht4 := hc3
    refine awp_skip ?_
    refine awp_seq ?_
    refine awp_region rfl ?_
    refine sR (opr_buildSlice (n := 5) (g := fun _ => .bool false) rfl eb43 z4 (by decide) rfl rfl) rfl rfl rfl ?_
    first
      | refine sP (opp_mv (v := .sl _ _ _ _) rfl rfl) rfl rfl ?_
      | refine sP (opp_mv (v := .osl _ _ _ _ _) rfl rfl) rfl rfl ?_
    first
      | refine sR (opr_append (d := 7) rfl rfl rfl (by omega) (.osl0 rfl (by omega)) eb43 z4 (by omega) (by omega)) rfl rfl rfl ?_
      | refine sR (opr_append (d := 7) rfl rfl rfl (by omega) .sl eb43 z4 (by omega) (by omega)) rfl rfl rfl ?_
      | refine sR (opr_append (d := 7) rfl rfl rfl (by omega) (.osl rfl (by omega) (fun _ _ => rfl)) eb43 z4 (by omega) (by omega)) rfl rfl rfl ?_
      | refine sR (opr_appendNil (d := 7) rfl rfl (.osl0 rfl (by omega)) eb43 z4 (by omega) (by omega) (by omega)) rfl rfl rfl ?_
      | refine sR (opr_appendNil (d := 7) rfl rfl .sl eb43 z4 (by omega) (by omega) (by omega)) rfl rfl rfl ?_
      | refine sR (opr_appendNil (d := 7) rfl rfl (.osl rfl (by omega) (fun _ _ => rfl)) eb43 z4 (by omega) (by omega) (by omega)) rfl rfl rfl ?_
    first
      | refine sP (opp_as (v := .sl _ _ _ _) rfl rfl) rfl rfl ?_
      | refine sP (opp_as (v := .osl _ _ _ _ _) rfl rfl) rfl rfl ?_
    refine awp_ret ?_
    repeat (first | refine athen_ret ?_ | refine ain_ret ?_)
    first
      | refine opost_ret (oend1 (r0 := .sl _ _ _ _) (.tmp .nil) shut rfl ?_ (And.intro (Exists.intro _ (Exists.intro _ (And.intro rfl (And.intro shut (And.intro (fun h => by cases h) (And.intro ?_ rfl)))))) True.intro))
      | refine opost_ret (oend1 (r0 := .osl _ _ _ _ _) (.tmp .nil) shut rfl ?_ (And.intro (Exists.intro _ (Exists.intro _ (And.intro rfl (And.intro shut (And.intro (fun h => by cases h) (And.intro ?_ rfl)))))) True.intro))
    · simp only [Nat.zero_add]; exact .refl
    · simp only [Nat.zero_add]; exact .arr (fun j hj => by simp)
theorem co110 (n : Nat) (f : Nat → AV) (h1 : n ≤ 1099511627776) : AOwn (V ea cds gl) 110 [.sl 1 false n f] false (.osl 7 1 0 n n) [(7, some (.arr 1 n f))] := by
  refine aown_of_body (N := 8) Tryd.func110 rfl rfl (Nat.le_of_ble_eq_true rfl) fun C hV hN hM hO => ?_
  obtain ⟨_, _, w0, G0, σ0, _, own0⟩ := C; dsimp only at hV hN hM hO; subst hV; subst hN; subst hM
  refine awp_seq ?_
  refine awp_region rfl ?_
  first
    | refine sP (opp_as (v := .sl _ _ _ _) rfl rfl) rfl rfl ?_
    | refine sP (opp_as (v := .osl _ _ _ _ _) rfl rfl) rfl rfl ?_
  refine awp_seq ?_
  refine awp_seq ?_
  refine awp_region rfl ?_
  first
    | refine sP (opp_mv (v := .sl _ _ _ _) rfl rfl) rfl rfl ?_
    | refine sP (opp_mv (v := .osl _ _ _ _ _) rfl rfl) rfl rfl ?_
  first
    | refine sP (opp_slNil rfl rfl rfl un36 (.inl ⟨rfl, rfl⟩)) rfl rfl ?_
    | refine sP (opp_oslNil rfl rfl rfl un36 (.inl ⟨rfl, rfl⟩)) rfl rfl ?_
  refine awp_cond _ rfl (fun hc3 => ?_) (fun hc3 => ?_)
  · try simp only [cmpI, errD_nil, Bool.not_eq_true', Bool.not_eq_false', decide_eq_true_eq, decide_eq_false_iff_not] at hc3; have ht4 := hc3
    refine awp_seq ?_
    refine awp_region rfl ?_
    first
      | refine sP (opp_as (v := .sl _ _ _ _) rfl rfl) rfl rfl ?_
      | refine sP (opp_as (v := .osl _ _ _ _ _) rfl rfl) rfl rfl ?_
    refine awp_ret ?_
    repeat (first | refine athen_ret ?_ | refine ain_ret ?_)
    simp at hc3
  · try simp only [cmpI, errD_nil, Bool.not_eq_true', Bool.not_eq_false', decide_eq_true_eq, decide_eq_false_iff_not] at hc3; have ht4 := hc3
    refine awp_skip ?_
    refine awp_seq ?_
    refine awp_region rfl ?_
    refine sR (opr_buildSlice (n := 5) (g := fun _ => .int .u8 0) rfl eb36 z5 (by decide) rfl rfl) rfl rfl rfl ?_
    first
      | refine sP (opp_mv (v := .sl _ _ _ _) rfl rfl) rfl rfl ?_
      | refine sP (opp_mv (v := .osl _ _ _ _ _) rfl rfl) rfl rfl ?_
    first
      | refine sR (opr_append (d := 7) rfl rfl rfl (by omega) (.osl0 rfl (by omega)) eb36 z5 (by omega) (by omega)) rfl rfl rfl ?_
      | refine sR (opr_append (d := 7) rfl rfl rfl (by omega) .sl eb36 z5 (by omega) (by omega)) rfl rfl rfl ?_
      | refine sR (opr_append (d := 7) rfl rfl rfl (by omega) (.osl rfl (by omega) (fun _ _ => rfl)) eb36 z5 (by omega) (by omega)) rfl rfl rfl ?_
      | refine sR (opr_appendNil (d := 7) rfl rfl (.osl0 rfl (by omega)) eb36 z5 (by omega) (by omega) (by omega)) rfl rfl rfl ?_
      | refine sR (opr_appendNil (d := 7) rfl rfl .sl eb36 z5 (by omega) (by omega) (by omega)) rfl rfl rfl ?_
      | refine sR (opr_appendNil (d := 7) rfl rfl (.osl rfl (by omega) (fun _ _ => rfl)) eb36 z5 (by omega) (by omega) (by omega)) rfl rfl rfl ?_
    first
      | refine sP (opp_as (v := .sl _ _ _ _) rfl rfl) rfl rfl ?_
      | refine sP (opp_as (v := .osl _ _ _ _ _) rfl rfl) rfl rfl ?_
    refine awp_ret ?_
    repeat (first | refine athen_ret ?_ | refine ain_ret ?_)
    first
      | refine opost_ret (oend1 (r0 := .sl _ _ _ _) (.tmp .nil) shut rfl ?_ (And.intro (Exists.intro _ (Exists.intro _ (And.intro rfl (And.intro shut (And.intro (fun h => by cases h) (And.intro ?_ rfl)))))) True.intro))
      | refine opost_ret (oend1 (r0 := .osl _ _ _ _ _) (.tmp .nil) shut rfl ?_ (And.intro (Exists.intro _ (Exists.intro _ (And.intro rfl (And.intro shut (And.intro (fun h => by cases h) (And.intro ?_ rfl)))))) True.intro))
    · simp only [Nat.zero_add]; exact .refl
    · simp only [Nat.zero_add]; exact .arr (fun j hj => by simp)
theorem co74 (n : Nat) (f : Nat → AV) (h1 : n ≤ 1099511627776) : AOwn (V ea cds gl) 74 [.sl 1 false n f] false (.osl 7 1 0 n n) [(7, some (.arr 1 n f))] := by
  refine aown_of_body (N := 8) Tryd.func74 rfl rfl (Nat.le_of_ble_eq_true rfl) fun C hV hN hM hO => ?_
  obtain ⟨_, _, w0, G0, σ0, _, own0⟩ := C; dsimp only at hV hN hM hO; subst hV; subst hN; subst hM
  refine awp_seq ?_
  refine awp_region rfl ?_
  first
    | refine sP (opp_as (v := .sl _ _ _ _) rfl rfl) rfl rfl ?_
    | refine sP (opp_as (v := .osl _ _ _ _ _) rfl rfl) rfl rfl ?_
  refine awp_seq ?_
  refine awp_seq ?_
  refine awp_region rfl ?_
  first
    | refine sP (opp_mv (v := .sl _ _ _ _) rfl rfl) rfl rfl ?_
    | refine sP (opp_mv (v := .osl _ _ _ _ _) rfl rfl) rfl rfl ?_
  first
    | refine sP (opp_slNil rfl rfl rfl un36 (.inl ⟨rfl, rfl⟩)) rfl rfl ?_
    | refine sP (opp_oslNil rfl rfl rfl un36 (.inl ⟨rfl, rfl⟩)) rfl rfl ?_
  refine awp_cond _ rfl (fun hc3 => ?_) (fun hc3 => ?_)
  · try simp only [cmpI, errD_nil, Bool.not_eq_true', Bool.not_eq_false', decide_eq_true_eq, decide_eq_false_iff_not] at hc3; have ht4 := hc3
    refine awp_seq ?_
    refine awp_region rfl ?_
    first
      | refine sP (opp_as (v := .sl _ _ _ _) rfl rfl) rfl rfl ?_
      | refine sP (opp_as (v := .osl _ _ _ _ _) rfl rfl) rfl rfl ?_
    refine awp_ret ?_
    repeat (first | refine athen_ret ?_ | refine ain_ret ?_)
    simp at hc3
  · try simp only [cmpI, errD_nil, Bool.not_eq_true', Bool.not_eq_false', decide_eq_true_eq, decide_eq_false_iff_not] at hc3; have ht4 := hc3
    refine awp_skip ?_
    refine awp_seq ?_
    refine awp_region rfl ?_
    refine sR (opr_buildSlice (n := 5) (g := fun _ => .int .u8 0) rfl eb36 z5 (by decide) rfl rfl) rfl rfl rfl ?_
    first
      | refine sP (opp_mv (v := .sl _ _ _ _) rfl rfl) rfl rfl ?_
      | refine sP (opp_mv (v := .osl _ _ _ _ _) rfl rfl) rfl rfl ?_
    first
      | refine sR (opr_append (d := 7) rfl rfl rfl (by omega) (.osl0 rfl (by omega)) eb36 z5 (by omega) (by omega)) rfl rfl rfl ?_
      | refine sR (opr_append (d := 7) rfl rfl rfl (by omega) .sl eb36 z5 (by omega) (by omega)) rfl rfl rfl ?_
      | refine sR (opr_append (d := 7) rfl rfl rfl (by omega) (.osl rfl (by omega) (fun _ _ => rfl)) eb36 z5 (by omega) (by omega)) rfl rfl rfl ?_
      | refine sR (opr_appendNil (d := 7) rfl rfl (.osl0 rfl (by omega)) eb36 z5 (by omega) (by omega) (by omega)) rfl rfl rfl ?_
      | refine sR (opr_appendNil (d := 7) rfl rfl .sl eb36 z5 (by omega) (by omega) (by omega)) rfl rfl rfl ?_
      | refine sR (opr_appendNil (d := 7) rfl rfl (.osl rfl (by omega) (fun _ _ => rfl)) eb36 z5 (by omega) (by omega) (by omega)) rfl rfl rfl ?_
    first
      | refine sP (opp_as (v := .sl _ _ _ _) rfl rfl) rfl rfl ?_
      | refine sP (opp_as (v := .osl _ _ _ _ _) rfl rfl) rfl rfl ?_
    refine awp_ret ?_
    repeat (first | refine athen_ret ?_ | refine ain_ret ?_)
    first
      | refine opost_ret (oend1 (r0 := .sl _ _ _ _) (.tmp .nil) shut rfl ?_ (And.intro (Exists.intro _ (Exists.intro _ (And.intro rfl (And.intro shut (And.intro (fun h => by cases h) (And.intro ?_ rfl)))))) True.intro))
      | refine opost_ret (oend1 (r0 := .osl _ _ _ _ _) (.tmp .nil) shut rfl ?_ (And.intro (Exists.intro _ (Exists.intro _ (And.intro rfl (And.intro shut (And.intro (fun h => by cases h) (And.intro ?_ rfl)))))) True.intro))
    · simp only [Nat.zero_add]; exact .refl
    · simp only [Nat.zero_add]; exact .arr (fun j hj => by simp)
end
end Go.Proofs.YtgaihhimkodmmaaDoor

