/- Layer 20: an image is cut (walks over this dump). -/
import Derived.Test.YtgaihhimkodmmaaDoorK7x
import Derived.Test.YtgaihhimkodmmaaDoorFyW
namespace Go.Proofs.YtgaihhimkodmmaaDoor
attribute [local irreducible] Tryd.prog
open Go.Fy
set_option linter.unusedSimpArgs false
section
variable {ea : Nat → Addr} {cds : List Nat} {gl : Nat → Option AV}
theorem c91 (b : Bool) (n : Nat) (f : Nat → AV) (k : Int) (h0 : 1 ≤ k) : APure (V ea cds gl) 91 [.sl 1 b n f, .int .i64 k] false (.fn 124 [.fptr (.sl 1 b n f), .fptr (.int .i64 k)]) := by
  refine acalls_of_body (N := 9) Tryd.func91 rfl rfl (Nat.le_of_ble_eq_true rfl) fun C hV hN hM hO => ?_
  obtain ⟨_, _, w0, G0, σ0, _, own0⟩ := C; dsimp only at hV hN hM hO; subst hV; subst hN; subst hM
  refine awp_seq ?_
  refine awp_region rfl ?_
  first
    | refine sR (opr_box (y := .sl _ _ _ _) (n := 2) rfl rfl rfl) rfl rfl rfl ?_
    | refine sR (opr_box (y := .osl _ _ _ _ _) (n := 2) rfl rfl rfl) rfl rfl rfl ?_
  refine sR (opr_box (y := .int _ _) (n := 3) rfl rfl rfl) rfl rfl rfl ?_
  first
    | refine sP (opp_as (v := .fn _ _) rfl rfl) rfl rfl ?_
    | refine sP (opp_as (v := .val _) rfl rfl) rfl rfl ?_
  refine awp_seq ?_
  refine awp_seq ?_
  refine awp_region rfl ?_
  first
    | refine sP (opp_loadP rfl rfl rfl rfl bi rfl ty3) rfl rfl ?_
    | refine sP (opp_loadF rfl rfl ty3) rfl rfl ?_
  refine sP (opp_cmp rfl rfl rfl rfl) rfl rfl ?_
  refine awp_cond _ rfl (fun hc3 => ?_) (fun hc3 => ?_)
  · try simp only [cmpI, errD_nil, Bool.not_eq_true', Bool.not_eq_false', decide_eq_true_eq, decide_eq_false_iff_not] at hc3; have ht6 := hc3
    exfalso; first | omega | (simp_all; done)
  · try simp only [cmpI, errD_nil, Bool.not_eq_true', Bool.not_eq_false', decide_eq_true_eq, decide_eq_false_iff_not] at hc3; have ht6 := hc3
    refine awp_skip ?_
    refine awp_seq ?_
    refine awp_region rfl ?_
    first
      | refine sP (opp_makeFunc (vs := [.ptr _ _ _, .ptr _ _ _]) rfl rfl rfl rfl) rfl rfl ?_
      | refine sP (opp_makeFunc (vs := [.ptr _ _ _, .fptr _]) rfl rfl rfl rfl) rfl rfl ?_
      | refine sP (opp_makeFunc (vs := [.ptr _ _ _, .fn _ _]) rfl rfl rfl rfl) rfl rfl ?_
      | refine sP (opp_makeFunc (vs := [.ptr _ _ _, .int _ _]) rfl rfl rfl rfl) rfl rfl ?_
      | refine sP (opp_makeFunc (vs := [.ptr _ _ _, .osl _ _ _ _ _]) rfl rfl rfl rfl) rfl rfl ?_
      | refine sP (opp_makeFunc (vs := [.ptr _ _ _, .sl _ _ _ _]) rfl rfl rfl rfl) rfl rfl ?_
      | refine sP (opp_makeFunc (vs := [.fptr _, .ptr _ _ _]) rfl rfl rfl rfl) rfl rfl ?_
      | refine sP (opp_makeFunc (vs := [.fptr _, .fptr _]) rfl rfl rfl rfl) rfl rfl ?_
      | refine sP (opp_makeFunc (vs := [.fptr _, .fn _ _]) rfl rfl rfl rfl) rfl rfl ?_
      | refine sP (opp_makeFunc (vs := [.fptr _, .int _ _]) rfl rfl rfl rfl) rfl rfl ?_
      | refine sP (opp_makeFunc (vs := [.fptr _, .osl _ _ _ _ _]) rfl rfl rfl rfl) rfl rfl ?_
      | refine sP (opp_makeFunc (vs := [.fptr _, .sl _ _ _ _]) rfl rfl rfl rfl) rfl rfl ?_
      | refine sP (opp_makeFunc (vs := [.fn _ _, .ptr _ _ _]) rfl rfl rfl rfl) rfl rfl ?_
      | refine sP (opp_makeFunc (vs := [.fn _ _, .fptr _]) rfl rfl rfl rfl) rfl rfl ?_
      | refine sP (opp_makeFunc (vs := [.fn _ _, .fn _ _]) rfl rfl rfl rfl) rfl rfl ?_
      | refine sP (opp_makeFunc (vs := [.fn _ _, .int _ _]) rfl rfl rfl rfl) rfl rfl ?_
      | refine sP (opp_makeFunc (vs := [.fn _ _, .osl _ _ _ _ _]) rfl rfl rfl rfl) rfl rfl ?_
      | refine sP (opp_makeFunc (vs := [.fn _ _, .sl _ _ _ _]) rfl rfl rfl rfl) rfl rfl ?_
      | refine sP (opp_makeFunc (vs := [.int _ _, .ptr _ _ _]) rfl rfl rfl rfl) rfl rfl ?_
      | refine sP (opp_makeFunc (vs := [.int _ _, .fptr _]) rfl rfl rfl rfl) rfl rfl ?_
      | refine sP (opp_makeFunc (vs := [.int _ _, .fn _ _]) rfl rfl rfl rfl) rfl rfl ?_
      | refine sP (opp_makeFunc (vs := [.int _ _, .int _ _]) rfl rfl rfl rfl) rfl rfl ?_
      | refine sP (opp_makeFunc (vs := [.int _ _, .osl _ _ _ _ _]) rfl rfl rfl rfl) rfl rfl ?_
      | refine sP (opp_makeFunc (vs := [.int _ _, .sl _ _ _ _]) rfl rfl rfl rfl) rfl rfl ?_
      | refine sP (opp_makeFunc (vs := [.osl _ _ _ _ _, .ptr _ _ _]) rfl rfl rfl rfl) rfl rfl ?_
      | refine sP (opp_makeFunc (vs := [.osl _ _ _ _ _, .fptr _]) rfl rfl rfl rfl) rfl rfl ?_
      | refine sP (opp_makeFunc (vs := [.osl _ _ _ _ _, .fn _ _]) rfl rfl rfl rfl) rfl rfl ?_
      | refine sP (opp_makeFunc (vs := [.osl _ _ _ _ _, .int _ _]) rfl rfl rfl rfl) rfl rfl ?_
      | refine sP (opp_makeFunc (vs := [.osl _ _ _ _ _, .osl _ _ _ _ _]) rfl rfl rfl rfl) rfl rfl ?_
      | refine sP (opp_makeFunc (vs := [.osl _ _ _ _ _, .sl _ _ _ _]) rfl rfl rfl rfl) rfl rfl ?_
      | refine sP (opp_makeFunc (vs := [.sl _ _ _ _, .ptr _ _ _]) rfl rfl rfl rfl) rfl rfl ?_
      | refine sP (opp_makeFunc (vs := [.sl _ _ _ _, .fptr _]) rfl rfl rfl rfl) rfl rfl ?_
      | refine sP (opp_makeFunc (vs := [.sl _ _ _ _, .fn _ _]) rfl rfl rfl rfl) rfl rfl ?_
      | refine sP (opp_makeFunc (vs := [.sl _ _ _ _, .int _ _]) rfl rfl rfl rfl) rfl rfl ?_
      | refine sP (opp_makeFunc (vs := [.sl _ _ _ _, .osl _ _ _ _ _]) rfl rfl rfl rfl) rfl rfl ?_
      | refine sP (opp_makeFunc (vs := [.sl _ _ _ _, .sl _ _ _ _]) rfl rfl rfl rfl) rfl rfl ?_
    first
      | refine sP (opp_as (v := .fn _ _) rfl rfl) rfl rfl ?_
      | refine sP (opp_as (v := .val _) rfl rfl) rfl rfl ?_
    refine awp_ret ?_
    repeat (first | refine athen_ret ?_ | refine ain_ret ?_)
    first
      | refine apost_ret (aend1 (r0 := .fn _ _) (.tmp .nil) (.noN rfl rfl) ⟨Wk.v ?_, rfl, rfl⟩)
      | refine apost_ret (aend1s (r0 := .fn _ _) (.tmp .nil) shut rfl ⟨Wk.v ?_, rfl, rfl⟩)
      | refine apost_ret (aend1 (r0 := .val _) (.tmp .nil) (.noN rfl rfl) ⟨Wk.v ?_, rfl, rfl⟩)
      | refine apost_ret (aend1s (r0 := .val _) (.tmp .nil) shut rfl ⟨Wk.v ?_, rfl, rfl⟩)
    (repeat' (first | exact Wk.refl | exact Wk.sl0 | apply Wk.tup | apply Wk.agg | apply WkL.cons | exact WkL.nil | refine Wk.sl (fun _ _ => ?_)))
end
end Go.Proofs.YtgaihhimkodmmaaDoor

