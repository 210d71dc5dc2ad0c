/- Go's library: strings.Join (the shelf's contract); layer 20: the whole image (walks over this dump). -/
import Derived.Test.YtgaihhimkodmmaaDoorKBx
import Derived.Test.YtgaihhimkodmmaaDoorFyX
import Derived.Test.YtgaihhimkodmmaaDoorShelf
namespace Go.Proofs.YtgaihhimkodmmaaDoor
attribute [local irreducible] Tryd.prog
open Go.Fy Go.RowKit
set_option linter.unusedSimpArgs false
section
variable {ea : Nat → Addr} {cds : List Nat} {gl : Nat → Option AV}
theorem join_flat (l : List (List UInt8)) : Lib.join l [] = l.flatten := by
  cases l with
  | nil => rfl
  | cons a l => rw [Lib.join_cons]; simp [Lib.joinTail]
theorem c96 (b : Bool) (l : List (List UInt8)) (h1 : l.length ≤ 140737488355328) (h2 : l.flatten.length ≤ 140737488355328) : APure (V ea cds gl) 96 [.sl 1 b l.length (strAt l), .str []] false (.str l.flatten) := by
  refine apure_of_calls fun E vals hV hE hG hv => ?_
  obtain ⟨vl⟩ := vals
  simp only [RelT, RelV, Rel] at hv
  obtain ⟨c1, d1, rfl, ⟨a, cap, e1, hle, hnn, hnone, hel⟩, c2, d2, rfl, e2, rfl⟩ := hv
  simp only [List.cons.injEq, and_true] at e1 e2
  subst e1; subst e2
  by_cases hl : l.length = 0
  · have hl0 : l = [] := List.eq_nil_of_length_eq_zero hl
    subst hl0
    refine (Go.Proofs.Tryd.strings_Join_none a cap ⟨#[]⟩ E.w).mono fun e w' ⟨he, hw⟩ => ⟨_, he, fun E' => ?_, by rw [hw]; exact Below.refl _ _⟩
    simp only [RelV, Rel]; rfl
  · cases a with
    | none => exact absurd (hnone rfl).1 hl
    | some ad =>
      obtain ⟨hsp, hgd, hds⟩ := hel ad rfl
      have hsp := hsp (by omega)
      obtain ⟨ab, ao, asp⟩ := ad
      dsimp only at hsp hgd
      subst hsp
      have hm : (l.map fun s => (⟨s.toArray⟩ : ByteArray)).map (·.data.toList) = l := by rw [List.map_map]; exact List.map_id'' (fun _ => rfl) l
      have hJ := Go.Proofs.Tryd.strings_Join ab ao cap (l.map fun s => ⟨s.toArray⟩) ⟨#[]⟩ E.w (fun j x hx => ?_) (hG _ (hgd (by omega))) (by simpa using h1) (by simpa using hle) (by rw [hm]; show (Lib.join l []).length ≤ _; rw [join_flat]; exact h2)
      · rw [hm] at hJ
        simp only [List.length_map] at hJ
        refine hJ.mono fun e w' ⟨he, hw⟩ => ⟨_, he, fun E' => ?_, hw⟩
        simp only [RelV, Rel]
        show [Value.string ⟨(Lib.join l []).toArray⟩] = _
        rw [join_flat]
      · simp only [List.getElem?_map, Option.map_eq_some_iff] at hx
        obtain ⟨s, hs, rfl⟩ := hx
        have hj : j < l.length := (List.getElem?_eq_some_iff.1 hs).1
        obtain ⟨ds, h3, h4, h5⟩ := hds j hj
        simp only [strAt, Rel] at h5
        subst h5
        have := h4 0 _ rfl
        simp only [List.getD_eq_getElem?_getD, hs, Option.getD_some, Nat.mul_one, Nat.add_zero] at this
        exact this
theorem c44 (b : Bool) (s : Stage) (hG3 : gl 3 = some (.err (.code 9))) : APure (V ea cds gl) 44 [stageAV b s] false
    (.tup [.sl 1 (!(Sp.whole s).2.1) (Sp.whole s).1.length (bAt (Sp.whole s).1), .bool (Sp.whole s).2.1, .err (errD (Sp.whole s).2.2)]) := by
  refine acalls_of_body (N := 16) Tryd.func44 rfl rfl (Nat.le_of_ble_eq_true rfl) fun C hV hN hM hO => ?_
  obtain ⟨_, _, w0, G0, σ0, _, own0⟩ := C; dsimp only at hV hN hM hO; subst hV; subst hN; subst hM
  refine awp_seq ?_
  refine awp_region rfl ?_
  refine sR (opr_box (y := .agg _) (n := 1) rfl rfl rfl) rfl rfl rfl ?_
  first
    | refine sP (opp_as (v := .sl _ _ _ _) rfl rfl) rfl rfl ?_
    | refine sP (opp_as (v := .osl _ _ _ _ _) rfl rfl) rfl rfl ?_
  refine sP (opp_as (v := .bool _) rfl rfl) rfl rfl ?_
  refine sP (opp_as (v := .err _) rfl rfl) rfl rfl ?_
  refine awp_seq ?_
  refine awp_seq ?_
  refine awp_region rfl ?_
  first
    | refine sP (opp_loadP rfl rfl rfl rfl bi rfl ty53) rfl rfl ?_
    | refine sP (opp_loadF rfl rfl ty53) rfl rfl ?_
  refine sR (opr_call rfl rfl ent93 rfl (c93 _ _) (AViews.refl _ rfl)) rfl rfl rfl ?_ -- d=6 t=4
  refine sP (opp_not rfl rfl) rfl rfl ?_
  refine awp_cond _ rfl (fun hc3 => ?_) (fun hc3 => ?_)
  · try simp only [cmpI, errD_nil, Bool.not_eq_true', Bool.not_eq_false', decide_eq_true_eq, decide_eq_false_iff_not] at hc3; have ht7 := hc3
    refine awp_seq ?_
    refine awp_draw hmix rfl (by kernel_rfl) ?_
    refine dP (fun _ => false) (opp_loadF rfl (ev_glob hG3) ty29) rfl rfl ?_
    first
      | refine dP (fun _ => false) (opp_as (v := .sl _ _ _ _) rfl rfl) rfl rfl ?_
      | refine dP (fun _ => false) (opp_as (v := .osl _ _ _ _ _) rfl rfl) rfl rfl ?_
    refine dP (fun _ => false) (opp_as (v := .bool _) rfl rfl) rfl rfl ?_
    refine dP (fun _ => false) (opp_as (v := .err _) rfl rfl) rfl rfl ?_
    refine And.intro (by kernel_rfl) ?_
    refine awp_ret ?_
    repeat (first | refine athen_ret ?_ | refine ain_ret ?_)
    first
      | refine apost_ret (aend (l := [.sl _ _ _ _, .bool _, .err _]) (.tmp (.tmp (.tmp .nil))) (fun h => by cases h) (.cons (.noN rfl rfl) (.cons (.noN rfl rfl) (.cons (.noN rfl rfl) .nil))) ⟨Wk.v ?_, rfl, rfl⟩)
      | refine apost_ret (aends (l := [.sl _ _ _ _, .bool _, .err _]) (.tmp (.tmp (.tmp .nil))) (fun h => by cases h) (.cons shut (fun h => by cases h) (.cons shut (fun h => by cases h) (.cons shut (fun h => by cases h) .nil))) rfl ⟨Wk.v ?_, rfl, rfl⟩)
      | refine apost_ret (aend (l := [.osl _ _ _ _ _, .bool _, .err _]) (.tmp (.tmp (.tmp .nil))) (fun h => by cases h) (.cons (.noN rfl rfl) (.cons (.noN rfl rfl) (.cons (.noN rfl rfl) .nil))) ⟨Wk.v ?_, rfl, rfl⟩)
      | refine apost_ret (aends (l := [.osl _ _ _ _ _, .bool _, .err _]) (.tmp (.tmp (.tmp .nil))) (fun h => by cases h) (.cons shut (fun h => by cases h) (.cons shut (fun h => by cases h) (.cons shut (fun h => by cases h) .nil))) rfl ⟨Wk.v ?_, rfl, rfl⟩)
    rw [show Sp.whole s = ([], false, 9) by simp [Sp.whole, hc3]]; show Wk _ (.tup [.sl 1 true 0 _, .bool false, .err (.code 9)]); (repeat' (first | exact Wk.refl | exact Wk.sl0 | apply Wk.tup | apply Wk.agg | apply WkL.cons | exact WkL.nil | refine Wk.sl (fun _ _ => ?_)))
  · try simp only [cmpI, errD_nil, Bool.not_eq_true', Bool.not_eq_false', decide_eq_true_eq, decide_eq_false_iff_not] at hc3; have ht7 := hc3
    refine awp_skip ?_
    refine awp_seq ?_
    refine awp_seq ?_
    have hgb := Sp.goodS_bounds hc3
    have hgf := Sp.goodS_flat hc3
    refine awp_region rfl ?_
    first
      | refine sP (opp_fieldP rfl rfl fld53_4 rfl) rfl rfl ?_
      | refine sP (opp_fieldF rfl rfl rfl fld53_4 rfl rfl) rfl rfl ?_
    first
      | refine sP (opp_loadP rfl rfl rfl rfl bi rfl ty51) rfl rfl ?_
      | refine sP (opp_loadF rfl rfl ty51) rfl rfl ?_
    refine sR (opr_call rfl rfl ent95 rfl (c95 _ _ _ _ (by omega)) (AViews.refl _ rfl)) rfl rfl rfl ?_ -- d=11 t=4
    refine awp_cond _ rfl (fun hc6 => ?_) (fun hc6 => ?_)
    · try simp only [cmpI, errD_nil, Bool.not_eq_true', Bool.not_eq_false', decide_eq_true_eq, decide_eq_false_iff_not] at hc6; have ht11 := hc6
      refine awp_seq ?_
      refine awp_region rfl ?_
      first
        | refine sP (opp_as (v := .sl _ _ _ _) rfl rfl) rfl rfl ?_
        | refine sP (opp_as (v := .osl _ _ _ _ _) rfl rfl) rfl rfl ?_
      refine sP (opp_as (v := .bool _) rfl rfl) rfl rfl ?_
      refine sP (opp_as (v := .err _) rfl rfl) rfl rfl ?_
      refine awp_ret ?_
      repeat (first | refine athen_ret ?_ | refine ain_ret ?_)
      first
        | refine apost_ret (aend (l := [.sl _ _ _ _, .bool _, .err _]) (.tmp (.tmp (.tmp .nil))) (fun h => by cases h) (.cons (.noN rfl rfl) (.cons (.noN rfl rfl) (.cons (.noN rfl rfl) .nil))) ⟨Wk.v ?_, rfl, rfl⟩)
        | refine apost_ret (aends (l := [.sl _ _ _ _, .bool _, .err _]) (.tmp (.tmp (.tmp .nil))) (fun h => by cases h) (.cons shut (fun h => by cases h) (.cons shut (fun h => by cases h) (.cons shut (fun h => by cases h) .nil))) rfl ⟨Wk.v ?_, rfl, rfl⟩)
        | refine apost_ret (aend (l := [.osl _ _ _ _ _, .bool _, .err _]) (.tmp (.tmp (.tmp .nil))) (fun h => by cases h) (.cons (.noN rfl rfl) (.cons (.noN rfl rfl) (.cons (.noN rfl rfl) .nil))) ⟨Wk.v ?_, rfl, rfl⟩)
        | refine apost_ret (aends (l := [.osl _ _ _ _ _, .bool _, .err _]) (.tmp (.tmp (.tmp .nil))) (fun h => by cases h) (.cons shut (fun h => by cases h) (.cons shut (fun h => by cases h) (.cons shut (fun h => by cases h) .nil))) rfl ⟨Wk.v ?_, rfl, rfl⟩)
      have h : ((List.range s.pieces.length).any fun j => decide (s.pieces.getD j [] = [])) = true := by rw [← hc6]; congr 1; funext j; rw [decide_eq_decide]; exact eq_comm
      rw [show Sp.whole s = ([], false, 0) by simp only [Sp.whole, hc3, h]; rfl]; show Wk _ (.tup [.sl 1 true 0 _, .bool false, .err .nil]); (repeat' (first | exact Wk.refl | exact Wk.sl0 | apply Wk.tup | apply Wk.agg | apply WkL.cons | exact WkL.nil | refine Wk.sl (fun _ _ => ?_)))
    · try simp only [cmpI, errD_nil, Bool.not_eq_true', Bool.not_eq_false', decide_eq_true_eq, decide_eq_false_iff_not] at hc6; have ht11 := hc6
      refine awp_skip ?_
      refine awp_seq ?_
      refine awp_region rfl ?_
      first
        | refine sP (opp_fieldP rfl rfl fld53_4 rfl) rfl rfl ?_
        | refine sP (opp_fieldF rfl rfl rfl fld53_4 rfl rfl) rfl rfl ?_
      first
        | refine sP (opp_loadP rfl rfl rfl rfl bi rfl ty51) rfl rfl ?_
        | refine sP (opp_loadF rfl rfl ty51) rfl rfl ?_
      refine sR (opr_call rfl rfl ent96 rfl (c96 _ s.pieces (by omega) (by omega)) (AViews.refl _ rfl)) rfl rfl rfl ?_ -- d=14 t=9
      refine sR (opr_strBytes (n := 15) rfl rfl un9 un36 unu8) rfl rfl rfl ?_
      first
        | refine sP (opp_as (v := .sl _ _ _ _) rfl rfl) rfl rfl ?_
        | refine sP (opp_as (v := .osl _ _ _ _ _) rfl rfl) rfl rfl ?_
      refine sP (opp_as (v := .bool _) rfl rfl) rfl rfl ?_
      refine sP (opp_as (v := .err _) rfl rfl) rfl rfl ?_
      refine awp_ret ?_
      repeat (first | refine athen_ret ?_ | refine ain_ret ?_)
      first
        | refine apost_ret (aend (l := [.sl _ _ _ _, .bool _, .err _]) (.tmp (.tmp (.tmp .nil))) (fun h => by cases h) (.cons (.noN rfl rfl) (.cons (.noN rfl rfl) (.cons (.noN rfl rfl) .nil))) ⟨Wk.v ?_, rfl, rfl⟩)
        | refine apost_ret (aends (l := [.sl _ _ _ _, .bool _, .err _]) (.tmp (.tmp (.tmp .nil))) (fun h => by cases h) (.cons shut (fun h => by cases h) (.cons shut (fun h => by cases h) (.cons shut (fun h => by cases h) .nil))) rfl ⟨Wk.v ?_, rfl, rfl⟩)
        | refine apost_ret (aend (l := [.osl _ _ _ _ _, .bool _, .err _]) (.tmp (.tmp (.tmp .nil))) (fun h => by cases h) (.cons (.noN rfl rfl) (.cons (.noN rfl rfl) (.cons (.noN rfl rfl) .nil))) ⟨Wk.v ?_, rfl, rfl⟩)
        | refine apost_ret (aends (l := [.osl _ _ _ _ _, .bool _, .err _]) (.tmp (.tmp (.tmp .nil))) (fun h => by cases h) (.cons shut (fun h => by cases h) (.cons shut (fun h => by cases h) (.cons shut (fun h => by cases h) .nil))) rfl ⟨Wk.v ?_, rfl, rfl⟩)
      have h : ((List.range s.pieces.length).any fun j => decide (s.pieces.getD j [] = [])) = false := by rw [← hc6]; congr 1; funext j; rw [decide_eq_decide]; exact eq_comm
      rw [show Sp.whole s = (s.pieces.flatten, true, 0) by simp only [Sp.whole, hc3, h]; rfl]; exact .refl
end
end Go.Proofs.YtgaihhimkodmmaaDoor

