/-
  Proved: ferrylaw16.ImagePacks returns true for every input of bulk at most 1048576, and each argument reads afterwards as it read before (the tied card of the second form). Conditions: what the row itself says (its bound, its listed sentinels and errors' own variable, tied to the program's text).
-/
import Derived.Test.YtpmgdmbcdohgcaaDoorM9
import Derived.Test.YtpmgdmbcdohgcaaDoorCards
import Derived.Test.YtpmgdmbcdohgcaaDoorTie
import Derived.SevenTiedAt
import Derived.Handy
import Derived.Lay
import Derived.Deep.DeepHandedRow
import Derived.Deep.DeepWitnessRowRef
namespace Go.Proofs.YtpmgdmbcdohgcaaDoor
open Go.Fy Go.RowKit Go.ChangeShapes Go.WideShapes Go.ChangeAt
set_option linter.unusedSimpArgs false
set_option linter.unusedVariables false
theorem fitsS_rec {y : AV} (h : FitsS (.agg [.int .i64, .str]) y) : ∃ x : LR, x.2.length ≤ 1048576 ∧ y = .agg [.int .i64 x.1, .str x.2] := by
  simp only [FitsS, FitsSL] at h
  obtain ⟨_, rfl, x, _, rfl, ⟨n, rfl, -⟩, z, _, rfl, ⟨s, rfl, hs⟩, rfl⟩ := h
  exact ⟨(n, s), hs, rfl⟩
theorem fitsS_i64 {y : AV} (h : FitsS (.int .i64) y) : ∃ n : Int, True ∧ Wk y (.int .i64 n) := by
  simp only [FitsS] at h
  obtain ⟨n, rfl, -⟩ := h
  exact ⟨n, trivial, .refl⟩
theorem own : ownKnob Tryd.prog.godebug = none := by kernel_rfl
theorem laidOut : laidOutB Tryd.prog = true := by kernel_rfl
theorem star : "*" ++ "errors.errorString" = "*errors.errorString" := by decide
theorem rowErr (u : TypeId) (h : Tryd.prog.typeName? 3 u = some "*errors.errorString") : u = 187 :=
  typeName_ptr_named (nm := "errors.errorString") (by rw [star]; kernel_rfl) (by kernel_rfl) (by decide) u (by rw [star]; exact h)
theorem sentT : SentT Tryd.prog 35 187 := SentT.of (te := 208) (ts := 9) ⟨Tryd.prog.methodsAt 35, by kernel_rfl⟩ rowErr (by kernel_rfl) (by kernel_rfl) (by kernel_rfl) (by kernel_rfl) (by kernel_rfl)
theorem reads (os : Os) {H : Type} (enc : TypeId × Value → H) : ∃ x, DataW.whole enc Tryd.prog ((World.doorLaid Tryd.prog 401 os).forCall (fun _ _ => 0) ⟨#[], #[.slice none 0 0, .int .i64 0, .int .i64 0], []⟩).memory Tryd.f4.params.toList Rows.imagePacksSpec.vars false (#[.slice none 0 0, .int .i64 0, .int .i64 0] : Array Value).toList 8 = some x ∧ Rows.uptoSmall H (x.1 ++ x.2.1) = true := by
  have hb : ((DataW.whole enc Tryd.prog ((World.doorLaid Tryd.prog 401 os).forCall (fun _ _ => 0) ⟨#[], #[.slice none 0 0, .int .i64 0, .int .i64 0], []⟩).memory Tryd.f4.params.toList Rows.imagePacksSpec.vars false (#[.slice none 0 0, .int .i64 0, .int .i64 0] : Array Value).toList 8).any fun x => Rows.uptoSmall H (x.1 ++ x.2.1)) = true := by kernel_rfl
  exact any_ex hb
set_option maxRecDepth 100000 in
theorem lifted (os : Os) (started : os.Started) (H : Type) (enc : TypeId × Value → H) (F : Stop.Interp) :
    ReturnsInHanded {} Tryd.checked os 4 .any ((Rows.OpenSpec.upto Rows.imagePacksSpec).preRow enc Tryd.prog Tryd.f4 Rows.imagePacksUptoRow.domain false Rows.imagePacksUptoRow.laid)
      (((Rows.OpenSpec.upto Rows.imagePacksSpec).at F).post enc Tryd.prog Tryd.f4 false true false false) := by
  obtain ⟨x, hx, hxs⟩ := reads os enc (H := H)
  refine returnsInHanded_of_row (C := Tryd.checked) (s := Rows.OpenSpec.upto Rows.imagePacksSpec) own started (by kernel_rfl) Tryd.func4
    (witness_row_atRef (enc := enc) (C := Tryd.checked) false (World.doorLaid Tryd.prog 401 os) #[.slice none 0 0, .int .i64 0, .int .i64 0] rfl (by kernel_rfl) (by kernel_rfl) (by kernel_rfl)
      (OpenSpec.preRow_of_cond 8 hx rfl (fun k hk => by cases hk; exact hxs) (by kernel_rfl) (laidMetH_of_parts3 (fuel := 8) (laidMet_of_run' 8 (by kernel_rfl) (by kernel_rfl)) (by kernel_rfl) (by kernel_rfl)))) ?_
  intro W base args ds gs before hval hW _ hcond hreach hL _ _
  have hgs : gs = [] := by
    obtain ⟨p, q, -, hV, -⟩ := hW
    exact (trodVars_none hV).1
  subst hgs
  have hk := hcond _ rfl
  rw [List.append_nil] at hk
  have hbulk : Rows.uptoBulkAll ds ≤ 1048576 := of_decide_eq_true hk
  have hW2 : DataW.Whole enc Tryd.prog Tryd.f4.params.toList [] false W args.toList ds [] before := hW
  have hL2 : laidMetH Tryd.prog Rows.imagePacksUptoRow.laid W := hL
  have hL4 : laidMet Tryd.prog [("ferry/api.ErrShort", Rows.laid_ferry_api_ErrShort), ("ferry/api.ErrRest", Rows.laid_ferry_api_ErrRest), ("ferry/api.ErrTag", Rows.laid_ferry_api_ErrTag), ("ferry/api.ErrRange", Rows.laid_ferry_api_ErrRange), ("ferry/api.ErrLength", Rows.laid_ferry_api_ErrLength), ("ferry/api.ErrSum", Rows.laid_ferry_api_ErrSum), ("ferry/api.ErrKind", Rows.laid_ferry_api_ErrKind), ("ferry/api.ErrPlan", Rows.laid_ferry_api_ErrPlan), ("ferry/api.ErrState", Rows.laid_ferry_api_ErrState), ("ferry/api.ErrBase", Rows.laid_ferry_api_ErrBase), ("ferry/api.ErrSize", Rows.laid_ferry_api_ErrSize), ("ferry/api.ErrArg", Rows.laid_ferry_api_ErrArg), ("ferry/api.ErrEnd", Rows.laid_ferry_api_ErrEnd), ("ferry/api.ErrBusy", Rows.laid_ferry_api_ErrBusy), ("ferry/api.ErrDown", Rows.laid_ferry_api_ErrDown), ("ferry/api.ErrLost", Rows.laid_ferry_api_ErrLost), ("ferry/api.ErrNone", Rows.laid_ferry_api_ErrNone), ("ferry/api.ErrText", Rows.laid_ferry_api_ErrText), ("ferry/api.ErrStop", Rows.laid_ferry_api_ErrStop), ("ferry/api.ErrDivide", Rows.laid_ferry_api_ErrDivide)] W ∧ handlesMet Tryd.prog [("errors.errorType", Rows.laid_errors_errorType)] W := hL2
  obtain ⟨⟨ps, hL3, hnd, hrows⟩, hh⟩ := hL4
  have hX := handle_cell (rt := 149) (ty := 35) (N := 220) (k := 21) (g := 20) hh rfl rfl (by kernel_rfl) (by kernel_rfl) (by kernel_rfl) (by kernel_rfl) (by kernel_rfl)
  obtain ⟨ea, h1, h2⟩ := sents_of_laid sentT _ [(1, 2), (2, 3), (3, 4), (4, 1), (5, 0), (6, 5), (7, 6), (8, 7), (9, 8), (10, 9), (11, 10), (12, 11), (13, 12), (14, 13), (15, 14), (16, 15), (17, 16), (18, 17), (19, 18), (20, 19)] ps (by kernel_rfl) (by decide) hL3 hnd (fun b off hm u v hc => (hrows b off hm).2 u v hc)
  have hE := env_of_sentsX (P := Tryd.prog) (tp := 187) (tAt := 111) (W := W) (D := [(1, 2), (2, 3), (3, 4), (4, 1), (5, 0), (6, 5), (7, 6), (8, 7), (9, 8), (10, 9), (11, 10), (12, 11), (13, 12), (14, 13), (15, 14), (16, 15), (17, 16), (18, 17), (19, 18), (20, 19)]) (ea := ea) (σ := fun _ => 0) (g0 := 20) (v0 := (.iface 149 (.agg #[.pointer (some ⟨21, 35, none⟩)]))) rfl hX (fun p hp => ⟨(h1 p hp).1, (h1 p hp).2.1, (h1 p hp).2.2.1, (hrows _ _ (h1 p hp).2.2.2).1⟩) h2
  obtain ⟨p, q, hA, -, -⟩ := hW2
  obtain ⟨xs, hxs, hr⟩ := open_argsS (enc := enc) (E := ⟨V ea ([(1, 2), (2, 3), (3, 4), (4, 1), (5, 0), (6, 5), (7, 6), (8, 7), (9, 8), (10, 9), (11, 10), (12, 11), (13, 12), (14, 13), (15, 14), (16, 15), (17, 16), (18, 17), (19, 18), (20, 19)].map (·.1)) (glX [(1, 2), (2, 3), (3, 4), (4, 1), (5, 0), (6, 5), (7, 6), (8, 7), (9, 8), (10, 9), (11, 10), (12, 11), (13, 12), (14, 13), (15, 14), (16, 15), (17, 16), (18, 17), (19, 18), (20, 19)] 20 (.iface 149 (.agg #[.pointer (some ⟨21, 35, none⟩)]))), W, fun _ => 0, [], fun b => b < W.heap.size⟩) (fun _ h => h) (base := base) [.sl 2 24 (.agg [.int .i64, .str]), .int .i64, .int .i64] Tryd.f4.params.toList args.toList ds p (by kernel_rfl) hA hbulk
    (fun j t v hj hv => hval j t v (by simpa using hj) (by simpa using hv))
  simp only [FitsSL] at hxs
  obtain ⟨x0, r0, rfl, hx0, x1, r1, rfl, hx1, x2, r2, rfl, hx2, rfl⟩ := hxs
  obtain ⟨b0, l0, hb0, hl0, hv0, hk0⟩ := fitsS_list (g := fun x : LR => .agg [.int .i64 x.1, .str x.2]) (P := fun x => x.2.length ≤ 1048576) (0, []) (fun y hy => fitsS_rec hy) hx0
  obtain ⟨kd, hkd, hk1⟩ := fitsS_i64 hx1
  obtain ⟨id2, hid2, hk2⟩ := fitsS_i64 hx2
  have hr2 := RelT.wk (.cons (Wk.v hk0) (.cons (Wk.v hk1) (.cons (Wk.v hk2) (.nil)))) hr
  have hSents : Sents ([(1, 2), (2, 3), (3, 4), (4, 1), (5, 0), (6, 5), (7, 6), (8, 7), (9, 8), (10, 9), (11, 10), (12, 11), (13, 12), (14, 13), (15, 14), (16, 15), (17, 16), (18, 17), (19, 18), (20, 19)].map (·.1)) (glX [(1, 2), (2, 3), (3, 4), (4, 1), (5, 0), (6, 5), (7, 6), (8, 7), (9, 8), (10, 9), (11, 10), (12, 11), (13, 12), (14, 13), (15, 14), (16, 15), (17, 16), (18, 17), (19, 18), (20, 19)] 20 (.iface 149 (.agg #[.pointer (some ⟨21, 35, none⟩)]))) := ⟨rfl, rfl, rfl, rfl, rfl, rfl, rfl, rfl, rfl, rfl, rfl, rfl, rfl, rfl, rfl, rfl, rfl, rfl, rfl, rfl, rfl, fun d h1 h2 => (show ∀ d, d ∈ List.range 21 → 1 ≤ d → d ∈ [(1, 2), (2, 3), (3, 4), (4, 1), (5, 0), (6, 5), (7, 6), (8, 7), (9, 8), (10, 9), (11, 10), (12, 11), (13, 12), (14, 13), (15, 14), (16, 15), (17, 16), (18, 17), (19, 18), (20, 19)].map (·.1) from by decide) d (List.mem_range.2 (by omega)) h1⟩
  have hlaw := c4 (ea := ea) (cds := ([(1, 2), (2, 3), (3, 4), (4, 1), (5, 0), (6, 5), (7, 6), (8, 7), (9, 8), (10, 9), (11, 10), (12, 11), (13, 12), (14, 13), (15, 14), (16, 15), (17, 16), (18, 17), (19, 18), (20, 19)].map (·.1))) l0 b0 kd id2 (by omega) hSents
  refine (law_calls hlaw hE hr2).mono fun e W' ⟨he, hb⟩ => ?_
  subst he
  have hlen : ds.length = 3 := (trod_len _ _ _ _ hA).trans (by kernel_rfl)
  match ds, hlen with
  | [d0, d1, d2], _ => exact ⟨_, rfl, law_post (tb := 4) laidOut hW rfl rfl rfl (by kernel_rfl) (by kernel_rfl) hb⟩
theorem jf10 : (Rows.imagePacksUptoRow.inPlace == Tryd.prog.inPlace 4) = true := by kernel_rfl
theorem jf11 : (Rows.imagePacksUptoRow.unfollowed == Tryd.prog.unfollowed 4) = true := by kernel_rfl
theorem jf12 : (Rows.imagePacksUptoRow.recurses == Tryd.prog.recurses 4) = true := by kernel_rfl
theorem jf13 : (Rows.imagePacksUptoRow.named == Tryd.prog.varsNamed 4) = true := by kernel_rfl
theorem jf : joinedFacts Tryd.prog 4 Tryd.f4 (Rows.OpenSpec.upto Rows.imagePacksSpec).bare Rows.imagePacksUptoRow = true := by
  unfold joinedFacts
  rw [jf10, jf11, jf12, jf13]
  kernel_rfl
theorem said : Rows.ImagePacksUptoSaid :=
  OpenClaim.holds_of_cond 4 Tryd.f4 rfl rfl rfl rfl rfl rfl rfl ⟨rfl, rfl, rfl, rfl, rfl⟩ rfl rfl rfl rfl rfl (by kernel_rfl) Tryd.func4 jf
    (of_decide_eq_true (by kernel_rfl)) (by unfold Func.isWrapper; first | (rw [if_pos (by decide +kernel)]; kernel_rfl) | (rw [if_neg (by decide +kernel)]; exact ⟨rfl, rfl⟩))
    (fun os started H enc _ F => by rw [OpenClaim.pre_eq_preRow]; exact lifted os started H enc F)
theorem imagePacksUpto_holds : Rows.ImagePacksUptoCardSaid :=
  Claim7.holds_tied_plain_at .later [] [.handle, .sentinel, .sentinel, .sentinel, .sentinel, .sentinel, .sentinel, .sentinel, .sentinel, .sentinel, .sentinel, .sentinel, .sentinel, .sentinel, .sentinel, .sentinel, .sentinel, .sentinel, .sentinel, .sentinel, .sentinel] true (true, "4d54e295e198290be5e5231690219c45547993aafc6cc7cf98f76922a41d6937") true said (fun _ h => by cases h) (by kernel_rfl) (fun _ h => by cases h) imagePacksUpto_row_tie rfl ⟨rfl, rfl⟩ (by kernel_rfl) rfl
    (fun f fn hf hfn => by
      obtain rfl : f = 4 := Option.some.inj ((show Tryd.prog.funcNamed "ferry/ferrylaw16.ImagePacks" = some 4 by kernel_rfl).symm.trans hf) |>.symm
      obtain rfl : fn = Tryd.f4 := (Option.some.inj (Tryd.func4.symm.trans hfn)).symm
      exact ⟨by kernel_rfl, fun j t ht => by
        rw [Tryd.params4] at ht
        have hm : t ∈ [22, 3, 3] := by simpa using Array.mem_of_getElem? ht
        have hall : ([22, 3, 3].all fun u => !Tryd.prog.wantsStandIn u) = true := by kernel_rfl
        exact (show Tryd.prog.wantsStandIn t = false by simpa using List.all_eq_true.1 hall t hm)⟩)
    (by kernel_rfl)
#print axioms imagePacksUpto_holds
end Go.Proofs.YtpmgdmbcdohgcaaDoor

