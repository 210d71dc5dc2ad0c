/-
  Proved: ferrylaw16.ImageLooks returns true for every input, and its argument reads afterwards as it read before (the tied card). Conditions: what the row itself says (its listed sentinels and errors' own variable, tied to the program's text).
-/
import Derived.Test.YtpmgdmbcdohgcaaGreatDoorM9
import Derived.Test.YtpmgdmbcdohgcaaGreatDoorCards
import Derived.Test.YtpmgdmbcdohgcaaGreatDoorTie
import Derived.SevenTiedAt
import Derived.Handy
import Derived.Lay
namespace Go.Proofs.YtpmgdmbcdohgcaaGreatDoor
open Go.Fy Go.RowKit Go.ChangeShapes Go.WideShapes Go.ChangeAt
set_option linter.unusedSimpArgs false
set_option linter.unusedVariables false
theorem own : ownKnob Tryz.prog.godebug = none := by kernel_rfl
theorem laidOut : laidOutB Tryz.prog = true := by kernel_rfl
theorem star : "*" ++ "errors.errorString" = "*errors.errorString" := by decide
theorem rowErr (u : TypeId) (h : Tryz.prog.typeName? 3 u = some "*errors.errorString") : u = 348 :=
  typeName_ptr_named (nm := "errors.errorString") (by rw [star]; kernel_rfl) (by kernel_rfl) (by decide) u (by rw [star]; exact h)
theorem sentT : SentT Tryz.prog 36 348 := SentT.of (te := 369) (ts := 9) ⟨Tryz.prog.methodsAt 36, by kernel_rfl⟩ rowErr (by kernel_rfl) (by kernel_rfl) (by kernel_rfl) (by kernel_rfl) (by kernel_rfl)
set_option maxRecDepth 100000 in
theorem lifted (os : Os) (started : os.Started) (H : Type) (enc : TypeId × Value → H) :
    ReturnsInHanded {} Tryz.checked os 3 .any (fun w args => (Rows.imageLooksSpec.pre enc Tryz.prog Tryz.f3 [] false w args ∧ laidMetH Tryz.prog Rows.imageLooksRow.laid w) ∧ sizedMet enc Tryz.prog Tryz.f3 (OpenSpec.ofChange Rows.imageLooksSpec) false w args)
      (Rows.imageLooksSpec.post enc Tryz.prog Tryz.f3 false true false false) := by
  refine returnsInHanded_of_change_and (C := Tryz.checked) (X := fun w _ => laidMetH Tryz.prog Rows.imageLooksRow.laid w) (fun _ _ _ hh h => h.of_heap hh) own started (by kernel_rfl) Tryz.func3
    (ChangeSpec.witness_shaped (enc := enc) (C := Tryz.checked) (os := os) (X := fun w _ => laidMetH Tryz.prog Rows.imageLooksRow.laid w) false (World.doorLaid Tryz.prog 401 os) #[.slice none 0 0] 8 rfl
      (World.shaped_of_RefB (by kernel_rfl) (by kernel_rfl)) (by kernel_rfl) (by kernel_rfl) (by kernel_rfl)
      (laidMetH_of_parts3 (fuel := 8) (laidMet_of_run' 8 (by kernel_rfl) (by kernel_rfl)) (by kernel_rfl) (by kernel_rfl))) ?_
  intro W base args ds gs before hval hW _ hreach hL _
  have hgs : gs = [] := by
    obtain ⟨p, q, -, hV, -⟩ := hW
    exact (trodVars_none hV).1
  subst hgs
  have hW2 : DataW.Whole enc Tryz.prog Tryz.f3.params.toList [] false W args.toList ds [] before := hW
  have hL2 : laidMetH Tryz.prog Rows.imageLooksRow.laid W := hL
  have hL4 : laidMet Tryz.prog [("ferry/api.ErrShort", Rows.laid_ferry_api_ErrShort), ("ferry/api.ErrRest", Rows.laid_ferry_api_ErrRest), ("ferry/api.ErrTag", Rows.laid_ferry_api_ErrTag), ("ferry/api.ErrRange", Rows.laid_ferry_api_ErrRange), ("ferry/api.ErrLength", Rows.laid_ferry_api_ErrLength), ("ferry/api.ErrSum", Rows.laid_ferry_api_ErrSum), ("ferry/api.ErrKind", Rows.laid_ferry_api_ErrKind), ("ferry/api.ErrPlan", Rows.laid_ferry_api_ErrPlan), ("ferry/api.ErrState", Rows.laid_ferry_api_ErrState), ("ferry/api.ErrBase", Rows.laid_ferry_api_ErrBase), ("ferry/api.ErrSize", Rows.laid_ferry_api_ErrSize), ("ferry/api.ErrArg", Rows.laid_ferry_api_ErrArg), ("ferry/api.ErrEnd", Rows.laid_ferry_api_ErrEnd), ("ferry/api.ErrBusy", Rows.laid_ferry_api_ErrBusy), ("ferry/api.ErrDown", Rows.laid_ferry_api_ErrDown), ("ferry/api.ErrLost", Rows.laid_ferry_api_ErrLost), ("ferry/api.ErrNone", Rows.laid_ferry_api_ErrNone), ("ferry/api.ErrText", Rows.laid_ferry_api_ErrText), ("ferry/api.ErrStop", Rows.laid_ferry_api_ErrStop), ("ferry/api.ErrDivide", Rows.laid_ferry_api_ErrDivide)] W ∧ handlesMet Tryz.prog [("errors.errorType", Rows.laid_errors_errorType)] W := hL2
  obtain ⟨⟨ps, hL3, hnd, hrows⟩, hh⟩ := hL4
  have hX := handle_cell (rt := 299) (ty := 36) (N := 381) (k := 22) (g := 20) hh rfl rfl (by kernel_rfl) (by kernel_rfl) (by kernel_rfl) (by kernel_rfl) (by kernel_rfl)
  obtain ⟨ea, h1, h2⟩ := sents_of_laid sentT _ [(1, 1), (2, 7), (3, 3), (4, 8), (5, 5), (6, 2), (7, 4), (8, 6), (9, 9), (10, 10), (11, 0), (12, 11), (13, 12), (14, 13), (15, 14), (16, 15), (17, 16), (18, 17), (19, 18), (20, 19)] ps (by kernel_rfl) (by decide) hL3 hnd (fun b off hm u v hc => (hrows b off hm).2 u v hc)
  have hE := env_of_sentsX (P := Tryz.prog) (tp := 348) (tAt := 196) (W := W) (D := [(1, 1), (2, 7), (3, 3), (4, 8), (5, 5), (6, 2), (7, 4), (8, 6), (9, 9), (10, 10), (11, 0), (12, 11), (13, 12), (14, 13), (15, 14), (16, 15), (17, 16), (18, 17), (19, 18), (20, 19)]) (ea := ea) (σ := fun _ => 0) (g0 := 20) (v0 := (.iface 299 (.agg #[.pointer (some ⟨22, 36, none⟩)]))) rfl hX (fun p hp => ⟨(h1 p hp).1, (h1 p hp).2.1, (h1 p hp).2.2.1, (hrows _ _ (h1 p hp).2.2.2).1⟩) h2
  obtain ⟨p, q, hA, -, -⟩ := hW2
  obtain ⟨xs, hxs, hr⟩ := open_args (enc := enc) (E := ⟨V ea ([(1, 1), (2, 7), (3, 3), (4, 8), (5, 5), (6, 2), (7, 4), (8, 6), (9, 9), (10, 10), (11, 0), (12, 11), (13, 12), (14, 13), (15, 14), (16, 15), (17, 16), (18, 17), (19, 18), (20, 19)].map (·.1)) (glX [(1, 1), (2, 7), (3, 3), (4, 8), (5, 5), (6, 2), (7, 4), (8, 6), (9, 9), (10, 10), (11, 0), (12, 11), (13, 12), (14, 13), (15, 14), (16, 15), (17, 16), (18, 17), (19, 18), (20, 19)] 20 (.iface 299 (.agg #[.pointer (some ⟨22, 36, none⟩)]))), W, fun _ => 0, [], fun b => b < W.heap.size⟩) (fun _ h => h) (base := base) [.sl 1 1 (.int .u8)] Tryz.f3.params.toList args.toList ds p (by kernel_rfl) hA (by exact reach_of (by kernel_rfl) hreach)
    (fun j t v hj hv => hval j t v (by simpa using hj) (by simpa using hv))
  simp only [FitsL] at hxs
  obtain ⟨x0, r0, rfl, hx0, rfl⟩ := hxs
  obtain ⟨b0, im, hb0, hl0, hk0⟩ := fits_bytes hx0
  have hr2 := RelT.wk (.cons (Wk.v hk0) (.nil)) hr
  have hSents : Sents ([(1, 1), (2, 7), (3, 3), (4, 8), (5, 5), (6, 2), (7, 4), (8, 6), (9, 9), (10, 10), (11, 0), (12, 11), (13, 12), (14, 13), (15, 14), (16, 15), (17, 16), (18, 17), (19, 18), (20, 19)].map (·.1)) (glX [(1, 1), (2, 7), (3, 3), (4, 8), (5, 5), (6, 2), (7, 4), (8, 6), (9, 9), (10, 10), (11, 0), (12, 11), (13, 12), (14, 13), (15, 14), (16, 15), (17, 16), (18, 17), (19, 18), (20, 19)] 20 (.iface 299 (.agg #[.pointer (some ⟨22, 36, none⟩)]))) := ⟨rfl, rfl, rfl, rfl, rfl, rfl, rfl, rfl, rfl, rfl, rfl, rfl, rfl, rfl, rfl, rfl, rfl, rfl, rfl, rfl, rfl, fun d h1 h2 => (show ∀ d, d ∈ List.range 21 → 1 ≤ d → d ∈ [(1, 1), (2, 7), (3, 3), (4, 8), (5, 5), (6, 2), (7, 4), (8, 6), (9, 9), (10, 10), (11, 0), (12, 11), (13, 12), (14, 13), (15, 14), (16, 15), (17, 16), (18, 17), (19, 18), (20, 19)].map (·.1) from by decide) d (List.mem_range.2 (by omega)) h1⟩
  have hlaw := c3 (ea := ea) (cds := ([(1, 1), (2, 7), (3, 3), (4, 8), (5, 5), (6, 2), (7, 4), (8, 6), (9, 9), (10, 10), (11, 0), (12, 11), (13, 12), (14, 13), (15, 14), (16, 15), (17, 16), (18, 17), (19, 18), (20, 19)].map (·.1))) b0 im hb0 (by omega) hSents
  refine (law_calls hlaw hE hr2).mono fun e W' ⟨he, hb⟩ => ?_
  subst he
  have hlen : ds.length = 1 := (trod_len _ _ _ _ hA).trans (by kernel_rfl)
  match ds, hlen with
  | [d0], _ => exact ⟨_, rfl, law_post (tb := 4) laidOut hW rfl rfl rfl (by kernel_rfl) (by kernel_rfl) hb⟩
theorem jf10 : (Rows.imageLooksRow.inPlace == Tryz.prog.inPlace 3) = true := by kernel_rfl
theorem jf11 : (Rows.imageLooksRow.unfollowed == Tryz.prog.unfollowed 3) = true := by kernel_rfl
theorem jf12 : (Rows.imageLooksRow.recurses == Tryz.prog.recurses 3) = true := by kernel_rfl
theorem jf13 : (Rows.imageLooksRow.named == Tryz.prog.varsNamed 3) = true := by kernel_rfl
theorem jf : joinedFacts Tryz.prog 3 Tryz.f3 Rows.imageLooksSpec Rows.imageLooksRow = true := by
  unfold joinedFacts
  rw [jf10, jf11, jf12, jf13]
  kernel_rfl
theorem said : Rows.ImageLooksSaid :=
  OpenClaim.holds_of_wide 3 Tryz.f3 rfl rfl rfl rfl rfl rfl rfl ⟨rfl, rfl, rfl, rfl, rfl⟩ rfl rfl rfl rfl rfl (by kernel_rfl) Tryz.func3 jf
    (of_decide_eq_true (by kernel_rfl)) (by unfold Func.isWrapper; first | (rw [if_pos (by decide +kernel)]; kernel_rfl) | (rw [if_neg (by decide +kernel)]; exact ⟨rfl, rfl⟩))
    (fun os started H enc _ => lifted os started H enc)
theorem imageLooks_holds : Rows.ImageLooksCardSaid :=
  Claim7.holds_tied_plain_at .later [] [.handle, .sentinel, .sentinel, .sentinel, .sentinel, .sentinel, .sentinel, .sentinel, .sentinel, .sentinel, .sentinel, .sentinel, .sentinel, .sentinel, .sentinel, .sentinel, .sentinel, .sentinel, .sentinel, .sentinel, .sentinel] true (true, "1422ab975709f22093202c575776404c7a01d8236776ee99a2f0cb5d902ed4c2") true said (fun _ h => by cases h) (by kernel_rfl) (fun _ h => by cases h) imageLooks_row_tie rfl ⟨rfl, rfl⟩ (by kernel_rfl) rfl
    (fun f fn hf hfn => by
      obtain rfl : f = 3 := Option.some.inj ((show Tryz.prog.funcNamed "ferry/ferrylaw16.ImageLooks" = some 3 by kernel_rfl).symm.trans hf) |>.symm
      obtain rfl : fn = Tryz.f3 := (Option.some.inj (Tryz.func3.symm.trans hfn)).symm
      exact ⟨by kernel_rfl, fun j t ht => by
        rw [Tryz.params3] at ht
        have hm : t ∈ [22] := by simpa using Array.mem_of_getElem? ht
        have hall : ([22].all fun u => !Tryz.prog.wantsStandIn u) = true := by kernel_rfl
        exact (show Tryz.prog.wantsStandIn t = false by simpa using List.all_eq_true.1 hall t hm)⟩)
    (by kernel_rfl)
#print axioms imageLooks_holds
end Go.Proofs.YtpmgdmbcdohgcaaGreatDoor

