/-
  Proved: ferrylaw20.ChunkNotes returns true for every input, and each argument reads afterwards as it read before (the tied card). Conditions: what the row itself says (its listed sentinels and errors' own variable, tied to the program's text).
-/
import Derived.Test.YtgaihhimkodmmaaDoorM8
import Derived.Test.YtgaihhimkodmmaaDoorCards
import Derived.Test.YtgaihhimkodmmaaDoorTie
import Derived.SevenTiedAt
import Derived.Handy
import Derived.Lay
namespace Go.Proofs.YtgaihhimkodmmaaDoor
open Go.Fy Go.RowKit Go.ChangeShapes Go.WideShapes Go.ChangeAt
set_option linter.unusedSimpArgs false
set_option linter.unusedVariables false
theorem own : ownKnob Tryd.prog.godebug = none := by kernel_rfl
theorem laidOut : laidOutB Tryd.prog = true := by kernel_rfl
theorem star : "*" ++ "errors.errorString" = "*errors.errorString" := by decide
theorem rowErr (u : TypeId) (h : Tryd.prog.typeName? 3 u = some "*errors.errorString") : u = 244 :=
  typeName_ptr_named (nm := "errors.errorString") (by rw [star]; kernel_rfl) (by kernel_rfl) (by decide) u (by rw [star]; exact h)
theorem sentT : SentT Tryd.prog 29 244 := SentT.of (te := 263) (ts := 9) ⟨Tryd.prog.methodsAt 29, by kernel_rfl⟩ rowErr (by kernel_rfl) (by kernel_rfl) (by kernel_rfl) (by kernel_rfl) (by kernel_rfl)
set_option maxRecDepth 100000 in
theorem lifted (os : Os) (started : os.Started) (H : Type) (enc : TypeId × Value → H) :
    ReturnsInHanded {} Tryd.checked os 8 .any (fun w args => (Rows.chunkNotesSpec.pre enc Tryd.prog Tryd.f8 [] false w args ∧ laidMetH Tryd.prog Rows.chunkNotesRow.laid w) ∧ sizedMet enc Tryd.prog Tryd.f8 (OpenSpec.ofChange Rows.chunkNotesSpec) false w args)
      (Rows.chunkNotesSpec.post enc Tryd.prog Tryd.f8 false true false false) := by
  refine returnsInHanded_of_change_and (C := Tryd.checked) (X := fun w _ => laidMetH Tryd.prog Rows.chunkNotesRow.laid w) (fun _ _ _ hh h => h.of_heap hh) own started (by kernel_rfl) Tryd.func8
    (ChangeSpec.witness_shaped (enc := enc) (C := Tryd.checked) (os := os) (X := fun w _ => laidMetH Tryd.prog Rows.chunkNotesRow.laid w) false (World.doorLaid Tryd.prog 401 os) #[.agg #[.int .i64 0, .int .i64 0, .int .i64 0, .int .i64 0, .int .i64 0, .int .i64 0, .int .i64 0, .int .i64 0, .int .u32 0, .string ⟨#[]⟩], .string ⟨#[]⟩] 8 rfl
      (World.shaped_of_RefB (by kernel_rfl) (by kernel_rfl)) (by kernel_rfl) (by kernel_rfl) (by kernel_rfl)
      (laidMetH_of_parts3 (fuel := 8) (laidMet_of_run' 8 (by kernel_rfl) (by kernel_rfl)) (by kernel_rfl) (by kernel_rfl))) ?_
  intro W base args ds gs before hval hW _ hreach hL _
  have hgs : gs = [] := by
    obtain ⟨p, q, -, hV, -⟩ := hW
    exact (trodVars_none hV).1
  subst hgs
  have hW2 : DataW.Whole enc Tryd.prog Tryd.f8.params.toList [] false W args.toList ds [] before := hW
  have hL2 : laidMetH Tryd.prog Rows.chunkNotesRow.laid W := hL
  have hL4 : laidMet Tryd.prog [("ferry/api.ErrShort", Rows.laid_ferry_api_ErrShort), ("ferry/api.ErrRest", Rows.laid_ferry_api_ErrRest), ("ferry/api.ErrTag", Rows.laid_ferry_api_ErrTag), ("ferry/api.ErrRange", Rows.laid_ferry_api_ErrRange), ("ferry/api.ErrLength", Rows.laid_ferry_api_ErrLength), ("ferry/api.ErrSum", Rows.laid_ferry_api_ErrSum), ("ferry/api.ErrKind", Rows.laid_ferry_api_ErrKind), ("ferry/api.ErrPlan", Rows.laid_ferry_api_ErrPlan), ("ferry/api.ErrState", Rows.laid_ferry_api_ErrState), ("ferry/api.ErrBase", Rows.laid_ferry_api_ErrBase), ("ferry/api.ErrSize", Rows.laid_ferry_api_ErrSize), ("ferry/api.ErrArg", Rows.laid_ferry_api_ErrArg), ("ferry/api.ErrEnd", Rows.laid_ferry_api_ErrEnd), ("ferry/api.ErrBusy", Rows.laid_ferry_api_ErrBusy), ("ferry/api.ErrDown", Rows.laid_ferry_api_ErrDown), ("ferry/api.ErrLost", Rows.laid_ferry_api_ErrLost), ("ferry/api.ErrNone", Rows.laid_ferry_api_ErrNone), ("ferry/api.ErrText", Rows.laid_ferry_api_ErrText), ("ferry/api.ErrStop", Rows.laid_ferry_api_ErrStop), ("ferry/api.ErrDivide", Rows.laid_ferry_api_ErrDivide)] W ∧ handlesMet Tryd.prog [("errors.errorType", Rows.laid_errors_errorType)] W := hL2
  obtain ⟨⟨ps, hL3, hnd, hrows⟩, hh⟩ := hL4
  have hX := handle_cell (rt := 225) (ty := 29) (N := 275) (k := 23) (g := 14) hh rfl rfl (by kernel_rfl) (by kernel_rfl) (by kernel_rfl) (by kernel_rfl) (by kernel_rfl)
  obtain ⟨ea, h1, h2⟩ := sents_of_laid sentT _ [(1, 0), (2, 11), (3, 12), (4, 8), (5, 1), (6, 9), (7, 4), (8, 13), (9, 3), (10, 5), (11, 6), (12, 2), (13, 15), (14, 7), (15, 16), (16, 17), (17, 18), (18, 19), (19, 20), (20, 21)] ps (by kernel_rfl) (by decide) hL3 hnd (fun b off hm u v hc => (hrows b off hm).2 u v hc)
  have hE := env_of_sentsX (P := Tryd.prog) (tp := 244) (tAt := 197) (W := W) (D := [(1, 0), (2, 11), (3, 12), (4, 8), (5, 1), (6, 9), (7, 4), (8, 13), (9, 3), (10, 5), (11, 6), (12, 2), (13, 15), (14, 7), (15, 16), (16, 17), (17, 18), (18, 19), (19, 20), (20, 21)]) (ea := ea) (σ := fun _ => 0) (g0 := 14) (v0 := (.iface 225 (.agg #[.pointer (some ⟨23, 29, none⟩)]))) rfl hX (fun p hp => ⟨(h1 p hp).1, (h1 p hp).2.1, (h1 p hp).2.2.1, (hrows _ _ (h1 p hp).2.2.2).1⟩) h2
  obtain ⟨p, q, hA, -, -⟩ := hW2
  obtain ⟨xs, hxs, hr⟩ := open_args (enc := enc) (E := ⟨V ea ([(1, 0), (2, 11), (3, 12), (4, 8), (5, 1), (6, 9), (7, 4), (8, 13), (9, 3), (10, 5), (11, 6), (12, 2), (13, 15), (14, 7), (15, 16), (16, 17), (17, 18), (18, 19), (19, 20), (20, 21)].map (·.1)) (glX [(1, 0), (2, 11), (3, 12), (4, 8), (5, 1), (6, 9), (7, 4), (8, 13), (9, 3), (10, 5), (11, 6), (12, 2), (13, 15), (14, 7), (15, 16), (16, 17), (17, 18), (18, 19), (19, 20), (20, 21)] 14 (.iface 225 (.agg #[.pointer (some ⟨23, 29, none⟩)]))), W, fun _ => 0, [], fun b => b < W.heap.size⟩) (fun _ h => h) (base := base) [shNote, .str] Tryd.f8.params.toList args.toList ds p (by kernel_rfl) hA (by exact reach_of (by kernel_rfl) hreach)
    (fun j t v hj hv => hval j t v (by simpa using hj) (by simpa using hv))
  simp only [FitsL] at hxs
  obtain ⟨x0, r0, rfl, hx0, x1, r1, rfl, hx1, rfl⟩ := hxs
  obtain ⟨n0, hn0, rfl⟩ := fits_note hx0
  have hk0 : Wk (noteAV n0) (noteAV n0) := .refl
  simp only [Fits] at hx1
  obtain ⟨s1, rfl, hl1⟩ := hx1
  have hk1 : Wk (.str s1) (.str s1) := .refl
  have hr2 := RelT.wk (.cons (Wk.v hk0) (.cons (Wk.v hk1) (.nil))) hr
  have hSents : Sents ([(1, 0), (2, 11), (3, 12), (4, 8), (5, 1), (6, 9), (7, 4), (8, 13), (9, 3), (10, 5), (11, 6), (12, 2), (13, 15), (14, 7), (15, 16), (16, 17), (17, 18), (18, 19), (19, 20), (20, 21)].map (·.1)) (glX [(1, 0), (2, 11), (3, 12), (4, 8), (5, 1), (6, 9), (7, 4), (8, 13), (9, 3), (10, 5), (11, 6), (12, 2), (13, 15), (14, 7), (15, 16), (16, 17), (17, 18), (18, 19), (19, 20), (20, 21)] 14 (.iface 225 (.agg #[.pointer (some ⟨23, 29, none⟩)]))) := ⟨rfl, rfl, rfl, rfl, rfl, rfl, rfl, rfl, rfl, rfl, rfl, rfl, rfl, rfl, rfl, rfl, rfl, rfl, rfl, rfl, rfl, fun d h1 h2 => (show ∀ d, d ∈ List.range 21 → 1 ≤ d → d ∈ [(1, 0), (2, 11), (3, 12), (4, 8), (5, 1), (6, 9), (7, 4), (8, 13), (9, 3), (10, 5), (11, 6), (12, 2), (13, 15), (14, 7), (15, 16), (16, 17), (17, 18), (18, 19), (19, 20), (20, 21)].map (·.1) from by decide) d (List.mem_range.2 (by omega)) h1⟩
  have hlaw := c8 (ea := ea) (cds := ([(1, 0), (2, 11), (3, 12), (4, 8), (5, 1), (6, 9), (7, 4), (8, 13), (9, 3), (10, 5), (11, 6), (12, 2), (13, 15), (14, 7), (15, 16), (16, 17), (17, 18), (18, 19), (19, 20), (20, 21)].map (·.1))) n0 s1 hn0.2.2.2.2.2.1 hl1 hSents
  refine (law_calls hlaw hE hr2).mono fun e W' ⟨he, hb⟩ => ?_
  subst he
  have hlen : ds.length = 2 := (trod_len _ _ _ _ hA).trans (by kernel_rfl)
  match ds, hlen with
  | [d0, d1], _ => exact ⟨_, rfl, law_post (tb := 4) laidOut hW rfl rfl rfl (by kernel_rfl) (by kernel_rfl) hb⟩
theorem said : Rows.ChunkNotesSaid :=
  OpenClaim.holds_of_wide 8 Tryd.f8 rfl rfl rfl rfl rfl rfl rfl ⟨rfl, rfl, rfl, rfl, rfl⟩ rfl rfl rfl rfl rfl (by kernel_rfl) Tryd.func8 (by kernel_rfl)
    (of_decide_eq_true (by kernel_rfl)) (by unfold Func.isWrapper; first | (rw [if_pos (by decide +kernel)]; kernel_rfl) | (rw [if_neg (by decide +kernel)]; exact ⟨rfl, rfl⟩))
    (fun os started H enc _ => lifted os started H enc)
theorem chunkNotes_holds : Rows.ChunkNotesCardSaid :=
  Claim7.holds_tied_plain_at .later [] [.handle, .sentinel, .sentinel, .sentinel, .sentinel, .sentinel, .sentinel, .sentinel, .sentinel, .sentinel, .sentinel, .sentinel, .sentinel, .sentinel, .sentinel, .sentinel, .sentinel, .sentinel, .sentinel, .sentinel, .sentinel] true (true, "0aba2892dadaef05bb924c7ab3bcbb8043e7457084ad53263f8e1ae098efecbd") true said (fun _ h => by cases h) (by kernel_rfl) (fun _ h => by cases h) chunkNotes_row_tie rfl ⟨rfl, rfl⟩ (by kernel_rfl) rfl
    (fun f fn hf hfn => by
      obtain rfl : f = 8 := Option.some.inj ((show Tryd.prog.funcNamed "ferry/ferrylaw20.ChunkNotes" = some 8 by kernel_rfl).symm.trans hf) |>.symm
      obtain rfl : fn = Tryd.f8 := (Option.some.inj (Tryd.func8.symm.trans hfn)).symm
      exact ⟨by kernel_rfl, fun j t ht => by
        rw [Tryd.params8] at ht
        have hm : t ∈ [26, 9] := by simpa using Array.mem_of_getElem? ht
        have hall : ([26, 9].all fun u => !Tryd.prog.wantsStandIn u) = true := by kernel_rfl
        exact (show Tryd.prog.wantsStandIn t = false by simpa using List.all_eq_true.1 hall t hm)⟩)
    (by kernel_rfl)
#print axioms chunkNotes_holds
end Go.Proofs.YtgaihhimkodmmaaDoor

