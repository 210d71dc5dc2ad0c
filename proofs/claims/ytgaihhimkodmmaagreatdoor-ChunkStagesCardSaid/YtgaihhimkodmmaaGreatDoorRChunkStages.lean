/-
  Proved: ferrylaw20.ChunkStages returns true for every input, and each argument reads afterwards as it read before (the tied card). Conditions: what the row itself says (its listed sentinels and errors' own variable, tied to the program's text).
-/
import Derived.Test.YtgaihhimkodmmaaGreatDoorM8
import Derived.Test.YtgaihhimkodmmaaGreatDoorCards
import Derived.Test.YtgaihhimkodmmaaGreatDoorTie
import Derived.SevenTiedAt
import Derived.Handy
import Derived.Lay
namespace Go.Proofs.YtgaihhimkodmmaaGreatDoor
open Go.Fy Go.RowKit Go.ChangeShapes Go.WideShapes Go.ChangeAt
set_option linter.unusedSimpArgs false
set_option linter.unusedVariables false
theorem fits_stage {y : AV} (h : Fits (.agg [.int .i64, .int .i64, .int .i64, shXid, .sl 1 16 .str]) y) : ∃ (b : Bool) (s : Stage), s.pieces.length * 16 ≤ 140737488351232 ∧ (b = true → s.pieces.length = 0) ∧ Wk y (stageAV b s) := by
  rw [Fits] at h
  obtain ⟨ys, rfl, h1⟩ := h
  simp only [FitsL] at h1
  obtain ⟨y0, _, rfl, g0, y1, _, rfl, g1, y2, _, rfl, g2, y3, _, rfl, g3, y4, _, rfl, g4, rfl⟩ := h1
  obtain ⟨a0, rfl, -⟩ := fits_int g0
  obtain ⟨a1, rfl, -⟩ := fits_int g1
  obtain ⟨a2, rfl, -⟩ := fits_int g2
  obtain ⟨a3, rfl⟩ := fits_xid g3
  obtain ⟨b, l, hb, hl, -, hk⟩ := fits_strs g4
  exact ⟨b, ⟨a0, a1, a2, a3, l⟩, hl, hb, .agg (.cons .refl (.cons .refl (.cons .refl (.cons .refl (.cons hk .nil)))))⟩
theorem own : ownKnob Tryz.prog.godebug = none := by kernel_rfl
theorem laidOut : laidOutB Tryz.prog = true := by kernel_rfl
theorem star : "*" ++ "errors.errorString" = "*errors.errorString" := by decide
theorem rowErr (u : TypeId) (h : Tryz.prog.typeName? 3 u = some "*errors.errorString") : u = 161 :=
  typeName_ptr_named (nm := "errors.errorString") (by rw [star]; kernel_rfl) (by kernel_rfl) (by decide) u (by rw [star]; exact h)
theorem sentT : SentT Tryz.prog 42 161 := SentT.of (te := 180) (ts := 9) ⟨Tryz.prog.methodsAt 42, by kernel_rfl⟩ rowErr (by kernel_rfl) (by kernel_rfl) (by kernel_rfl) (by kernel_rfl) (by kernel_rfl)
set_option maxRecDepth 100000 in
theorem lifted (os : Os) (started : os.Started) (H : Type) (enc : TypeId × Value → H) :
    ReturnsInHanded {} Tryz.checked os 4 .any (fun w args => (Rows.chunkStagesSpec.pre enc Tryz.prog Tryz.f4 [] false w args ∧ laidMetH Tryz.prog Rows.chunkStagesRow.laid w) ∧ sizedMet enc Tryz.prog Tryz.f4 (OpenSpec.ofChange Rows.chunkStagesSpec) false w args)
      (Rows.chunkStagesSpec.post enc Tryz.prog Tryz.f4 false true false false) := by
  refine returnsInHanded_of_change_and (C := Tryz.checked) (X := fun w _ => laidMetH Tryz.prog Rows.chunkStagesRow.laid w) (fun _ _ _ hh h => h.of_heap hh) own started (by kernel_rfl) Tryz.func4
    (ChangeSpec.witness_shaped (enc := enc) (C := Tryz.checked) (os := os) (X := fun w _ => laidMetH Tryz.prog Rows.chunkStagesRow.laid w) false (World.doorLaid Tryz.prog 401 os) #[.agg #[.int .i64 0, .int .i64 0, .int .i64 0, .int .i64 0, .int .i64 0, .int .i64 0, .slice none 0 0], .slice none 0 0, .bool false] 8 rfl
      (World.shaped_of_RefB (by kernel_rfl) (by kernel_rfl)) (by kernel_rfl) (by kernel_rfl) (by kernel_rfl)
      (laidMetH_of_parts3 (fuel := 8) (laidMet_of_run' 8 (by kernel_rfl) (by kernel_rfl)) (by kernel_rfl) (by kernel_rfl))) ?_
  intro W base args ds gs before hval hW _ hreach hL _
  have hgs : gs = [] := by
    obtain ⟨p, q, -, hV, -⟩ := hW
    exact (trodVars_none hV).1
  subst hgs
  have hW2 : DataW.Whole enc Tryz.prog Tryz.f4.params.toList [] false W args.toList ds [] before := hW
  have hL2 : laidMetH Tryz.prog Rows.chunkStagesRow.laid W := hL
  have hL4 : laidMet Tryz.prog [("ferry/api.ErrShort", Rows.laid_ferry_api_ErrShort), ("ferry/api.ErrRest", Rows.laid_ferry_api_ErrRest), ("ferry/api.ErrTag", Rows.laid_ferry_api_ErrTag), ("ferry/api.ErrRange", Rows.laid_ferry_api_ErrRange), ("ferry/api.ErrLength", Rows.laid_ferry_api_ErrLength), ("ferry/api.ErrSum", Rows.laid_ferry_api_ErrSum), ("ferry/api.ErrKind", Rows.laid_ferry_api_ErrKind), ("ferry/api.ErrPlan", Rows.laid_ferry_api_ErrPlan), ("ferry/api.ErrState", Rows.laid_ferry_api_ErrState), ("ferry/api.ErrBase", Rows.laid_ferry_api_ErrBase), ("ferry/api.ErrSize", Rows.laid_ferry_api_ErrSize), ("ferry/api.ErrArg", Rows.laid_ferry_api_ErrArg), ("ferry/api.ErrEnd", Rows.laid_ferry_api_ErrEnd), ("ferry/api.ErrBusy", Rows.laid_ferry_api_ErrBusy), ("ferry/api.ErrDown", Rows.laid_ferry_api_ErrDown), ("ferry/api.ErrLost", Rows.laid_ferry_api_ErrLost), ("ferry/api.ErrNone", Rows.laid_ferry_api_ErrNone), ("ferry/api.ErrText", Rows.laid_ferry_api_ErrText), ("ferry/api.ErrStop", Rows.laid_ferry_api_ErrStop), ("ferry/api.ErrDivide", Rows.laid_ferry_api_ErrDivide)] W ∧ handlesMet Tryz.prog [("errors.errorType", Rows.laid_errors_errorType)] W := hL2
  obtain ⟨⟨ps, hL3, hnd, hrows⟩, hh⟩ := hL4
  have hX := handle_cell (rt := 140) (ty := 42) (N := 192) (k := 22) (g := 13) hh rfl rfl (by kernel_rfl) (by kernel_rfl) (by kernel_rfl) (by kernel_rfl) (by kernel_rfl)
  obtain ⟨ea, h1, h2⟩ := sents_of_laid sentT _ [(1, 3), (2, 8), (3, 9), (4, 10), (5, 4), (6, 11), (7, 7), (8, 12), (9, 0), (10, 1), (11, 6), (12, 5), (13, 14), (14, 2), (15, 15), (16, 16), (17, 17), (18, 18), (19, 19), (20, 20)] ps (by kernel_rfl) (by decide) hL3 hnd (fun b off hm u v hc => (hrows b off hm).2 u v hc)
  have hE := env_of_sentsX (P := Tryz.prog) (tp := 161) (tAt := 95) (W := W) (D := [(1, 3), (2, 8), (3, 9), (4, 10), (5, 4), (6, 11), (7, 7), (8, 12), (9, 0), (10, 1), (11, 6), (12, 5), (13, 14), (14, 2), (15, 15), (16, 16), (17, 17), (18, 18), (19, 19), (20, 20)]) (ea := ea) (σ := fun _ => 0) (g0 := 13) (v0 := (.iface 140 (.agg #[.pointer (some ⟨22, 42, none⟩)]))) rfl hX (fun p hp => ⟨(h1 p hp).1, (h1 p hp).2.1, (h1 p hp).2.2.1, (hrows _ _ (h1 p hp).2.2.2).1⟩) h2
  obtain ⟨p, q, hA, -, -⟩ := hW2
  obtain ⟨xs, hxs, hr⟩ := open_args (enc := enc) (E := ⟨V ea ([(1, 3), (2, 8), (3, 9), (4, 10), (5, 4), (6, 11), (7, 7), (8, 12), (9, 0), (10, 1), (11, 6), (12, 5), (13, 14), (14, 2), (15, 15), (16, 16), (17, 17), (18, 18), (19, 19), (20, 20)].map (·.1)) (glX [(1, 3), (2, 8), (3, 9), (4, 10), (5, 4), (6, 11), (7, 7), (8, 12), (9, 0), (10, 1), (11, 6), (12, 5), (13, 14), (14, 2), (15, 15), (16, 16), (17, 17), (18, 18), (19, 19), (20, 20)] 13 (.iface 140 (.agg #[.pointer (some ⟨22, 42, none⟩)]))), W, fun _ => 0, [], fun b => b < W.heap.size⟩) (fun _ h => h) (base := base) [.agg [.int .i64, .int .i64, .int .i64, shXid, .sl 1 16 .str], .sl 10 88 shNote, .bool] Tryz.f4.params.toList args.toList ds p (by kernel_rfl) hA (by exact reach_of (by kernel_rfl) hreach)
    (fun j t v hj hv => hval j t v (by simpa using hj) (by simpa using hv))
  simp only [FitsL] at hxs
  obtain ⟨x0, r0, rfl, hx0, x1, r1, rfl, hx1, x2, r2, rfl, hx2, rfl⟩ := hxs
  obtain ⟨b0, s0, hl0, hb0, hk0⟩ := fits_stage hx0
  obtain ⟨b1, n1, N1, hb1, hl1, hN1, rfl⟩ := fits_rows (g := noteAV) (P := Note.fit) (fun y hy => fits_note hy) hx1
  have hk1 : Wk (.sl 10 b1 n1 (fun j => noteAV (N1 j))) (.sl 10 b1 n1 (fun j => noteAV (N1 j))) := .refl
  simp only [Fits] at hx2
  obtain ⟨fr, rfl⟩ := hx2
  have hk2 : Wk (.bool fr) (.bool fr) := .refl
  have hr2 := RelT.wk (.cons (Wk.v hk0) (.cons (Wk.v hk1) (.cons (Wk.v hk2) (.nil)))) hr
  have hSents : Sents ([(1, 3), (2, 8), (3, 9), (4, 10), (5, 4), (6, 11), (7, 7), (8, 12), (9, 0), (10, 1), (11, 6), (12, 5), (13, 14), (14, 2), (15, 15), (16, 16), (17, 17), (18, 18), (19, 19), (20, 20)].map (·.1)) (glX [(1, 3), (2, 8), (3, 9), (4, 10), (5, 4), (6, 11), (7, 7), (8, 12), (9, 0), (10, 1), (11, 6), (12, 5), (13, 14), (14, 2), (15, 15), (16, 16), (17, 17), (18, 18), (19, 19), (20, 20)] 13 (.iface 140 (.agg #[.pointer (some ⟨22, 42, none⟩)]))) := ⟨rfl, rfl, rfl, rfl, rfl, rfl, rfl, rfl, rfl, rfl, rfl, rfl, rfl, rfl, rfl, rfl, rfl, rfl, rfl, rfl, rfl, fun d h1 h2 => (show ∀ d, d ∈ List.range 21 → 1 ≤ d → d ∈ [(1, 3), (2, 8), (3, 9), (4, 10), (5, 4), (6, 11), (7, 7), (8, 12), (9, 0), (10, 1), (11, 6), (12, 5), (13, 14), (14, 2), (15, 15), (16, 16), (17, 17), (18, 18), (19, 19), (20, 20)].map (·.1) from by decide) d (List.mem_range.2 (by omega)) h1⟩
  have hlaw := c4 (ea := ea) (cds := ([(1, 3), (2, 8), (3, 9), (4, 10), (5, 4), (6, 11), (7, 7), (8, 12), (9, 0), (10, 1), (11, 6), (12, 5), (13, 14), (14, 2), (15, 15), (16, 16), (17, 17), (18, 18), (19, 19), (20, 20)].map (·.1))) b0 s0 b1 n1 N1 fr hb0 hl0 (by omega) hSents
  refine (law_calls hlaw hE hr2).mono fun e W' ⟨he, hb⟩ => ?_
  subst he
  have hlen : ds.length = 3 := (trod_len _ _ _ _ hA).trans (by kernel_rfl)
  match ds, hlen with
  | [d0, d1, d2], _ => exact ⟨_, rfl, law_post (tb := 4) laidOut hW rfl rfl rfl (by kernel_rfl) (by kernel_rfl) hb⟩
theorem said : Rows.ChunkStagesSaid :=
  OpenClaim.holds_of_wide 4 Tryz.f4 rfl rfl rfl rfl rfl rfl rfl ⟨rfl, rfl, rfl, rfl, rfl⟩ rfl rfl rfl rfl rfl (by kernel_rfl) Tryz.func4 (by kernel_rfl)
    (of_decide_eq_true (by kernel_rfl)) (by unfold Func.isWrapper; first | (rw [if_pos (by decide +kernel)]; kernel_rfl) | (rw [if_neg (by decide +kernel)]; exact ⟨rfl, rfl⟩))
    (fun os started H enc _ => lifted os started H enc)
theorem chunkStages_holds : Rows.ChunkStagesCardSaid :=
  Claim7.holds_tied_plain_at .later [] [.handle, .sentinel, .sentinel, .sentinel, .sentinel, .sentinel, .sentinel, .sentinel, .sentinel, .sentinel, .sentinel, .sentinel, .sentinel, .sentinel, .sentinel, .sentinel, .sentinel, .sentinel, .sentinel, .sentinel, .sentinel] true (true, "1897226f9da1ace78cf53a9337a019878f86e1833f862b252016faf773deea59") true said (fun _ h => by cases h) (by kernel_rfl) (fun _ h => by cases h) chunkStages_row_tie rfl ⟨rfl, rfl⟩ (by kernel_rfl) rfl
    (fun f fn hf hfn => by
      obtain rfl : f = 4 := Option.some.inj ((show Tryz.prog.funcNamed "ferry/ferrylaw20.ChunkStages" = some 4 by kernel_rfl).symm.trans hf) |>.symm
      obtain rfl : fn = Tryz.f4 := (Option.some.inj (Tryz.func4.symm.trans hfn)).symm
      exact ⟨by kernel_rfl, fun j t ht => by
        rw [Tryz.params4] at ht
        have hm : t ∈ [26, 54, 4] := by simpa using Array.mem_of_getElem? ht
        have hall : ([26, 54, 4].all fun u => !Tryz.prog.wantsStandIn u) = true := by kernel_rfl
        exact (show Tryz.prog.wantsStandIn t = false by simpa using List.all_eq_true.1 hall t hm)⟩)
    (by kernel_rfl)
#print axioms chunkStages_holds
end Go.Proofs.YtgaihhimkodmmaaGreatDoor

