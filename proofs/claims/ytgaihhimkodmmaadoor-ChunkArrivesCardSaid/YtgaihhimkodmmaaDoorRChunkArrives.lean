/-
  Proved: ferrylaw20.ChunkArrives returns true for every input, and each argument reads afterwards as it read before (the tied card). Conditions: what the row itself says (its listed sentinels, tied to the program's text).
-/
import Derived.Test.YtgaihhimkodmmaaDoorM8
import Derived.Test.YtgaihhimkodmmaaDoorCards
import Derived.Test.YtgaihhimkodmmaaDoorTie
import Derived.SevenTiedAt
import Derived.Handy
import Derived.Lay
namespace Go.Proofs.YtgaihhimkodmmaaDoor
open Go.Fy Go.RowKit Go.ChangeShapes Go.WideShapes Go.ChangeAt
set_option linter.unusedSimpArgs false
set_option linter.unusedVariables false
theorem fits_piece {y : AV} (h : Fits (.agg [.int .i64, .int .i64, shXid, .str]) y) : ∃ (p st : Int) (x : Xid) (im : List UInt8), (-9223372036854775808 ≤ p ∧ p ≤ 9223372036854775807) ∧ (-9223372036854775808 ≤ st ∧ st ≤ 9223372036854775807) ∧ im.length ≤ 140737488351232 ∧ y = pieceAV p st x im := by
  rw [Fits] at h
  obtain ⟨xs, rfl, h⟩ := h
  simp only [FitsL] at h
  obtain ⟨x0, _, rfl, h0, x1, _, rfl, h1, x2, _, rfl, h2, x3, _, rfl, h3, rfl⟩ := h
  obtain ⟨a0, rfl, w0⟩ := fits_int h0
  obtain ⟨a1, rfl, w1⟩ := fits_int h1
  obtain ⟨a2, rfl⟩ := fits_xid h2
  rw [Fits] at h3
  obtain ⟨a3, rfl, w3⟩ := h3
  exact ⟨a0, a1, a2, a3, i64_of w0, i64_of w1, w3, rfl⟩
theorem own : ownKnob Tryd.prog.godebug = none := by kernel_rfl
theorem laidOut : laidOutB Tryd.prog = true := by kernel_rfl
theorem star : "*" ++ "errors.errorString" = "*errors.errorString" := by decide
theorem rowErr (u : TypeId) (h : Tryd.prog.typeName? 3 u = some "*errors.errorString") : u = 244 :=
  typeName_ptr_named (nm := "errors.errorString") (by rw [star]; kernel_rfl) (by kernel_rfl) (by decide) u (by rw [star]; exact h)
theorem sentT : SentT Tryd.prog 29 244 := SentT.of (te := 263) (ts := 9) ⟨Tryd.prog.methodsAt 29, by kernel_rfl⟩ rowErr (by kernel_rfl) (by kernel_rfl) (by kernel_rfl) (by kernel_rfl) (by kernel_rfl)
set_option maxRecDepth 100000 in
theorem lifted (os : Os) (started : os.Started) (H : Type) (enc : TypeId × Value → H) :
    ReturnsInHanded {} Tryd.checked os 7 .any (fun w args => (Rows.chunkArrivesSpec.pre enc Tryd.prog Tryd.f7 [] false w args ∧ laidMetH Tryd.prog Rows.chunkArrivesRow.laid w) ∧ sizedMet enc Tryd.prog Tryd.f7 (OpenSpec.ofChange Rows.chunkArrivesSpec) false w args)
      (Rows.chunkArrivesSpec.post enc Tryd.prog Tryd.f7 false true false false) := by
  refine returnsInHanded_of_change_and (C := Tryd.checked) (X := fun w _ => laidMetH Tryd.prog Rows.chunkArrivesRow.laid w) (fun _ _ _ hh h => h.of_heap hh) own started (by kernel_rfl) Tryd.func7
    (ChangeSpec.witness_shaped (enc := enc) (C := Tryd.checked) (os := os) (X := fun w _ => laidMetH Tryd.prog Rows.chunkArrivesRow.laid w) false (World.laidAll Tryd.prog os Rows.chunkArrivesRow.laid) #[.agg #[.int .i64 0, .int .i64 0, .int .i64 0, .int .i64 0, .int .i64 0, .string ⟨#[]⟩], .slice none 0 0, .agg #[.int .i64 0, .int .i64 0, .int .i64 0, .int .i64 0, .int .i64 0, .int .i64 0, .int .i64 0, .int .i64 0, .int .u32 0, .string ⟨#[]⟩]] 8 (World.laidAll_os _ _ _)
      (World.shaped_of_ZipB (by kernel_rfl) (by kernel_rfl)) (by kernel_rfl) (by kernel_rfl) (by kernel_rfl)
      (by rw [MakeChecks.laidMetH_plain _ _ _ (by kernel_rfl)]; exact laidMet_laidAll _ (by kernel_rfl) (by kernel_rfl))) ?_
  intro W base args ds gs before hval hW _ hreach hL _
  have hgs : gs = [] := by
    obtain ⟨p, q, -, hV, -⟩ := hW
    exact (trodVars_none hV).1
  subst hgs
  have hW2 : DataW.Whole enc Tryd.prog Tryd.f7.params.toList [] false W args.toList ds [] before := hW
  have hL2 : laidMetH Tryd.prog Rows.chunkArrivesRow.laid W := hL
  rw [MakeChecks.laidMetH_plain _ _ _ (by kernel_rfl)] at hL2
  obtain ⟨ps, hL3, hnd, hrows⟩ := hL2
  obtain ⟨ea, h1, h2⟩ := sents_of_laid sentT _ [(1, 0), (4, 8), (5, 1), (6, 9), (7, 4), (9, 3), (10, 5), (11, 6), (12, 2), (14, 7)] ps (by kernel_rfl) (by decide) hL3 hnd (fun b off hm u v hc => (hrows b off hm).2 u v hc)
  have hE := env_of_sents (P := Tryd.prog) (tp := 244) (tAt := 197) (W := W) (D := [(1, 0), (4, 8), (5, 1), (6, 9), (7, 4), (9, 3), (10, 5), (11, 6), (12, 2), (14, 7)]) (ea := ea) (σ := fun _ => 0) (fun p hp => ⟨(h1 p hp).1, (h1 p hp).2.1, (h1 p hp).2.2.1, (hrows _ _ (h1 p hp).2.2.2).1⟩) h2
  obtain ⟨p, q, hA, -, -⟩ := hW2
  obtain ⟨xs, hxs, hr⟩ := open_args (enc := enc) (E := ⟨V ea ([(1, 0), (4, 8), (5, 1), (6, 9), (7, 4), (9, 3), (10, 5), (11, 6), (12, 2), (14, 7)].map (·.1)) (glOf [(1, 0), (4, 8), (5, 1), (6, 9), (7, 4), (9, 3), (10, 5), (11, 6), (12, 2), (14, 7)]), W, fun _ => 0, [], fun b => b < W.heap.size⟩) (fun _ h => h) (base := base) [.agg [.int .i64, .int .i64, shXid, .str], .sl 1 8 (.int .i64), shNote] Tryd.f7.params.toList args.toList ds p (by kernel_rfl) hA (by exact reach_of (by kernel_rfl) hreach)
    (fun j t v hj hv => hval j t v (by simpa using hj) (by simpa using hv))
  simp only [FitsL] at hxs
  obtain ⟨x0, r0, rfl, hx0, x1, r1, rfl, hx1, x2, r2, rfl, hx2, rfl⟩ := hxs
  obtain ⟨p0, st0, xx0, im0, hp0, hst0, hl0, rfl⟩ := fits_piece hx0
  have hk0 : Wk (pieceAV p0 st0 xx0 im0) (pieceAV p0 st0 xx0 im0) := .refl
  obtain ⟨b1, ord, hb1, hl1, hv1, hk1⟩ := fits_ints hx1
  obtain ⟨n2, hn2, rfl⟩ := fits_note hx2
  have hk2 : Wk (noteAV n2) (noteAV n2) := .refl
  have hr2 := RelT.wk (.cons (Wk.v hk0) (.cons (Wk.v hk1) (.cons (Wk.v hk2) (.nil)))) hr
  have hlaw := c7 (ea := ea) (cds := ([(1, 0), (4, 8), (5, 1), (6, 9), (7, 4), (9, 3), (10, 5), (11, 6), (12, 2), (14, 7)].map (·.1))) p0 st0 xx0 im0 b1 ord n2 hl0 (by omega) (show (glOf [(1, 0), (4, 8), (5, 1), (6, 9), (7, 4), (9, 3), (10, 5), (11, 6), (12, 2), (14, 7)]) 0 = some (.err (.code 1)) from rfl) (show (glOf [(1, 0), (4, 8), (5, 1), (6, 9), (7, 4), (9, 3), (10, 5), (11, 6), (12, 2), (14, 7)]) 1 = some (.err (.code 5)) from rfl) (show (glOf [(1, 0), (4, 8), (5, 1), (6, 9), (7, 4), (9, 3), (10, 5), (11, 6), (12, 2), (14, 7)]) 9 = some (.err (.code 6)) from rfl) (show (glOf [(1, 0), (4, 8), (5, 1), (6, 9), (7, 4), (9, 3), (10, 5), (11, 6), (12, 2), (14, 7)]) 4 = some (.err (.code 7)) from rfl) (show (glOf [(1, 0), (4, 8), (5, 1), (6, 9), (7, 4), (9, 3), (10, 5), (11, 6), (12, 2), (14, 7)]) 8 = some (.err (.code 4)) from rfl) (show (glOf [(1, 0), (4, 8), (5, 1), (6, 9), (7, 4), (9, 3), (10, 5), (11, 6), (12, 2), (14, 7)]) 2 = some (.err (.code 12)) from rfl) (show (glOf [(1, 0), (4, 8), (5, 1), (6, 9), (7, 4), (9, 3), (10, 5), (11, 6), (12, 2), (14, 7)]) 6 = some (.err (.code 11)) from rfl) (show (glOf [(1, 0), (4, 8), (5, 1), (6, 9), (7, 4), (9, 3), (10, 5), (11, 6), (12, 2), (14, 7)]) 3 = some (.err (.code 9)) from rfl) (show (glOf [(1, 0), (4, 8), (5, 1), (6, 9), (7, 4), (9, 3), (10, 5), (11, 6), (12, 2), (14, 7)]) 5 = some (.err (.code 10)) from rfl) (show (glOf [(1, 0), (4, 8), (5, 1), (6, 9), (7, 4), (9, 3), (10, 5), (11, 6), (12, 2), (14, 7)]) 7 = some (.err (.code 14)) from rfl)
  refine (law_calls hlaw hE hr2).mono fun e W' ⟨he, hb⟩ => ?_
  subst he
  have hlen : ds.length = 3 := (trod_len _ _ _ _ hA).trans (by kernel_rfl)
  match ds, hlen with
  | [d0, d1, d2], _ => exact ⟨_, rfl, law_post (tb := 4) laidOut hW rfl rfl rfl (by kernel_rfl) (by kernel_rfl) hb⟩
theorem said : Rows.ChunkArrivesSaid :=
  OpenClaim.holds_of_wide 7 Tryd.f7 rfl rfl rfl rfl rfl rfl rfl ⟨rfl, rfl, rfl, rfl, rfl⟩ rfl rfl rfl rfl rfl (by kernel_rfl) Tryd.func7 (by kernel_rfl)
    (of_decide_eq_true (by kernel_rfl)) (by unfold Func.isWrapper; first | (rw [if_pos (by decide +kernel)]; kernel_rfl) | (rw [if_neg (by decide +kernel)]; exact ⟨rfl, rfl⟩))
    (fun os started H enc _ => lifted os started H enc)
theorem chunkArrives_holds : Rows.ChunkArrivesCardSaid :=
  Claim7.holds_tied_plain_at .later [] [.sentinel, .sentinel, .sentinel, .sentinel, .sentinel, .sentinel, .sentinel, .sentinel, .sentinel, .sentinel] true (true, "0aba2892dadaef05bb924c7ab3bcbb8043e7457084ad53263f8e1ae098efecbd") true said (fun _ h => by cases h) (by kernel_rfl) (fun _ h => by cases h) chunkArrives_row_tie rfl ⟨rfl, rfl⟩ (by kernel_rfl) rfl
    (fun f fn hf hfn => by
      obtain rfl : f = 7 := Option.some.inj ((show Tryd.prog.funcNamed "ferry/ferrylaw20.ChunkArrives" = some 7 by kernel_rfl).symm.trans hf) |>.symm
      obtain rfl : fn = Tryd.f7 := (Option.some.inj (Tryd.func7.symm.trans hfn)).symm
      exact ⟨by kernel_rfl, fun j t ht => by
        rw [Tryd.params7] at ht
        have hm : t ∈ [97, 42, 26] := by simpa using Array.mem_of_getElem? ht
        have hall : ([97, 42, 26].all fun u => !Tryd.prog.wantsStandIn u) = true := by kernel_rfl
        exact (show Tryd.prog.wantsStandIn t = false by simpa using List.all_eq_true.1 hall t hm)⟩)
    (by kernel_rfl)
#print axioms chunkArrives_holds
end Go.Proofs.YtgaihhimkodmmaaDoor

