/-
  Proved: ferrylaw20.ChunkBack returns true for every input, and each argument reads afterwards as it read before (the tied card). Conditions: what the row itself says (its listed sentinels and the library's listed table, tied to the program's text).
-/
import Derived.Test.YtgaihhimkodmmaaDoorM7
import Derived.Test.YtgaihhimkodmmaaDoorCards
import Derived.Test.YtgaihhimkodmmaaDoorTie
import Derived.SevenTiedAt
import Derived.Handy
import Derived.Lay
namespace Go.Proofs.YtgaihhimkodmmaaDoor
open Go.Fy Go.RowKit Go.ChangeShapes Go.WideShapes Go.ChangeAt
set_option linter.unusedSimpArgs false
set_option linter.unusedVariables false
theorem own : ownKnob Tryd.prog.godebug = none := by kernel_rfl
theorem laidOut : laidOutB Tryd.prog = true := by kernel_rfl
theorem star : "*" ++ "errors.errorString" = "*errors.errorString" := by decide
theorem rowErr (u : TypeId) (h : Tryd.prog.typeName? 3 u = some "*errors.errorString") : u = 244 :=
  typeName_ptr_named (nm := "errors.errorString") (by rw [star]; kernel_rfl) (by kernel_rfl) (by decide) u (by rw [star]; exact h)
theorem sentT : SentT Tryd.prog 29 244 := SentT.of (te := 263) (ts := 9) ⟨Tryd.prog.methodsAt 29, by kernel_rfl⟩ rowErr (by kernel_rfl) (by kernel_rfl) (by kernel_rfl) (by kernel_rfl) (by kernel_rfl)
set_option maxRecDepth 100000 in
theorem lifted (os : Os) (started : os.Started) (H : Type) (enc : TypeId × Value → H) :
    ReturnsInHanded {} Tryd.checked os 3 .any (fun w args => (Rows.chunkBackSpec.pre enc Tryd.prog Tryd.f3 [] false w args ∧ laidMetH Tryd.prog Rows.chunkBackRow.laid w) ∧ sizedMet enc Tryd.prog Tryd.f3 (OpenSpec.ofChange Rows.chunkBackSpec) false w args)
      (Rows.chunkBackSpec.post enc Tryd.prog Tryd.f3 false true false false) := by
  refine returnsInHanded_of_change_and (C := Tryd.checked) (X := fun w _ => laidMetH Tryd.prog Rows.chunkBackRow.laid w) (fun _ _ _ hh h => h.of_heap hh) own started (by kernel_rfl) Tryd.func3
    (ChangeSpec.witness_shaped (enc := enc) (C := Tryd.checked) (os := os) (X := fun w _ => laidMetH Tryd.prog Rows.chunkBackRow.laid w) false (World.laidAll Tryd.prog os Rows.chunkBackRow.laid) #[.agg #[.int .i64 0, .int .i64 0, .int .i64 0, .int .i64 0, .int .i64 0, .int .i64 0, .int .i64 0, .int .i64 0, .int .u32 0, .string ⟨#[]⟩], .string ⟨#[]⟩, .int .i64 0] 8 (World.laidAll_os _ _ _)
      (World.shaped_of_ZipB (by kernel_rfl) (by kernel_rfl)) (by kernel_rfl) (by kernel_rfl) (by kernel_rfl)
      (by rw [MakeChecks.laidMetH_plain _ _ _ (by kernel_rfl)]; exact laidMet_laidAll _ (by kernel_rfl) (by kernel_rfl))) ?_
  intro W base args ds gs before hval hW _ hreach hL _
  have hgs : gs = [] := by
    obtain ⟨p, q, -, hV, -⟩ := hW
    exact (trodVars_none hV).1
  subst hgs
  have hW2 : DataW.Whole enc Tryd.prog Tryd.f3.params.toList [] false W args.toList ds [] before := hW
  have hL2 : laidMetH Tryd.prog Rows.chunkBackRow.laid W := hL
  rw [MakeChecks.laidMetH_plain _ _ _ (by kernel_rfl)] at hL2
  obtain ⟨ps, hL3, hnd, hrows⟩ := hL2
  obtain ⟨pT, qT, hLq, hps, hcell⟩ := tab_of_laid (P := Tryd.prog) (nm := "math/bits.deBruijn32tab") (ns := Sp.dbTab) (L := [("ferry/api.ErrShort", Rows.laid_ferry_api_ErrShort), ("ferry/api.ErrRange", Rows.laid_ferry_api_ErrRange), ("ferry/api.ErrLength", Rows.laid_ferry_api_ErrLength), ("ferry/api.ErrSum", Rows.laid_ferry_api_ErrSum), ("ferry/api.ErrKind", Rows.laid_ferry_api_ErrKind), ("ferry/api.ErrSize", Rows.laid_ferry_api_ErrSize), ("ferry/api.ErrArg", Rows.laid_ferry_api_ErrArg)]) (g := 10) (t := 181) (e := 5) (n := 32) (by kernel_rfl) (by kernel_rfl) (by kernel_rfl) (by kernel_rfl) (by kernel_rfl) rfl hL3
  subst hps
  have hnd0 := hnd
  replace hnd := (List.nodup_append.1 hnd0).2.1
  replace hrows := fun b off (hb : MemPlace.cell b off ∈ qT) => hrows b off (List.mem_append_right _ hb)
  replace hL3 := hLq
  obtain ⟨ea, h1, h2⟩ := sents_of_laid sentT _ [(1, 0), (4, 8), (5, 1), (6, 9), (7, 4), (11, 6), (12, 2)] qT (by kernel_rfl) (by decide) hL3 hnd (fun b off hm u v hc => (hrows b off hm).2 u v hc)
  have hE := env_of_sentsT (P := Tryd.prog) (tp := 244) (tAt := 197) (W := W) (D := [(1, 0), (4, 8), (5, 1), (6, 9), (7, 4), (11, 6), (12, 2)]) (ea := ea) (σ := fun _ => 0) (g0 := 10) (ns := Sp.dbTab) (f := dbAt) rfl (by decide) (fun j hj => rfl) hcell (fun p hp => ⟨(h1 p hp).1, (h1 p hp).2.1, (h1 p hp).2.2.1, (hrows _ _ (h1 p hp).2.2.2).1⟩) h2
  obtain ⟨p, q, hA, -, -⟩ := hW2
  obtain ⟨xs, hxs, hr⟩ := open_args (enc := enc) (E := ⟨V ea ([(1, 0), (4, 8), (5, 1), (6, 9), (7, 4), (11, 6), (12, 2)].map (·.1)) (glT [(1, 0), (4, 8), (5, 1), (6, 9), (7, 4), (11, 6), (12, 2)] 10 (.arr 1 32 dbAt)), W, fun _ => 0, [], fun b => b < W.heap.size⟩) (fun _ h => h) (base := base) [shNote, .str, .int .i64] Tryd.f3.params.toList args.toList ds p (by kernel_rfl) hA (by exact reach_of (by kernel_rfl) hreach)
    (fun j t v hj hv => hval j t v (by simpa using hj) (by simpa using hv))
  simp only [FitsL] at hxs
  obtain ⟨x0, r0, rfl, hx0, x1, r1, rfl, hx1, x2, r2, rfl, hx2, rfl⟩ := hxs
  obtain ⟨n0, hn0, rfl⟩ := fits_note hx0
  have hk0 : Wk (noteAV n0) (noteAV n0) := .refl
  simp only [Fits] at hx1
  obtain ⟨s1, rfl, hl1⟩ := hx1
  have hk1 : Wk (.str s1) (.str s1) := .refl
  obtain ⟨a2, ha2, hk2⟩ := fits_i64 hx2
  have hr2 := RelT.wk (.cons (Wk.v hk0) (.cons (Wk.v hk1) (.cons (Wk.v hk2) (.nil)))) hr
  have hlaw := c3 (ea := ea) (cds := ([(1, 0), (4, 8), (5, 1), (6, 9), (7, 4), (11, 6), (12, 2)].map (·.1))) n0 s1 a2 hn0.2.2.2.2.2.1 hl1 (show (glT [(1, 0), (4, 8), (5, 1), (6, 9), (7, 4), (11, 6), (12, 2)] 10 (.arr 1 32 dbAt)) 0 = some (.err (.code 1)) from rfl) (show (glT [(1, 0), (4, 8), (5, 1), (6, 9), (7, 4), (11, 6), (12, 2)] 10 (.arr 1 32 dbAt)) 8 = some (.err (.code 4)) from rfl) (show (glT [(1, 0), (4, 8), (5, 1), (6, 9), (7, 4), (11, 6), (12, 2)] 10 (.arr 1 32 dbAt)) 1 = some (.err (.code 5)) from rfl) (show (glT [(1, 0), (4, 8), (5, 1), (6, 9), (7, 4), (11, 6), (12, 2)] 10 (.arr 1 32 dbAt)) 9 = some (.err (.code 6)) from rfl) (show (glT [(1, 0), (4, 8), (5, 1), (6, 9), (7, 4), (11, 6), (12, 2)] 10 (.arr 1 32 dbAt)) 4 = some (.err (.code 7)) from rfl) (show (glT [(1, 0), (4, 8), (5, 1), (6, 9), (7, 4), (11, 6), (12, 2)] 10 (.arr 1 32 dbAt)) 6 = some (.err (.code 11)) from rfl) (show (glT [(1, 0), (4, 8), (5, 1), (6, 9), (7, 4), (11, 6), (12, 2)] 10 (.arr 1 32 dbAt)) 2 = some (.err (.code 12)) from rfl) (show (glT [(1, 0), (4, 8), (5, 1), (6, 9), (7, 4), (11, 6), (12, 2)] 10 (.arr 1 32 dbAt)) 10 = some (.arr 1 32 dbAt) from rfl)
  refine (law_calls hlaw hE hr2).mono fun e W' ⟨he, hb⟩ => ?_
  subst he
  have hlen : ds.length = 3 := (trod_len _ _ _ _ hA).trans (by kernel_rfl)
  match ds, hlen with
  | [d0, d1, d2], _ => exact ⟨_, rfl, law_post (tb := 4) laidOut hW rfl rfl rfl (by kernel_rfl) (by kernel_rfl) hb⟩
theorem said : Rows.ChunkBackSaid :=
  OpenClaim.holds_of_wide 3 Tryd.f3 rfl rfl rfl rfl rfl rfl rfl ⟨rfl, rfl, rfl, rfl, rfl⟩ rfl rfl rfl rfl rfl (by kernel_rfl) Tryd.func3 (by kernel_rfl)
    (of_decide_eq_true (by kernel_rfl)) (by unfold Func.isWrapper; first | (rw [if_pos (by decide +kernel)]; kernel_rfl) | (rw [if_neg (by decide +kernel)]; exact ⟨rfl, rfl⟩))
    (fun os started H enc _ => lifted os started H enc)
theorem chunkBack_holds : Rows.ChunkBackCardSaid :=
  Claim7.holds_tied_plain_at .later [] [.data, .sentinel, .sentinel, .sentinel, .sentinel, .sentinel, .sentinel, .sentinel] true (true, "0aba2892dadaef05bb924c7ab3bcbb8043e7457084ad53263f8e1ae098efecbd") true said (fun _ h => by cases h) (by kernel_rfl) (fun _ h => by cases h) chunkBack_row_tie rfl ⟨rfl, rfl⟩ (by kernel_rfl) rfl
    (fun f fn hf hfn => by
      obtain rfl : f = 3 := Option.some.inj ((show Tryd.prog.funcNamed "ferry/ferrylaw20.ChunkBack" = some 3 by kernel_rfl).symm.trans hf) |>.symm
      obtain rfl : fn = Tryd.f3 := (Option.some.inj (Tryd.func3.symm.trans hfn)).symm
      exact ⟨by kernel_rfl, fun j t ht => by
        rw [Tryd.params3] at ht
        have hm : t ∈ [26, 9, 3] := by simpa using Array.mem_of_getElem? ht
        have hall : ([26, 9, 3].all fun u => !Tryd.prog.wantsStandIn u) = true := by kernel_rfl
        exact (show Tryd.prog.wantsStandIn t = false by simpa using List.all_eq_true.1 hall t hm)⟩)
    (by kernel_rfl)
#print axioms chunkBack_holds
end Go.Proofs.YtgaihhimkodmmaaDoor

