/-
  Proved: ferrylaw22.XferArrives returns true for every input, and each argument reads afterwards as it read before (the tied card). Conditions: what the row itself says (its listed sentinels, tied to the program's text).
-/
import Derived.Test.YtgaihhimkodmmaaDoorKIx
import Derived.Test.YtgaihhimkodmmaaDoorS4
import Derived.Test.YtgaihhimkodmmaaDoorCards
import Derived.Test.YtgaihhimkodmmaaDoorTie
import Derived.SevenTiedAt
import Derived.Handy
import Derived.Lay
namespace Go.Proofs.YtgaihhimkodmmaaDoor
open Go.Fy Go.RowKit Go.ChangeShapes Go.WideShapes Go.ChangeAt
set_option linter.unusedSimpArgs false
set_option linter.unusedVariables false
theorem fits_loss {y : AV} (h : Fits (.agg [.sl 1 8 (.int .i64), .sl 1 8 (.int .i64)]) y) : ∃ l : Nums × Nums, (l.1.n * 8 ≤ 140737488351232 ∧ l.2.n * 8 ≤ 140737488351232) ∧ y = lossAV l := by
  simp only [Fits, FitsL] at h
  obtain ⟨_, rfl, x, _, rfl, hx, z, _, rfl, hz, rfl⟩ := h
  obtain ⟨b, n, f, -, h1, -, rfl⟩ := fits_nums (by simpa only [Fits] using hx)
  obtain ⟨c, m, g, -, h2, -, rfl⟩ := fits_nums (by simpa only [Fits] using hz)
  exact ⟨(⟨b, n, f⟩, ⟨c, m, g⟩), ⟨h1, h2⟩, rfl⟩
theorem own : ownKnob Tryd.prog.godebug = none := by kernel_rfl
theorem laidOut : laidOutB Tryd.prog = true := by kernel_rfl
theorem star : "*" ++ "errors.errorString" = "*errors.errorString" := by decide
theorem rowErr (u : TypeId) (h : Tryd.prog.typeName? 3 u = some "*errors.errorString") : u = 244 :=
  typeName_ptr_named (nm := "errors.errorString") (by rw [star]; kernel_rfl) (by kernel_rfl) (by decide) u (by rw [star]; exact h)
theorem sentT : SentT Tryd.prog 29 244 := SentT.of (te := 263) (ts := 9) ⟨Tryd.prog.methodsAt 29, by kernel_rfl⟩ rowErr (by kernel_rfl) (by kernel_rfl) (by kernel_rfl) (by kernel_rfl) (by kernel_rfl)
set_option maxRecDepth 100000 in
theorem lifted (os : Os) (started : os.Started) (H : Type) (enc : TypeId × Value → H) :
    ReturnsInHanded {} Tryd.checked os 5 .any (fun w args => (Rows.xferArrivesSpec.pre enc Tryd.prog Tryd.f5 [] false w args ∧ laidMetH Tryd.prog Rows.xferArrivesRow.laid w) ∧ sizedMet enc Tryd.prog Tryd.f5 (OpenSpec.ofChange Rows.xferArrivesSpec) false w args)
      (Rows.xferArrivesSpec.post enc Tryd.prog Tryd.f5 false true false false) := by
  refine returnsInHanded_of_change_and (C := Tryd.checked) (X := fun w _ => laidMetH Tryd.prog Rows.xferArrivesRow.laid w) (fun _ _ _ hh h => h.of_heap hh) own started (by kernel_rfl) Tryd.func5
    (ChangeSpec.witness_shaped (enc := enc) (C := Tryd.checked) (os := os) (X := fun w _ => laidMetH Tryd.prog Rows.xferArrivesRow.laid w) false (World.laidAll Tryd.prog os Rows.xferArrivesRow.laid) #[.slice none 0 0, .int .i64 0, .slice none 0 0] 8 (World.laidAll_os _ _ _)
      (World.shaped_of_ZipB (by kernel_rfl) (by kernel_rfl)) (by kernel_rfl) (by kernel_rfl) (by kernel_rfl)
      (by rw [MakeChecks.laidMetH_plain _ _ _ (by kernel_rfl)]; exact laidMet_laidAll _ (by kernel_rfl) (by kernel_rfl))) ?_
  intro W base args ds gs before hval hW _ hreach hL _
  have hgs : gs = [] := by
    obtain ⟨p, q, -, hV, -⟩ := hW
    exact (trodVars_none hV).1
  subst hgs
  have hW2 : DataW.Whole enc Tryd.prog Tryd.f5.params.toList [] false W args.toList ds [] before := hW
  have hL2 : laidMetH Tryd.prog Rows.xferArrivesRow.laid W := hL
  rw [MakeChecks.laidMetH_plain _ _ _ (by kernel_rfl)] at hL2
  obtain ⟨ps, hL3, hnd, hrows⟩ := hL2
  obtain ⟨ea, h1, h2⟩ := sents_of_laid sentT _ [(4, 8), (7, 4), (9, 3), (10, 5), (11, 6), (12, 2), (14, 7)] ps (by kernel_rfl) (by decide) hL3 hnd (fun b off hm u v hc => (hrows b off hm).2 u v hc)
  have hE := env_of_sents (P := Tryd.prog) (tp := 244) (tAt := 197) (W := W) (D := [(4, 8), (7, 4), (9, 3), (10, 5), (11, 6), (12, 2), (14, 7)]) (ea := ea) (σ := fun _ => 0) (fun p hp => ⟨(h1 p hp).1, (h1 p hp).2.1, (h1 p hp).2.2.1⟩) h2
  obtain ⟨p, q, hA, -, -⟩ := hW2
  obtain ⟨xs, hxs, hr⟩ := open_args (enc := enc) (E := ⟨V ea ([(4, 8), (7, 4), (9, 3), (10, 5), (11, 6), (12, 2), (14, 7)].map (·.1)) (glOf [(4, 8), (7, 4), (9, 3), (10, 5), (11, 6), (12, 2), (14, 7)]), W, fun _ => 0, [], fun b => b < W.heap.size⟩) (fun _ h => h) (base := base) [.sl 1 1 (.int .u8), .int .i64, .sl 2 48 (.agg [.sl 1 8 (.int .i64), .sl 1 8 (.int .i64)])] Tryd.f5.params.toList args.toList ds p (by kernel_rfl) hA (by exact reach_of (by kernel_rfl) hreach)
    (fun j t v hj hv => hval j t v (by simpa using hj) (by simpa using hv))
  simp only [FitsL] at hxs
  obtain ⟨x0, r0, rfl, hx0, x1, r1, rfl, hx1, x2, r2, rfl, hx2, rfl⟩ := hxs
  obtain ⟨b0, im, hb0, hl0, hk0⟩ := fits_bytes hx0
  obtain ⟨tr, htr, hk1⟩ := fits_i64 hx1
  obtain ⟨b2, n2, L, hb2, hl2, hL, rfl⟩ := fits_rows (g := lossAV) (P := fun l => l.1.n * 8 ≤ 140737488351232 ∧ l.2.n * 8 ≤ 140737488351232) (fun y hy => fits_loss hy) hx2
  have hk2 : Wk (.sl 2 b2 n2 (fun j => lossAV (L j))) (.sl 2 b2 n2 (fun j => lossAV (L j))) := .refl
  have hr2 := RelT.wk (.cons (Wk.v hk0) (.cons (Wk.v hk1) (.cons (Wk.v hk2) (.nil)))) hr
  have hlaw := c5 (ea := ea) (cds := ([(4, 8), (7, 4), (9, 3), (10, 5), (11, 6), (12, 2), (14, 7)].map (·.1))) b0 b2 im tr n2 L (by omega) htr.2 (by omega) (fun j => by have := hL j; omega) (show glOf [(4, 8), (7, 4), (9, 3), (10, 5), (11, 6), (12, 2), (14, 7)] 3 = some (.err (.code 9)) from rfl) (show glOf [(4, 8), (7, 4), (9, 3), (10, 5), (11, 6), (12, 2), (14, 7)] 4 = some (.err (.code 7)) from rfl) (show glOf [(4, 8), (7, 4), (9, 3), (10, 5), (11, 6), (12, 2), (14, 7)] 5 = some (.err (.code 10)) from rfl) (show glOf [(4, 8), (7, 4), (9, 3), (10, 5), (11, 6), (12, 2), (14, 7)] 2 = some (.err (.code 12)) from rfl) (show glOf [(4, 8), (7, 4), (9, 3), (10, 5), (11, 6), (12, 2), (14, 7)] 7 = some (.err (.code 14)) from rfl) (show glOf [(4, 8), (7, 4), (9, 3), (10, 5), (11, 6), (12, 2), (14, 7)] 8 = some (.err (.code 4)) from rfl) (show glOf [(4, 8), (7, 4), (9, 3), (10, 5), (11, 6), (12, 2), (14, 7)] 6 = some (.err (.code 11)) from rfl)
  refine (law_calls hlaw hE hr2).mono fun e W' ⟨he, hb⟩ => ?_
  subst he
  have hlen : ds.length = 3 := (trod_len _ _ _ _ hA).trans (by kernel_rfl)
  match ds, hlen with
  | [d0, d1, d2], _ => exact ⟨_, rfl, law_post (tb := 4) laidOut hW rfl rfl rfl (by kernel_rfl) (by kernel_rfl) hb⟩
theorem said : Rows.XferArrivesSaid :=
  OpenClaim.holds_of_wide 5 Tryd.f5 rfl rfl rfl rfl rfl rfl rfl ⟨rfl, rfl, rfl, rfl, rfl⟩ rfl rfl rfl rfl rfl (by kernel_rfl) Tryd.func5 (by kernel_rfl)
    (of_decide_eq_true (by kernel_rfl)) (by unfold Func.isWrapper; first | (rw [if_pos (by decide +kernel)]; kernel_rfl) | (rw [if_neg (by decide +kernel)]; exact ⟨rfl, rfl⟩))
    (fun os started H enc _ => lifted os started H enc)
theorem xferArrives_holds : Rows.XferArrivesCardSaid :=
  Claim7.holds_tied_plain_at .later [] [.sentinel, .sentinel, .sentinel, .sentinel, .sentinel, .sentinel, .sentinel] true (true, "0aba2892dadaef05bb924c7ab3bcbb8043e7457084ad53263f8e1ae098efecbd") true said (fun _ h => by cases h) (by kernel_rfl) (fun _ h => by cases h) xferArrives_row_tie rfl ⟨rfl, rfl⟩ (by kernel_rfl) rfl
    (fun f fn hf hfn => by
      obtain rfl : f = 5 := Option.some.inj ((show Tryd.prog.funcNamed "ferry/ferrylaw22.XferArrives" = some 5 by kernel_rfl).symm.trans hf) |>.symm
      obtain rfl : fn = Tryd.f5 := (Option.some.inj (Tryd.func5.symm.trans hfn)).symm
      exact ⟨by kernel_rfl, fun j t ht => by
        rw [Tryd.params5] at ht
        have hm : t ∈ [36, 3, 61] := by simpa using Array.mem_of_getElem? ht
        have hall : ([36, 3, 61].all fun u => !Tryd.prog.wantsStandIn u) = true := by kernel_rfl
        exact (show Tryd.prog.wantsStandIn t = false by simpa using List.all_eq_true.1 hall t hm)⟩)
    (by kernel_rfl)
#print axioms xferArrives_holds
end Go.Proofs.YtgaihhimkodmmaaDoor

