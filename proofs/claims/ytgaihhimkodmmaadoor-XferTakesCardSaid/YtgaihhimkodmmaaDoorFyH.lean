/- The engine, 8: what comes back, what a call does (my own text; any program). -/
import Derived.Test.YtgaihhimkodmmaaDoorFyG
set_option linter.unusedSimpArgs false
namespace Go.Fy
open Go.RowKit

/-! ### Results -/
inductive ResL (C : Ctx) (S : St) : List ResultVar → List AV → Prop
  | nil : ResL C S [] []
  | tmp {t : Tmp} {l : List ResultVar} {xs : List AV} (h : ResL C S l xs) : ResL C S (.tmp t :: l) (getF S.F t :: xs)
  | cell {t : Tmp} {ty : TypeId} {l : List ResultVar} {xs : List AV} {i : Nat} {p : List Nat} {off : Nat} {tr x : AV} (h1 : getF S.F t = .ptr i p off) (h2 : getH S.H i = some tr) (h3 : getP p tr = some x)
      (h4 : inP p tr) (h5 : offP p tr = off) (h6 : tyOf C.V.P ty = some (x.isAgg, x.sz)) (h : ResL C S l xs) : ResL C S (.cell t ty :: l) (x :: xs)

def resF (tmps : Array Value) : ResultVar → Sem Value
  | .tmp t => pure (tmps.getD t undef)
  | .cell b t => do loadVar t (← asAddr (tmps.getD b undef))

theorem resL_run {C : Ctx} {S : St} {l : List ResultVar} {xs : List AV} (h : ResL C S l xs) : ∀ a w σ, ConcS C S a w σ → ∃ vs : List Value,
    (l.mapM (resF a.tmps)).run C.V.P w = .ok vs w ∧ RelT (C.RE S w σ) xs vs ∧ vs.length = xs.length := by
  induction h with
  | nil => intro a w σ _; exact ⟨[], by simp, by simp [RelT], rfl⟩
  | @tmp t l xs _ ih =>
    intro a w σ hc
    obtain ⟨vs, h1, h2, h3⟩ := ih a w σ hc
    refine ⟨a.tmps.getD t undef :: vs, ?_, by simp only [RelT]; exact ⟨_, _, rfl, hc.slot t, h2⟩, by simp [h3]⟩
    have e : (resF a.tmps (.tmp t)).run C.V.P w = .ok (a.tmps.getD t undef) w := rfl
    simp only [List.mapM_cons, Sem.run_bind, Sem.run_pure, Result.andThen, e, h1]
  | @cell t ty l xs i p off tr x e1 e2 e3 e4 e5 e6 _ ih =>
    intro a w σ hc
    obtain ⟨vs, h1, h2, h3⟩ := ih a w σ hc
    obtain ⟨ds, g1, g2, g3⟩ := (hc.blk i tr e2).2.2.2.holds e3 e4
    rw [e5] at g1
    obtain ⟨u, g4, g5⟩ := loadAt_run (E := C.RE S w σ) (a := ⟨σ i, off, none⟩) rfl g1 g2 e6
    have hs := hc.slot t
    rw [e1] at hs
    simp only [RelV, Rel, List.cons.injEq, and_true] at hs
    have hs2 : a.tmps.getD t undef = .pointer (some ⟨σ i, off, none⟩) := hs.2
    refine ⟨u :: vs, ?_, by simp only [RelT]; exact ⟨_, _, rfl, g5, h2⟩, by simp [h3]⟩
    have g4' : (loadVar ty ⟨σ i, off, none⟩).run C.V.P w = .ok u w := by
      simp only [Instr.loadAt, Instr.sureAddr, Sem.run_bind, Sem.run_pure, Result.andThen] at g4
      exact g4
    have e : (resF a.tmps (.cell t ty)).run C.V.P w = .ok u w := by
      simp only [resF, hs2, asAddr, Sem.run_bind, Sem.run_pure, Result.andThen, g4']
    simp only [List.mapM_cons, Sem.run_bind, Sem.run_pure, Result.andThen, h1, e]

theorem res_list {C : Ctx} {S : St} {fn : Func} {xs : List AV} (h : ResL C S fn.results.toList xs) : ∀ a w σ, ConcS C S a w σ → ∃ vs : List Value, (results fn a.tmps).run C.V.P w =
    .ok (if h : vs.toArray.size = 1 then vs.toArray[0] else .tuple vs.toArray) w ∧ RelT (C.RE S w σ) xs vs ∧ vs.length = xs.length := by
  intro a w σ hc
  obtain ⟨vs, h1, h2, h3⟩ := resL_run h a w σ hc
  refine ⟨vs, ?_, h2, h3⟩
  have e : results fn a.tmps = (do let vs ← fn.results.mapM (resF a.tmps); pure (if h : vs.size = 1 then vs[0] else .tuple vs)) := by
    unfold results
    congr 1
  have e2 : (fn.results.mapM (resF a.tmps)).run C.V.P w = .ok vs.toArray w := by
    have : fn.results = fn.results.toList.toArray := by simp
    rw [this, List.mapM_toArray]
    simp only [Sem.run_map, h1, Result.andThen]
  rw [e]
  simp only [Sem.run_bind, e2, Result.andThen, Sem.run_pure]

theorem res_one {C : Ctx} {S : St} {fn : Func} {x : AV} (h : ResL C S fn.results.toList [x]) : Res C S fn x := by
  intro a w σ hc
  obtain ⟨vs, h1, h2, h3⟩ := res_list h a w σ hc
  simp only [RelT] at h2
  obtain ⟨c, d, rfl, h4, rfl⟩ := h2
  exact ⟨c, by simpa using h1, h4⟩

theorem res_many {C : Ctx} {S : St} {fn : Func} {xs : List AV} (h : ResL C S fn.results.toList xs) (hn : xs.length ≠ 1) : Res C S fn (.tup xs) := by
  intro a w σ hc
  obtain ⟨vs, h1, h2, h3⟩ := res_list h a w σ hc
  rw [dif_neg (by simpa [h3] using hn)] at h1
  exact ⟨_, h1, by simp only [RelV]; exact ⟨vs.toArray, rfl, by simpa using h2⟩⟩

/-! ### From within to without -/
theorem cv_noN {S : St} {nm : List Nat} {x : AV} (hx : x.noN = true) : Cv S nm false x x := by
  intro E E' v h1 h2 h3 h4 h5 hv
  have key : ∀ (x : AV), x.noN = true → ∀ v, RelV E x v → RelV E' x v := by
    have hb : E.bare.le E'.bare := ⟨h1, (fun _ hi => by simp [RE.bare] at hi), (fun _ hi => by simp [RE.bare] at hi), h3 rfl, fun b _ _ => by simp [RE.bare, h2], fun b c t fr hh => ⟨c, t, fr, by simpa [RE.bare, h2] using hh, rfl⟩⟩
    have hone : ∀ (x : AV) cs, x.noN = true → Rel E x cs → Rel E' x cs := fun x cs hn h => Rel.le (hb.trans E'.bare_le) _ _ (Rel.noN x cs hn h)
    have hL : ∀ (l : List AV) cs, AV.noNL l = true → RelL E l cs → RelL E' l cs := fun l cs hn h => RelL.le (hb.trans E'.bare_le) _ _ (RelL.noN l cs hn h)
    intro x
    have hT : ∀ l : List AV, (∀ x ∈ l, x.noN = true → ∀ v, RelV E x v → RelV E' x v) → AV.noNL l = true → ∀ vs, RelT E l vs → RelT E' l vs := by
      intro l
      induction l with
      | nil => intro _ _ vs h; simpa only [RelT] using h
      | cons y l ih =>
        intro hy hn vs h
        simp only [RelT, AV.noNL, Bool.and_eq_true] at *
        obtain ⟨c, d, e1, e2, e3⟩ := h
        exact ⟨c, d, e1, hy y (by simp) hn.1 c e2, ih (fun z hz => hy z (by simp [hz])) hn.2 d e3⟩
    refine AV.rec (motive_1 := fun x => x.noN = true → ∀ v, RelV E x v → RelV E' x v) (motive_2 := fun l => ∀ x ∈ l, x.noN = true → ∀ v, RelV E x v → RelV E' x v)
      ?_ ?_ ?_ ?_ ?_ ?_ ?_ ?_ ?_ ?_ ?_ ?_ ?_ ?_ ?_ ?_ ?_ x
    · intro _ v _; simp only [RelV]
    · intro b _ v h; simpa only [RelV] using h
    · intro k n _ v h; simpa only [RelV] using h
    · intro s _ v h; simpa only [RelV, Rel] using h
    · intro u _ v h; simpa only [RelV, Rel] using h
    · intro e _ v h; simp only [RelV] at *; exact (ErrRel.bare e v).2 (((ErrRel.bare e v).1 h).le hb)
    · intro a b c d _ hn v h; simp only [RelV] at *; exact hone _ _ hn h
    · intro y _ hn v h; simp only [RelV] at *; exact hone _ _ hn h
    · intro i p o hn; simp [AV.noN] at hn
    · intro i a b c d hn; simp [AV.noN] at hn
    · intro l _ hn v h
      simp only [RelV, AV.noN] at *
      obtain ⟨cs, e1, e2⟩ := h
      exact ⟨cs, e1, hL l _ hn e2⟩
    · intro a n f _ hn v h
      simp only [RelV] at *
      obtain ⟨cs, e1, e2⟩ := h
      exact ⟨cs, e1, hone _ _ rfl e2⟩
    · intro l ih hn v h
      simp only [RelV, AV.noN] at *
      obtain ⟨vs, e1, e2⟩ := h
      exact ⟨vs, e1, hT l ih hn _ e2⟩
    · intro f l _ hn v h; simp only [RelV] at *; exact hone _ _ hn h
    · intro g y ih hn v h
      simp only [RelV, AV.noN] at *
      exact ⟨fun hg => ih hn v (h.1 hg), h.2⟩
    · intro z hz; cases hz
    · intro y l h1 h2 z hz
      rcases List.mem_cons.1 hz with rfl | hz
      · exact h1
      · exact h2 z hz
  exact key x hx v hv

mutual
/-- It leads to no memory but own blocks (and sentinels): whatever stays as it is needn't stay. -/
def AV.free : AV → Bool
  | .bool _ | .int _ _ | .str _ | .val _ | .top => true
  | .err .nil => true
  | .err (.code _) => true
  | .sl _ _ 0 _ => true
  | .agg l => AV.freeL l
  | .tup l => AV.freeL l
  | _ => false
def AV.freeL : List AV → Bool
  | [] => true
  | x :: l => x.free && AV.freeL l
end

mutual
theorem Rel.free {E E' : RE} (hV : E'.V = E.V) : ∀ (x : AV) (cs : List Value), x.free = true → Rel E x cs → Rel E' x cs
  | .bool _, _, _, h => by simp only [Rel] at *; exact h
  | .int _ _, _, _, h => by simp only [Rel] at *; exact h
  | .str _, _, _, h => by simp only [Rel] at *; exact h
  | .val _, _, _, h => by simp only [Rel] at *; exact h
  | .top, _, _, h => by simp only [Rel] at *; exact h
  | .err .nil, _, _, h => by simp only [Rel, ErrRel] at *; exact h
  | .err (.code _), _, _, h => by simp only [Rel, ErrRel, hV] at *; exact h
  | .err (.at _ _), _, hf, _ => by simp [AV.free] at hf
  | .sl z nn 0 f, cs, _, h => by
    simp only [Rel] at *
    obtain ⟨a, cap, h1, h2, h3, h4, h5⟩ := h
    exact ⟨a, cap, h1, h2, h3, h4, fun b hb => ⟨(h5 b hb).1, fun h => absurd h (by omega), fun j hj => absurd hj (by omega)⟩⟩
  | .sl _ _ (_ + 1) _, _, hf, _ => by simp [AV.free] at hf
  | .agg l, cs, hf, h => by simp only [Rel, AV.free] at *; exact RelL.free hV l cs hf h
  | .tup _, _, _, h => by simp only [Rel] at h
  | .gd _ _, _, hf, _ => by simp [AV.free] at hf
  | .fptr _, _, hf, _ => by simp [AV.free] at hf
  | .ptr _ _ _, _, hf, _ => by simp [AV.free] at hf
  | .osl _ _ _ _ _, _, hf, _ => by simp [AV.free] at hf
  | .arr _ _ _, _, hf, _ => by simp [AV.free] at hf
  | .fn _ _, _, hf, _ => by simp [AV.free] at hf
theorem RelL.free {E E' : RE} (hV : E'.V = E.V) : ∀ (l : List AV) (cs : List Value), AV.freeL l = true → RelL E l cs → RelL E' l cs
  | [], _, _, h => by simp only [RelL] at *; exact h
  | x :: l, cs, hf, h => by
    simp only [RelL, AV.freeL, Bool.and_eq_true] at *
    obtain ⟨c, d, h1, h2, h3⟩ := h
    exact ⟨c, d, h1, Rel.free hV x c hf.1 h2, RelL.free hV l d hf.2 h3⟩
end

/-- One result among several, or alone: as it is; or an own row that is handed away. -/
inductive CvX (S : St) (nm : List Nat) (fr : Bool) : AV → AV → Prop
  | noN {x : AV} (hf : fr = false) (h : x.noN = true) : CvX S nm fr x x
  | free {x : AV} (ho : x.one = true) (ht : x ≠ .top) (h : x.free = true) : CvX S nm fr x x
  | freeAgg {l : List AV} (h : AV.freeL l = true) : CvX S nm fr (.agg l) (.agg l)
  | row {i z of n c m : Nat} {f : Nat → AV} (hn : nm = []) (hi : getH S.H i = some (.arr z m f)) (hle : of + n ≤ m) (hf : fr = false ∨ ∀ j, j < m → (f j).free = true) (g : Nat → AV)
      (hg : ∀ j, j < n → g j = f (of + j)) : CvX S nm fr (.osl i z of n c) (.sl z false n g)

theorem CvX.cv {S : St} {nm : List Nat} {fr : Bool} {r0 r : AV} (h : CvX S nm fr r0 r) : Cv S nm fr r0 r := by
  cases h with
  | noN hf h => subst hf; exact cv_noN h
  | free ho ht h =>
    intro E E' v h1 h2 _ _ _ hv
    exact (Rel.free h1 _ _ h (hv.toRel ho ht)).toV ho
  | freeAgg h =>
    intro E E' v h1 h2 _ _ _ hv
    simp only [RelV] at *
    obtain ⟨cs, e1, e2⟩ := hv
    exact ⟨cs, e1, RelL.free h1 _ _ h e2⟩
  | @row i z of n c m f hn hi hle hf g hg =>
    intro E E' v h1 h2 h3 _ h5 hv
    simp only [RelV, Rel, List.cons.injEq, and_true] at hv ⊢
    obtain ⟨hm, hc, o, cc, hv, hcc, ho, c', t', fr', hh, hsz⟩ := hv
    obtain ⟨hG, c1, t1, fr1, cs, rest, g1, g2, g3, g4⟩ := h5 hn i _ hi
    refine ⟨_, cc, hv, by omega, rfl, by simp, fun b hb => ?_⟩
    simp only [Option.some.injEq] at hb
    subst hb
    refine ⟨fun _ => rfl, fun _ => hG, fun j hj => ?_⟩
    have ho' := ho (by omega)
    subst ho'
    simp only [Rel] at g3
    obtain ⟨g5, g6⟩ := g3.2 (of + j) (by omega)
    refine ⟨_, g6, fun k u hk => ?_, ?_⟩
    · have hk' : k < z := by rw [← g6]; exact (List.getElem?_eq_some_iff.1 hk).1
      rw [List.getElem?_take_of_lt hk', List.getElem?_drop] at hk
      have hm1 := Nat.mul_le_mul_right z (show of + j + 1 ≤ m by omega)
      rw [Nat.add_mul (of + j) 1 z, Nat.one_mul] at hm1
      have hl : (of + j) * z + k < cs.length := by rw [g3.1]; omega
      simp only [World.cell?, h2, g1, Option.isSome_none, Bool.false_eq_true, if_false]
      rw [← Array.getElem?_toList, g2, show of * z + (j * z + k) = (of + j) * z + k by rw [Nat.add_mul]; omega, List.getElem?_append_left hl]
      exact hk
    · rw [hg j hj]
      rcases hf with hf | hf
      · refine Rel.le ?_ _ _ g5
        exact ⟨h1, (fun _ hi => by simp [RE.bare] at hi), (fun _ hi => by simp [RE.bare] at hi), h3 hf, fun b _ _ => by simp [RE.bare, h2], fun b c t fr hh => ⟨c, t, fr, by simpa [RE.bare, h2] using hh, rfl⟩⟩
      · exact Rel.free (by simp [RE.bare, h1]) _ _ (hf _ (by omega)) g5

inductive CvL (S : St) (nm : List Nat) (fr : Bool) : List AV → List AV → Prop
  | nil : CvL S nm fr [] []
  | cons {x y : AV} {l m : List AV} (h : CvX S nm fr x y) (t : CvL S nm fr l m) : CvL S nm fr (x :: l) (y :: m)

theorem CvL.cv {S : St} {nm : List Nat} {fr : Bool} {l m : List AV} (h : CvL S nm fr l m) : Cv S nm fr (.tup l) (.tup m) := by
  intro E E' v h1 h2 h3 h4 h5 hv
  simp only [RelV] at *
  obtain ⟨vs, rfl, hv⟩ := hv
  refine ⟨vs, rfl, ?_⟩
  generalize vs.toList = us at hv
  induction h generalizing us with
  | nil => simpa only [RelT] using hv
  | cons hx _ ih =>
    simp only [RelT] at *
    obtain ⟨c, d, rfl, e1, e2⟩ := hv
    exact ⟨c, d, rfl, hx.cv E E' c h1 h2 h3 h4 h5 e1, ih d e2⟩

/-- The end of a function that takes and leaves no own block. -/
theorem aend1 {C : Ctx} {S : St} {fn : Func} {fr : Bool} {r0 r : AV} (h : ResL C S fn.results.toList [r0]) (hc : CvX S [] fr r0 r) {Q : AV → List (Nat × Option AV) → List Nat → Prop} (hq : Q r [] []) : AEnd C fn [] fr Q S :=
  ⟨r0, r, [], res_one h, hq, fun _ => rfl, fun _ h => h, fun i x h => by simp [getH] at h, hc.cv⟩
theorem aend {C : Ctx} {S : St} {fn : Func} {fr : Bool} {l m : List AV} (h : ResL C S fn.results.toList l) (hn : l.length ≠ 1) (hc : CvL S [] fr l m) {Q : AV → List (Nat × Option AV) → List Nat → Prop} (hq : Q (.tup m) [] []) :
    AEnd C fn [] fr Q S :=
  ⟨.tup l, .tup m, [], res_many h hn, hq, fun _ => rfl, fun _ h => h, fun i x h => by simp [getH] at h, hc.cv⟩
end Go.Fy
