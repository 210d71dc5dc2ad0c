/- The engine, 7: contracts of functions; a function's body; a call (my own text; any program). -/
import Derived.Test.YtgaihhimkodmmaaDoorFyF
set_option linter.unusedSimpArgs false
namespace Go.Fy
open Go.RowKit

def bnd (H : List (Nat × Option AV)) (i : Nat) : Bool := H.any fun p => p.1 == i

def GAfter (G : Nat → Prop) (w w' : World) (H' : List (Nat × Option AV)) (σ' : Nat → Nat) (b : Nat) : Prop :=
  G b ∨ (w.heap.size ≤ b ∧ b < w'.heap.size ∧ ∀ i x, getH H' i = some x → σ' i ≠ b)

/-- A contract: called with what these abstract values say, own blocks as H tells, the function returns; what comes back and what the blocks then hold is as Q tells.
    'fr': the answer leads to new memory alone (and to what the own blocks led to), so that arguments may be views of memory that the caller goes on writing. -/
def ACalls (V : Env) (f : FuncId) (args : List AV) (H : List (Nat × Option AV)) (fr : Bool) (Q : AV → List (Nat × Option AV) → List Nat → Prop) : Prop :=
  ∀ (w : World) (σ : Nat → Nat) (G Gall : Nat → Prop) (vals : Array Value),
    (∀ x, Gall x → x < w.heap.size) → (∀ x, G x → Gall x) → (fr = false → ∀ x, Gall x → G x) → EnvOK ⟨V, w, σ, H.map (·.1), G⟩ →
    (∀ i j x y, getH H i = some x → getH H j = some y → σ i = σ j → i = j) →
    (∀ i x, getH H i = some x → ¬ Gall (σ i) ∧ Blk ⟨V, w, σ, H.map (·.1), G⟩ (σ i) x) →
    RelT ⟨V, w, σ, H.map (·.1), Gall⟩ args vals.toList →
    Calls V.P f vals w fun e w' => ∃ v r H' nm' σ', e = .returned v ∧ Q r H' nm' ∧ Step H (H.map (·.1)) w σ H' nm' w' σ' ∧ (∀ i, bnd H i = true → bnd H' i = true) ∧
      (∀ i j x y, getH H' i = some x → getH H' j = some y → σ' i = σ' j → i = j) ∧
      (∀ i x, getH H' i = some x → i ∈ nm' ∧ Blk ⟨V, w', σ', nm', GAfter G w w' H' σ'⟩ (σ' i) x) ∧ RelV ⟨V, w', σ', nm', GAfter G w w' H' σ'⟩ r v

theorem ACalls.mono {V : Env} {f : FuncId} {args : List AV} {H : List (Nat × Option AV)} {fr : Bool} {Q Q' : AV → List (Nat × Option AV) → List Nat → Prop}
    (h : ACalls V f args H fr Q) (hq : ∀ r H' n, Q r H' n → Q' r H' n) : ACalls V f args H fr Q' :=
  fun w σ G Gall vals h1 h2 h3 h4 h5 h6 h7 => (h w σ G Gall vals h1 h2 h3 h4 h5 h6 h7).mono fun _ _ ⟨v, r, H', nm', σ', a, b, c⟩ => ⟨v, r, H', nm', σ', a, hq _ _ _ b, c⟩

/-- Where one says what another says (of a slot; of cells). -/
def WkV (y x : AV) : Prop := ∀ (E : RE) (v : Value), RelV E y v → RelV E x v
def WkC (y x : AV) : Prop := ∀ (E : RE) (cs : List Value), Rel E y cs → Rel E x cs
theorem WkV.refl (x : AV) : WkV x x := fun _ _ h => h
theorem WkC.refl (x : AV) : WkC x x := fun _ _ h => h
theorem WkC.of {x y : AV} (h : y = x) : WkC y x := h ▸ WkC.refl _
theorem WkV.of {x y : AV} (h : y = x) : WkV y x := h ▸ WkV.refl _

/-- The commonest: no own block comes in or out. -/
def APure (V : Env) (f : FuncId) (args : List AV) (fr : Bool) (r : AV) : Prop := ACalls V f args [] fr fun r' H' nm' => WkV r' r ∧ H' = [] ∧ nm' = []

/-! ### A body -/
def frame0 : List AV → Nat → List (Nat × AV)
  | [], _ => []
  | x :: l, k => (k, x) :: frame0 l (k + 1)

theorem frame0_get {E : RE} : ∀ (args : List AV) (vs : List Value) (k : Nat), RelT E args vs → ∀ t, k ≤ t → RelV E (getF (frame0 args k) t) (vs.getD (t - k) undef)
  | [], vs, k, _, t, _ => by simp only [frame0, getF, RelV]
  | x :: l, vs, k, h, t, ht => by
    simp only [RelT] at h
    obtain ⟨c, d, rfl, h1, h2⟩ := h
    simp only [frame0]
    rw [getF_cons]
    by_cases e : k = t
    · subst e; simpa using h1
    · rw [if_neg e]
      have := frame0_get l d (k + 1) h2 t (by omega)
      rwa [show t - k = (t - (k + 1)) + 1 by omega, List.getD_cons_succ]
theorem RelT.length {E : RE} : ∀ (l : List AV) (vs : List Value), RelT E l vs → vs.length = l.length
  | [], _, h => by simp only [RelT] at h; subst h; rfl
  | x :: l, vs, h => by
    simp only [RelT] at h
    obtain ⟨c, d, rfl, h1, h2⟩ := h
    simp [RelT.length l d h2]

/-- What the function hands back, in this state. -/
def Res (C : Ctx) (S : St) (fn : Func) (r : AV) : Prop :=
  ∀ a w σ, ConcS C S a w σ → ∃ v, (results fn a.tmps).run C.V.P w = .ok v w ∧ RelV (C.RE S w σ) r v

/-- From what holds within the body to what holds for the caller; no own block stays but those that came in. -/
def Cv (S : St) (nm : List Nat) (fr : Bool) (r0 r : AV) : Prop :=
  ∀ (E E' : RE) (v : Value), E'.V = E.V → E'.w = E.w → (fr = false → ∀ b, E.G b → E'.G b) → (∀ i, i ∈ nm → E'.σ i = E.σ i ∧ i ∈ E'.nm) →
    (nm = [] → ∀ i y, getH S.H i = some y → E'.G (E.σ i) ∧ Blk E (E.σ i) y) → RelV E r0 v → RelV E' r v

def AEnd (C : Ctx) (fn : Func) (H : List (Nat × Option AV)) (fr : Bool) (Q : AV → List (Nat × Option AV) → List Nat → Prop) (S : St) : Prop :=
  ∃ (r0 r : AV) (H' : List (Nat × Option AV)), Res C S fn r0 ∧ Q r H' (H.map (·.1)) ∧ (fr = true → H = []) ∧ (∀ i, bnd H i = true → bnd H' i = true) ∧
    (∀ i x, getH H' i = some x → i ∈ H.map (·.1) ∧ x.noN = true ∧ getH S.H i = some x ∧ ∃ y, getH H i = some y) ∧
    Cv S (H.map (·.1)) fr r0 r

def APost (C : Ctx) (fn : Func) (H : List (Nat × Option AV)) (fr : Bool) (Q : AV → List (Nat × Option AV) → List Nat → Prop) : Exit → St → Prop
  | .normal, S | .ret, S => AEnd C fn H fr Q S
  | _, _ => False

theorem apost_ret {C : Ctx} {fn : Func} {H : List (Nat × Option AV)} {fr : Bool} {Q : AV → List (Nat × Option AV) → List Nat → Prop} {S : St} (h : AEnd C fn H fr Q S) : APost C fn H fr Q .ret S := h
theorem apost_normal {C : Ctx} {fn : Func} {H : List (Nat × Option AV)} {fr : Bool} {Q : AV → List (Nat × Option AV) → List Nat → Prop} {S : St} (h : AEnd C fn H fr Q S) : APost C fn H fr Q .normal S := h

/-- A mark is taken: its block is shut. -/
theorem ConcS.shutD {C : Ctx} {S : St} {a a' : Act} {w : World} {σ : Nat → Nat} {D : Nat} {Ds : List Nat} (hc : ConcS C S a w σ) (ha : a.defers = (D :: Ds).map mark) (ht : a'.tmps = a.tmps) (ha' : a'.defers = Ds.map mark)
    (hD : w.heap[D]? = some (.deferred (some []))) : ConcS C S a' (w.putObj D (.deferred none)) σ := by
  obtain ⟨Ds', e1, hnd, hall⟩ := hc.defers
  have hDD : Ds' = D :: Ds := by
    have e2 := ha.symm.trans e1
    have hinj : ∀ (l m : List Nat), l.map mark = m.map mark → l = m := by
      intro l
      induction l with
      | nil => intro m h; cases m with
        | nil => rfl
        | cons y m => simp at h
      | cons x l ih => intro m h; cases m with
        | nil => simp at h
        | cons y m =>
          simp only [List.map_cons, List.cons.injEq] at h
          obtain ⟨h1, h2⟩ := h
          have : x = y := by
            have h3 : (mark x).target = (mark y).target := by rw [h1]
            simpa [mark] using h3
          rw [this, ih m h2]
    exact (hinj _ _ e2).symm
  subst hDD
  have hge : C.w0.heap.size ≤ D := (hall D (by simp)).1
  have hoth : ∀ b, b ≠ D → (w.putObj D (.deferred none)).heap[b]? = w.heap[b]? := fun b hb => World.putObj_heap_other hb
  have hsz : (w.putObj D (.deferred none)).heap.size = w.heap.size := by simp
  have hsame : (w.putObj D (.deferred none)).heap[D]? = some (.deferred none) := World.putObj_heap_same (Array.getElem?_eq_some_iff.1 hD).1
  have hcell : ∀ b o s, (w.putObj D (.deferred none)).cell? ⟨b, o, s⟩ = w.cell? ⟨b, o, s⟩ := fun b o s => by
    by_cases e : b = D
    · subst e; simp only [World.cell?, hsame, hD]
    · exact cell_of_block (hoth b e) o s
  have hcl : ∀ (b : Nat) (c : Array Value) (t : TypeId) (fr : Nat × Nat), w.heap[b]? = some (.cells c t fr) → (w.putObj D (.deferred none)).heap[b]? = some (.cells c t fr) := fun b c t fr h => by
    refine (hoth b fun e => ?_).trans h
    subst e; rw [hD] at h; cases h
  have hle : (C.RE S w σ).le (C.RE S (w.putObj D (.deferred none)) σ) :=
    ⟨rfl, fun _ _ => rfl, fun _ h => h, fun b hb => by
      rcases hb with hb | ⟨h1, h2, h3⟩
      · exact .inl hb
      · exact .inr ⟨h1, by rw [hsz]; exact h2, h3⟩, fun b _ o v hv => (hcell b o none).trans hv, fun b c t fr h => ⟨c, t, fr, hcl b c t fr h, rfl⟩⟩
  refine ⟨hc.ok, ⟨Ds, ha', (List.nodup_cons.1 hnd).2, fun E hE => ⟨(hall E (by simp [hE])).1, (hoth E fun e => (List.nodup_cons.1 hnd).1 (by rw [← e]; exact hE)).trans (hall E (by simp [hE])).2⟩⟩, by rw [ht]; exact hc.size,
    ⟨hc.kept.os, hc.kept.tape, hc.kept.output, by rw [hsz]; exact hc.kept.size, fun b hb hn => (hoth b (by omega)).trans (hc.kept.block b hb hn), fun b c t fr hb => ?_⟩, hc.σ0, hc.inj, fun i x hi => ?_, hc.env.le hle, fun t => ?_⟩
  · obtain ⟨c', t', fr', h1, h2⟩ := hc.kept.cells b c t fr hb
    exact ⟨c', t', fr', hcl _ _ _ _ h1, h2⟩
  · obtain ⟨h1, h2, h3, h4⟩ := hc.blk i x hi
    refine ⟨h1, h2, h3, h4.le hle (hoth _ fun e => ?_)⟩
    obtain ⟨c, t, fr, cs, rest, h5, -⟩ := h4
    rw [e] at h5
    have h6 : w.heap[D]? = some (.cells c t fr) := h5
    rw [hD] at h6; cases h6
  · rw [ht]; exact RelV.le hle _ _ (hc.slot t)
theorem leaves_marks {C : Ctx} {S : St} {fn : Func} {R : Ending → World → Prop} {σ : Nat → Nat} : ∀ (Ds : List Nat) (a : Act) (w : World), a.defers = Ds.map mark → ConcS C S a w σ →
    (∀ a2 w2, a2.tmps = a.tmps → ConcS C S a2 w2 σ → ∃ v, (results fn a2.tmps).run C.V.P w2 = .ok v w2 ∧ R (.returned v) w2) → LeavesInM Fence.wide 0 C.V.P fn a.tmps R (Ds.map mark) .returning w
  | [], a, w, _, hc, h => h a w rfl hc
  | D :: Ds, a, w, ha, hc, h => by
    have hD : w.heap[D]? = some (.deferred (some [])) := by
      obtain ⟨Ds', e1, -, hall⟩ := hc.defers
      have h1 : mark D ∈ Ds'.map mark := by rw [← e1, ha]; simp
      obtain ⟨E, hE, he⟩ := List.mem_map.1 h1
      have : E = D := by
        have h3 : (mark E).target = (mark D).target := by rw [he]
        simpa [mark] using h3
      subst this; exact (hall E hE).2
    refine ⟨(by intro h; cases h), .inl ⟨D, _, rfl, run_takeDeferred hD, ?_⟩⟩
    exact leaves_marks Ds { a with defers := Ds.map mark } _ rfl (hc.shutD ha rfl rfl hD) h
/-- From a walk of a function's body to the function. -/
theorem calls_of_awp {C : Ctx} {S0 : St} {f : FuncId} {fn : Func} {c : Code} {vals : Array Value} {w : World} {σ : Nat → Nat} {Q : Exit → St → Prop} {R : Ending → World → Prop} (hf : C.V.P.funcs[f]? = some fn) (hb : fn.body = some c)
    (hc : ConcS C S0 { tmps := vals ++ Array.replicate (fn.ntmps - vals.size) undef, defers := [] } w σ) (h : AWP C c Q S0)
    (hend : ∀ e S' a' w' σ', ConcS C S' a' w' σ' → Q e S' → (e = .normal ∨ e = .ret) ∧ ∃ v, (results fn a'.tmps).run C.V.P w' = .ok v w' ∧ R (.returned v) w') : Calls C.V.P f vals w R := by
  refine (callsIn_wide (n := 0)).1 (callsIn_of_wp_marks hf hb trivial (wpIn_wide.2 (wp_mono (h _ w ⟨σ, hc⟩) fun e a' w' ⟨S', ⟨σ', hc'⟩, hq⟩ => ?_)))
  obtain ⟨Ds, e1, -, -⟩ := hc'.defers
  have hl : LeavesInM Fence.wide 0 C.V.P fn a'.tmps R a'.defers .returning w' := by
    rw [e1]
    exact leaves_marks Ds a' w' e1 hc' fun a2 w2 _ hc2 => (hend e S' a2 w2 σ' hc2 hq).2
  rcases (hend e S' a' w' σ' hc' hq).1 with rfl | rfl
  · exact hl
  · exact hl

theorem acalls_of_body {V : Env} {f : FuncId} {fn : Func} {c : Code} {args : List AV} {H : List (Nat × Option AV)} {fr : Bool} {Q : AV → List (Nat × Option AV) → List Nat → Prop}
    (hf : V.P.funcs[f]? = some fn) (hb : fn.body = some c) {N : Nat} (hN : fn.ntmps = N) (hle : args.length ≤ N)
    (h : ∀ C : Ctx, C.V = V → C.N = N → C.nm0 = H.map (·.1) → (∀ b, C.own0 b → ∃ j, j ∈ C.nm0 ∧ C.σ0 j = b) → AWP C c (APost C fn H fr Q) ⟨frame0 args 0, H, H.map (·.1)⟩) : ACalls V f args H fr Q := by
  intro w σ G Gall vals h1 h2 h3 h4 h5 h6 h7
  let C : Ctx := { V := V, N := N, w0 := w, G0 := Gall, σ0 := σ, nm0 := H.map (·.1), own0 := fun b => ∃ i x, getH H i = some x ∧ σ i = b }
  have hlen := RelT.length args _ h7
  simp only [Array.length_toList] at hlen
  have hGall : ∀ S : St, S.H = H → ∀ b, C.G S.H w σ b ↔ Gall b := fun S hS b => by
    constructor
    · rintro (hb | ⟨h8, h9, -⟩)
      · exact hb
      · exact absurd h9 (Nat.not_lt.2 h8)
    · exact .inl
  have hle0 : (⟨V, w, σ, H.map (·.1), Gall⟩ : RE).le (C.RE ⟨frame0 args 0, H, H.map (·.1)⟩ w σ) :=
    ⟨rfl, fun _ _ => rfl, fun _ h => h, fun b hb => .inl hb, fun _ _ _ _ h => h, fun _ c t fr h => ⟨c, t, fr, h, rfl⟩⟩
  have hleG : (⟨V, w, σ, H.map (·.1), G⟩ : RE).le ⟨V, w, σ, H.map (·.1), Gall⟩ :=
    ⟨rfl, fun _ _ => rfl, fun _ h => h, fun b hb => h2 b hb, fun _ _ _ _ h => h, fun _ c t fr h => ⟨c, t, fr, h, rfl⟩⟩
  have hnm : ∀ i x, getH H i = some x → i ∈ H.map (·.1) := by
    have : ∀ (L : List (Nat × Option AV)) i x, getH L i = some x → i ∈ L.map (·.1) := by
      intro L
      induction L with
      | nil => intro i x h; simp [getH] at h
      | cons p L ih =>
        intro i x h
        obtain ⟨d, v⟩ := p
        rw [getH_cons] at h
        by_cases e : d = i
        · simp [e]
        · rw [if_neg e] at h; simp [ih i x h]
    exact this H
  have hc : ConcS C ⟨frame0 args 0, H, H.map (·.1)⟩ { tmps := vals ++ Array.replicate (fn.ntmps - vals.size) undef, defers := [] } w σ := by
    refine ⟨⟨h1, fun b hb ⟨i, x, hi, he⟩ => (h6 i x hi).1 (by rw [he]; exact hb)⟩, Marks.nil _ _, ?_, ⟨rfl, rfl, rfl, Nat.le_refl _, fun _ _ _ => rfl, fun _ c t fr h => ⟨c, t, fr, h, rfl⟩⟩, fun i hi => ⟨rfl, hi⟩, h5, fun i x hi => ⟨hnm i x hi, (h6 i x hi).1, .inl ⟨i, x, hi, rfl⟩, ?_⟩,
      h4.le (hleG.trans hle0), fun t => ?_⟩
    · show (vals ++ Array.replicate (fn.ntmps - vals.size) undef).size = N
      rw [Array.size_append, Array.size_replicate, hN]; omega
    · exact (h6 i x hi).2.le (hleG.trans hle0) rfl
    · have := RelV.le hle0 _ _ (frame0_get args vals.toList 0 h7 t (Nat.zero_le t))
      rw [Nat.sub_zero] at this
      show RelV _ (getF (frame0 args 0) t) ((vals ++ Array.replicate (fn.ntmps - vals.size) undef).getD t undef)
      have e : (vals ++ Array.replicate (fn.ntmps - vals.size) undef).getD t undef = vals.toList.getD t undef := by
        simp only [Array.getD_eq_getD_getElem?, List.getD_eq_getElem?_getD, Array.getElem?_append, Array.getElem?_toList]
        split
        · rfl
        · rename_i hlt
          rw [Array.getElem?_replicate, Array.getElem?_eq_none (by omega)]
          split <;> rfl
      rw [e]; exact this
  refine calls_of_awp (C := C) (σ := σ) hf hb hc (h C rfl rfl rfl (fun b ⟨i, x, hi, he⟩ => ⟨i, hnm i x hi, he⟩)) fun e S' a' w' σ' hc' hp => ?_
  have hend : AEnd C fn H fr Q S' → ∃ v, (results fn a'.tmps).run V.P w' = .ok v w' ∧ ∃ v0 r H' nm' σ', Ending.returned v = .returned v0 ∧ Q r H' nm' ∧ Step H (H.map (·.1)) w σ H' nm' w' σ' ∧
      (∀ i, bnd H i = true → bnd H' i = true) ∧ (∀ i j x y, getH H' i = some x → getH H' j = some y → σ' i = σ' j → i = j) ∧
      (∀ i x, getH H' i = some x → i ∈ nm' ∧ Blk ⟨V, w', σ', nm', GAfter G w w' H' σ'⟩ (σ' i) x) ∧ RelV ⟨V, w', σ', nm', GAfter G w w' H' σ'⟩ r v0 := by
    rintro ⟨r0, r, H', hres, hQ, hfr, hbnd, hH', hcv⟩
    obtain ⟨v, hrun, hv⟩ := hres a' w' σ' hc'
    refine ⟨v, hrun, v, r, H', H.map (·.1), σ', rfl, hQ, ?_, hbnd, ?_, ?_, ?_⟩
    · refine ⟨hc'.kept.os, hc'.kept.tape, hc'.kept.output, hc'.kept.size, fun i hi => (hc'.σ0 i hi).1, fun _ h => h, fun i x hi => ?_, fun b hb hn => ?_, fun b cc t f hb => ?_⟩
      · obtain ⟨k1, -, -, k2⟩ := hH' i x hi
        obtain ⟨y, k2⟩ := k2
        exact .inl ⟨i, y, k2, k1, (hc'.σ0 i k1).1.symm⟩
      · exact hc'.kept.block b hb fun ⟨i, x, hi, he⟩ => hn i x hi he
      · exact hc'.kept.cells b cc t f hb
    · intro i j x y hi hj he
      exact hc'.inj i j x y (hH' i x hi).2.2.1 (hH' j y hj).2.2.1 he
    · intro i x hi
      obtain ⟨k1, k2, k3, k4⟩ := hH' i x hi
      refine ⟨k1, ?_⟩
      obtain ⟨c1, t1, f1, cs, rest, g1, g2, g3, g4⟩ := (hc'.blk i x k3).2.2.2
      refine ⟨c1, t1, f1, cs, rest, g1, g2, ?_, g4⟩
      have g5 := Rel.noN x cs k2 g3
      refine Rel.le ?_ _ _ g5
      cases fr with
      | true => have := hfr rfl; subst this; simp at k1
      | false =>
        refine ⟨rfl, (fun _ hi => by simp [RE.bare] at hi), (fun _ hi => by simp [RE.bare] at hi), fun b hb => ?_, fun _ _ _ _ h => h, fun _ c t f h => ⟨c, t, f, h, rfl⟩⟩
        rcases hb with hb | ⟨m1, m2, m3⟩
        · exact .inl (h3 rfl b hb)
        · exact .inr ⟨m1, m2, fun j y hj => m3 j y (hH' j y hj).2.2.1⟩
    · refine hcv (C.RE S' w' σ') ⟨V, w', σ', H.map (·.1), GAfter G w w' H' σ'⟩ v rfl rfl ?_ (fun i hi => ⟨rfl, hi⟩) ?_ hv
      · intro hf' b hb
        rcases hb with hb | ⟨m1, m2, m3⟩
        · exact .inl (h3 hf' b hb)
        · exact .inr ⟨m1, m2, fun j y hj => m3 j y (hH' j y hj).2.2.1⟩
      · intro hnil i y hi
        have hB := hc'.blk i y hi
        have hH : H = [] := List.map_eq_nil_iff.1 hnil
        refine ⟨.inr ⟨?_, hB.2.2.2.lt, fun j x hj _ => ?_⟩, hB.2.2.2⟩
        · rcases hB.2.2.1 with ⟨j, x, hj, -⟩ | h8
          · rw [hH] at hj; simp [getH] at hj
          · exact h8
        · have := (hH' j x hj).1
          rw [hH] at this; simp at this
  cases e <;> first
    | exact ⟨.inl rfl, hend hp⟩
    | exact ⟨.inr rfl, hend hp⟩
    | exact hp.elim
end Go.Fy
