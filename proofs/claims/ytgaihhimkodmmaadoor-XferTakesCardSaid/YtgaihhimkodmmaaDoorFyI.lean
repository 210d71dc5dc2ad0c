/- The engine, 9: calls (my own text; any program). -/
import Derived.Test.YtgaihhimkodmmaaDoorFyH
set_option linter.unusedSimpArgs false
namespace Go.Fy
open Go.RowKit

/-- A function with a body, which a call enters. -/
def Ent (P : Program) (g : FuncId) : Prop := ∃ fn, P.funcs[g]? = some fn ∧ (fn.name == "runtime.NumGoroutine") = false ∧ fn.body.isNone = false

theorem callFunc_run {P : Program} {g : FuncId} (h : Ent P g) (args : Array Value) (w : World) : (callFunc g args).run P w = .ok (.enter g args) w := by
  obtain ⟨fn, h1, h2, h3⟩ := h
  simp only [callFunc, Sem.run_bind, run_program, Result.andThen, h1, h2, h3, Bool.false_eq_true, if_false, Sem.run_pure]

/-- The value of a slot, seen by a callee that can write the blocks 'H' (named there r i here) and no others. -/
def AView (η : Nat → Option AV) (nm : List Nat) (r : Nat → Nat) (fr : Bool) (a a' : AV) : Prop :=
  ∀ (E E' : RE) (v : Value), E'.V = E.V → E'.w = E.w → (∀ b, E.G b → E'.G b) → (∀ i, i ∈ nm → i ∈ E'.nm ∧ E'.σ i = E.σ (r i)) →
    (fr = true → ∀ i y, η i = some y → (∀ j, j ∈ nm → r j ≠ i) → E'.G (E.σ i) ∧ Blk E (E.σ i) y) → RelV E a v → RelV E' a' v

theorem aview_noN {η : Nat → Option AV} {nm : List Nat} {r : Nat → Nat} {fr : Bool} {a : AV} (h : a.noN = true) : AView η nm r fr a a := by
  intro E E' v h1 h2 h3 _ _ hv
  -- as at a function's end: nothing of it hangs on names
  have := cv_noN (S := ⟨[], [], []⟩) (nm := []) h E E' v h1 h2 (fun _ => h3) (fun i hi => by cases hi) (fun _ i y hi => by simp [getH] at hi) hv
  exact this

theorem aview_ptr {η : Nat → Option AV} {nm : List Nat} {r : Nat → Nat} {fr : Bool} {i c : Nat} {p : List Nat} {o : Nat} (h : i ∈ nm) (hr : r i = c) : AView η nm r fr (.ptr c p o) (.ptr i p o) := by
  intro E E' v h1 h2 h3 h4 _ hv
  simp only [RelV, Rel, List.cons.injEq, and_true] at *
  obtain ⟨h5, h6⟩ := h4 i h
  exact ⟨h5, by rw [h6, hr]; exact hv.2⟩

/-- An own row, read by a callee. -/
theorem aview_osl {η : Nat → Option AV} {nm : List Nat} {r : Nat → Nat} {i z of n c m : Nat} {f : Nat → AV} (hi : η i = some (.arr z m f)) (hno : ∀ j, j ∈ nm → r j ≠ i) (hle : of + n ≤ m) (g : Nat → AV)
    (hg : ∀ j, j < n → g j = f (of + j)) : AView η nm r true (.osl i z of n c) (.sl z false n g) := by
  intro E E' v h1 h2 h3 _ h5 hv
  obtain ⟨hG, hB⟩ := h5 rfl i _ hi hno
  -- as at a function's end
  have := (CvX.row (S := ⟨[], [(i, some (.arr z m f))], []⟩) (nm := []) (fr := false) (c := c) rfl (by simp [getH]) hle (.inl rfl) g hg).cv E E' v h1 h2 (fun _ => h3) (fun i hi => by cases hi)
    (fun _ j y hj => by
      simp only [getH] at hj
      by_cases e : i = j
      · subst e; simp at hj; subst hj; exact ⟨hG, hB⟩
      · rw [show Nat.beq i j = false from Bool.eq_false_iff.2 fun h => e (Nat.eq_of_beq_eq_true h)] at hj; simp at hj) hv
  exact this

inductive AViews (η : Nat → Option AV) (nm : List Nat) (r : Nat → Nat) (fr : Bool) : List AV → List AV → Prop
  | nil : AViews η nm r fr [] []
  | cons {x y : AV} {l m : List AV} (h : AView η nm r fr x y) (t : AViews η nm r fr l m) : AViews η nm r fr (x :: l) (y :: m)

theorem AViews.refl {η : Nat → Option AV} {nm : List Nat} {r : Nat → Nat} {fr : Bool} : ∀ (l : List AV), AV.noNL l = true → AViews η nm r fr l l
  | [], _ => .nil
  | x :: l, h => by
    simp only [AV.noNL, Bool.and_eq_true] at h
    exact .cons (aview_noN h.1) (AViews.refl l h.2)

theorem AViews.rel {η : Nat → Option AV} {nm : List Nat} {r : Nat → Nat} {fr : Bool} {E E' : RE} (h1 : E'.V = E.V) (h2 : E'.w = E.w) (h3 : ∀ b, E.G b → E'.G b) (h4 : ∀ i, i ∈ nm → i ∈ E'.nm ∧ E'.σ i = E.σ (r i))
    (h5 : fr = true → ∀ i y, η i = some y → (∀ j, j ∈ nm → r j ≠ i) → E'.G (E.σ i) ∧ Blk E (E.σ i) y) {l m : List AV} (h : AViews η nm r fr l m) : ∀ vs, RelT E l vs → RelT E' m vs := by
  induction h with
  | nil => intro vs hv; simpa only [RelT] using hv
  | cons hx _ ih =>
    intro vs hv
    simp only [RelT] at *
    obtain ⟨c, d, rfl, e1, e2⟩ := hv
    exact ⟨c, d, rfl, hx E E' c h1 h2 h3 h4 h5 e1, ih d e2⟩

theorem relT_map {E : RE} (ρ : Operand → AV) (ε : Operand → Value) : ∀ (l : List Operand), (∀ x ∈ l, RelV E (ρ x) (ε x)) → RelT E (l.map ρ) (l.map ε)
  | [], _ => by simp only [List.map_nil, RelT]
  | x :: l, h => by
    simp only [List.map_cons, RelT]
    exact ⟨_, _, rfl, h x (by simp), relT_map ρ ε l fun y hy => h y (by simp [hy])⟩
theorem relT_caps {E : RE} : ∀ (l : List AV) (vs : List Value), RelC E l vs → (∀ x ∈ l, x.one = true) → RelT E l vs
  | [], vs, h, _ => by simp only [RelC] at h; simp only [RelT]; exact h
  | x :: l, vs, h, ho => by
    simp only [RelC] at h
    obtain ⟨c, d, e1, e2, e3⟩ := h
    simp only [RelT]
    exact ⟨c, d, e1, e2.toV (ho x (by simp)), relT_caps l d e3 fun y hy => ho y (by simp [hy])⟩
theorem relT_append {E : RE} : ∀ (l m : List AV) (us vs : List Value), RelT E l us → RelT E m vs → RelT E (l ++ m) (us ++ vs)
  | [], m, us, vs, h, k => by simp only [RelT] at h; subst h; exact k
  | x :: l, m, us, vs, h, k => by
    simp only [RelT] at h
    obtain ⟨c, d, rfl, e2, e3⟩ := h
    simp only [List.cons_append, RelT]
    exact ⟨c, _, rfl, e2, relT_append l m d vs e3 k⟩

section
variable {C : Ctx} {o : Oper} {ρ : Operand → AV} {η : Nat → Option AV}

theorem call_run {fo : Operand} {as : Array Operand} {ts : Array TypeId} (ho : o.op = .call { callee := .value fo, args := as, argTypes := ts }) {ε : Operand → Value} {g : FuncId} {cv : Array Value}
    (hf : ε fo = .func (.func g) #[] cv) {P : Program} (he : Ent P g) (w : World) : (execOp ε o).run P w = .ok (.enter g (as.map ε ++ cv)) w := by
  simp only [execOp, ho, resolve, hf, Deferred.ofValue, Sem.run_bind, Sem.run_pure, Result.andThen, invoke, Array.empty_append, callFunc_run he]

/-- A call of a function that takes no own block. -/
theorem opr_call {fo : Operand} {as : Array Operand} {ts : Array TypeId} {g : FuncId} {caps : List AV} {args : List AV} {fr : Bool} {r : AV}
    (ho : o.op = .call { callee := .value fo, args := as, argTypes := ts }) (hf : ρ fo = .fn g caps) (he : Ent C.V.P g) (hcap : (caps.all AV.one) = true)
    (h : APure C.V g args fr r) (hv : AViews η [] (fun i => i) fr (as.toList.map ρ ++ caps) args) :
    OpR C o ρ η ⟨r, [], []⟩ := by
  intro hd S hρ hη hn a w ⟨σ, hc⟩
  have h1 : ∀ x, x ∈ o.op.operands → RelV (C.RE S w σ) (ρ x) (a.eval x) := fun x hx => hρ x hx _ _ rfl (ev_rel hc x)
  have hfo := h1 fo (by simp [ho, Op.operands, Call.operands])
  rw [hf] at hfo
  simp only [RelV, Rel, List.cons.injEq, and_true] at hfo
  obtain ⟨cv, hfo, hcv⟩ := hfo
  unfold Oper.wp
  rw [call_run ho hfo he, Oper.upon_enter]
  have hargs : RelT (C.RE S w σ) (as.toList.map ρ ++ caps) (as.map a.eval ++ cv).toList := by
    rw [Array.toList_append, Array.toList_map]
    refine relT_append _ _ _ _ (relT_map ρ a.eval as.toList fun x hx => h1 x ?_) (relT_caps _ _ hcv fun x hx => List.all_eq_true.1 hcap x hx)
    have : x ∈ as := by simpa using hx
    simp [ho, Op.operands, Call.operands, this]
  -- what the callee may lean on
  let Gall : Nat → Prop := fun b => C.G S.H w σ b ∨ (fr = true ∧ ∃ i y, getH S.H i = some y ∧ σ i = b)
  have hsub : ∀ x, C.G S.H w σ x → x < w.heap.size := fun x hx => by
    rcases hx with hx | ⟨-, hx, -⟩
    · have := hc.ok.lt x hx; have := hc.kept.size; omega
    · exact hx
  have hle : (⟨C.V, w, σ, [], C.G S.H w σ⟩ : RE).bare.le (C.RE S w σ).bare := ⟨rfl, (fun _ hi => by simp [RE.bare] at hi), (fun _ hi => by simp [RE.bare] at hi), fun _ h => h, fun _ _ _ _ h => h, fun _ c t f h => ⟨c, t, f, h, rfl⟩⟩
  have henv : EnvOK ⟨C.V, w, σ, [], C.G S.H w σ⟩ := ⟨hc.env.glob, hc.env.sent, hc.env.inj, hc.env.cold⟩
  have hcall := h w σ (C.G S.H w σ) Gall (as.map a.eval ++ cv)
    (fun x hx => by
      rcases hx with hx | ⟨-, i, y, hi, rfl⟩
      · exact hsub x hx
      · exact (hc.blk i y hi).2.2.2.lt)
    (fun x hx => .inl hx) (fun hf x hx => hx.elim id fun h' => by have := h'.1; rw [hf] at this; cases this) henv (fun i j x y hi => by simp [getH] at hi) (fun i x hi => by simp [getH] at hi)
    (AViews.rel (E := C.RE S w σ) (E' := ⟨C.V, w, σ, [], Gall⟩) rfl rfl (fun b hb => .inl hb) (fun i hi => by cases hi) (fun hf i y hi _ => ⟨.inr ⟨hf, i, y, hη i y hi, rfl⟩, (hc.blk i y (hη i y hi)).2.2.2⟩) hv _ hargs)
  refine hcall.mono fun e w' ⟨v, r', H', nm', σ', he, ⟨hr, hH', hnm'⟩, hst, _, _, _, hrel⟩ => ?_
  subst he; subst hH'; subst hnm'; replace hrel := hr _ _ hrel
  have hbl : Below w.heap.size w w' := ⟨hst.os, hst.tape, hst.output, hst.le, fun b hb => hst.block b hb (fun i x hi => by simp [getH] at hi)⟩
  have hc' := hc.world hbl
  refine ⟨σ, hc'.put o.dst _ v hd ?_⟩
  -- the result's names: none
  have hGG : ∀ b, GAfter (C.G S.H w σ) w w' [] σ' b → C.G S.H w' σ b := fun b hb => by
    rcases hb with (hb | ⟨h2, h3, h4⟩) | ⟨h2, h3, -⟩
    · exact .inl hb
    · exact .inr ⟨h2, by have := hst.le; omega, h4⟩
    · refine .inr ⟨by have := hc.kept.size; omega, h3, fun i x hi e => ?_⟩
      have h5 : σ i < w.heap.size := (hc.blk i x hi).2.2.2.lt
      omega
  refine RelV.le ?_ _ _ hrel
  exact ⟨rfl, (fun _ hi => by cases hi), (fun _ hi => by cases hi), hGG, fun _ _ _ _ h => h, fun _ c t f h => ⟨c, t, f, h, rfl⟩⟩
end
end Go.Fy
