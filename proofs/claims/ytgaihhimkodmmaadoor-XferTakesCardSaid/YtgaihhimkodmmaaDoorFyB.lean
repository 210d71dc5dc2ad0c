/- The engine, 2: abstract states, what they say of a frame and a world; weakest preconditions over them (my own text; any program). -/
import Derived.Test.YtgaihhimkodmmaaDoorFyA
import Derived.Orders
namespace Go.Fy
open Go.RowKit

structure EnvOK (E : RE) : Prop where
  glob : ∀ g x, E.V.glob g = some x → E.G g ∧ ∃ ds, Holds E.w ⟨g, 0, none⟩ 0 ds ∧ Rel E.bare x ds
  sent : ∀ c, c ∈ E.V.codes → (E.V.eaddr c).spot = none ∧ E.G (E.V.eaddr c).block ∧ ∃ s, E.w.cell? (E.V.eaddr c) = some (.string s)
  inj : ∀ c d, c ∈ E.V.codes → d ∈ E.V.codes → E.V.eaddr c = E.V.eaddr d → c = d
  cold : ∀ c, c ∈ E.V.codes → ∃ cs t, E.w.heap[(E.V.eaddr c).block]? = some (.cells cs t (0, 0))

theorem EnvOK.le {E E' : RE} (k : EnvOK E) (h : E.le E') : EnvOK E' := by
  refine ⟨fun g x hx => ?_, fun c hc => ?_, fun c d hc hd he => ?_, fun c hc => ?_⟩
  · rw [h.V] at hx
    obtain ⟨h1, ds, h2, h3⟩ := k.glob g x hx
    exact ⟨h.G _ h1, ds, h2.le (h.old _ h1), Rel.le h.bare _ _ h3⟩
  · rw [h.V] at hc ⊢
    obtain ⟨h1, h2, s, h3⟩ := k.sent c hc
    refine ⟨h1, h.G _ h2, s, ?_⟩
    have e : E.V.eaddr c = ⟨(E.V.eaddr c).block, (E.V.eaddr c).off, none⟩ := by rw [← h1]
    rw [e] at h3 ⊢
    exact h.old _ h2 _ _ h3
  · rw [h.V] at hc hd he
    exact k.inj c d hc hd he
  · rw [h.V] at hc ⊢
    obtain ⟨cs, t, h1⟩ := k.cold c hc
    obtain ⟨c', t', fr', h2, h3⟩ := h.size _ cs t (0, 0) h1
    have h4 := congrArg Prod.snd h3
    dsimp only at h4
    subst h4
    exact ⟨c', t', h2⟩

/-- An own block that lays such a value (there may be room behind it). -/
def Blk (E : RE) (b : Nat) (x : AV) : Prop :=
  ∃ (c : Array Value) (t : TypeId) (fr : Nat × Nat) (cs rest : List Value), E.w.heap[b]? = some (.cells c t fr) ∧ c.toList = cs ++ rest ∧ Rel E x cs ∧
    ∀ o, o < c.size → E.w.frozen? ⟨b, o, none⟩ = false

def getF : List (Nat × AV) → Nat → AV
  | [], _ => .top
  | (d, v) :: r, t => bif Nat.beq d t then v else getF r t
def getH : List (Nat × Option AV) → Nat → Option AV
  | [], _ => none
  | (d, v) :: r, t => bif Nat.beq d t then v else getH r t

theorem getF_cons (d : Nat) (v : AV) (r : List (Nat × AV)) (t : Nat) : getF ((d, v) :: r) t = if d = t then v else getF r t := by
  simp only [getF]
  by_cases h : d = t
  · subst h; simp [Nat.beq_refl]
  · have : Nat.beq d t = false := Bool.eq_false_iff.2 fun e => h (Nat.eq_of_beq_eq_true e)
    simp [this, h]
theorem getH_cons (d : Nat) (v : Option AV) (r : List (Nat × Option AV)) (t : Nat) : getH ((d, v) :: r) t = if d = t then v else getH r t := by
  simp only [getH]
  by_cases h : d = t
  · subst h; simp [Nat.beq_refl]
  · have : Nat.beq d t = false := Bool.eq_false_iff.2 fun e => h (Nat.eq_of_beq_eq_true e)
    simp [this, h]

structure St where
  F : List (Nat × AV)
  H : List (Nat × Option AV)
  nm : List Nat

structure Ctx where
  V : Env
  N : Nat
  w0 : World
  G0 : Nat → Prop
  σ0 : Nat → Nat
  nm0 : List Nat
  own0 : Nat → Prop

def Ctx.G (C : Ctx) (H : List (Nat × Option AV)) (w : World) (σ : Nat → Nat) (b : Nat) : Prop :=
  C.G0 b ∨ (C.w0.heap.size ≤ b ∧ b < w.heap.size ∧ ∀ i x, getH H i = some x → σ i ≠ b)

def Ctx.RE (C : Ctx) (S : St) (w : World) (σ : Nat → Nat) : RE := ⟨C.V, w, σ, S.nm, C.G S.H w σ⟩

structure Kept (C : Ctx) (w : World) : Prop where
  os : w.os = C.w0.os
  tape : w.tape = C.w0.tape
  output : w.output = C.w0.output
  size : C.w0.heap.size ≤ w.heap.size
  block : ∀ b, b < C.w0.heap.size → ¬ C.own0 b → w.heap[b]? = C.w0.heap[b]?
  cells : ∀ (b : Nat) (c : Array Value) (t : TypeId) (fr : Nat × Nat), C.w0.heap[b]? = some (.cells c t fr) → ∃ (c' : Array Value) (t' : TypeId) (fr' : Nat × Nat), w.heap[b]? = some (.cells c' t' fr') ∧ (c.size, fr) = (c'.size, fr')

structure Ctx.OK (C : Ctx) : Prop where
  lt : ∀ b, C.G0 b → b < C.w0.heap.size
  not : ∀ b, C.G0 b → ¬ C.own0 b

/-- The mark that a range over a function leaves among a frame's deferred calls. -/
def mark (D : Nat) : Deferred := { target := .collected D, args := #[] }
/-- Marks alone, each with a block of its own, made since the function began. -/
def Marks (n : Nat) (w : World) (ds : List Deferred) : Prop := ∃ Ds : List Nat, ds = Ds.map mark ∧ Ds.Nodup ∧ ∀ D, D ∈ Ds → n ≤ D ∧ w.heap[D]? = some (.deferred (some []))
theorem Marks.nil (n : Nat) (w : World) : Marks n w [] := ⟨[], rfl, List.nodup_nil, fun _ h => by cases h⟩
theorem Marks.mono {n : Nat} {w w' : World} {ds : List Deferred} (h : Marks n w ds) (k : ∀ D, n ≤ D → w.heap[D]? = some (.deferred (some [])) → w'.heap[D]? = some (.deferred (some []))) : Marks n w' ds := by
  obtain ⟨Ds, h1, h2, h3⟩ := h
  exact ⟨Ds, h1, h2, fun D hD => ⟨(h3 D hD).1, k D (h3 D hD).1 (h3 D hD).2⟩⟩

structure ConcS (C : Ctx) (S : St) (a : Act) (w : World) (σ : Nat → Nat) : Prop where
  ok : C.OK
  defers : Marks C.w0.heap.size w a.defers
  size : a.tmps.size = C.N
  kept : Kept C w
  σ0 : ∀ i, i ∈ C.nm0 → σ i = C.σ0 i ∧ i ∈ S.nm
  inj : ∀ i j x y, getH S.H i = some x → getH S.H j = some y → σ i = σ j → i = j
  blk : ∀ i x, getH S.H i = some x → i ∈ S.nm ∧ ¬ C.G0 (σ i) ∧ (C.own0 (σ i) ∨ C.w0.heap.size ≤ σ i) ∧ Blk (C.RE S w σ) (σ i) x
  env : EnvOK (C.RE S w σ)
  slot : ∀ t, RelV (C.RE S w σ) (getF S.F t) (a.tmps.getD t undef)

def Conc (C : Ctx) (S : St) (a : Act) (w : World) : Prop := ∃ σ, ConcS C S a w σ

/-! ### Control -/

def AWP (C : Ctx) (c : Code) (Q : Exit → St → Prop) (S : St) : Prop :=
  ∀ a w, Conc C S a w → c.wp C.V.P (fun e a' w' => ∃ S', Conc C S' a' w' ∧ Q e S') a w

def AThen (K : St → Prop) (Q : Exit → St → Prop) : Exit → St → Prop
  | .normal, S => K S
  | e, S => Q e S
def AIn (id : Nat) (Q : Exit → St → Prop) : Exit → St → Prop
  | .exit i, S => if i = id then Q .normal S else Q (.exit i) S
  | e, S => Q e S

theorem AWP.mono {C : Ctx} {c : Code} {Q Q' : Exit → St → Prop} {S : St} (h : AWP C c Q S) (hq : ∀ e S, Q e S → Q' e S) : AWP C c Q' S :=
  fun a w hc => wp_mono (h a w hc) fun _ _ _ ⟨S', h1, h2⟩ => ⟨S', h1, hq _ _ h2⟩

theorem awp_skip {C : Ctx} {Q : Exit → St → Prop} {S : St} (h : Q .normal S) : AWP C .skip Q S := fun _ _ hc => wp_skip ⟨S, hc, h⟩
theorem awp_ret {C : Ctx} {Q : Exit → St → Prop} {S : St} (h : Q .ret S) : AWP C .ret Q S := fun _ _ hc => wp_ret ⟨S, hc, h⟩
theorem awp_exit {C : Ctx} {Q : Exit → St → Prop} {S : St} {id : Nat} (h : Q (.exit id) S) : AWP C (.exit id) Q S := fun _ _ hc => wp_exit ⟨S, hc, h⟩
theorem awp_seq {C : Ctx} {Q : Exit → St → Prop} {S : St} {x y : Code} (h : AWP C x (AThen (AWP C y Q) Q) S) : AWP C (.seq x y) Q S :=
  fun a w hc => wp_seq (wp_mono (h a w hc) fun e a' w' ⟨S', h1, h2⟩ => by
    cases e <;> first
      | exact h2 a' w' h1
      | exact ⟨S', h1, h2⟩)
theorem awp_block {C : Ctx} {Q : Exit → St → Prop} {S : St} {id : Nat} {c : Code} (h : AWP C c (AIn id Q) S) : AWP C (.block id c) Q S :=
  fun a w hc => wp_block (wp_mono (h a w hc) fun e a' w' ⟨S', h1, h2⟩ => by
    cases e <;> first
      | exact ⟨S', h1, h2⟩
      | (simp only [Exit.inBlock, AIn] at *
         split
         · rename_i he; rw [if_pos he] at h2; exact ⟨S', h1, h2⟩
         · rename_i he; rw [if_neg he] at h2; exact ⟨S', h1, h2⟩))

/-- Where a state says less. -/
def St.imp (C : Ctx) (S S' : St) : Prop := ∀ a w, Conc C S a w → Conc C S' a w
theorem AWP.imp {C : Ctx} {c : Code} {Q : Exit → St → Prop} {S S' : St} (h : S.imp C S') (k : AWP C c Q S') : AWP C c Q S := fun a w hc => k a w (h a w hc)

theorem awp_loop {C : Ctx} {Q : Exit → St → Prop} {S : St} {c : Code} {ι : Type} (I : ι → St) (μ : ι → Nat) (i₀ : ι) (h₀ : S.imp C (I i₀))
    (round : ∀ i, AWP C c (AThen (fun S' => ∃ j, S'.imp C (I j) ∧ μ j < μ i) Q) (I i)) : AWP C (.loop c) Q S := by
  intro a w hc b k cs
  have key : ∀ n i a w, μ i = n → Conc C (I i) a w →
      ∃ e a' w', (∃ S', Conc C S' a' w' ∧ Q e S') ∧ Arrives C.V.P (lone (b.at a (.code c :: .inLoop c :: k)) cs w) b k cs e a' w' := by
    intro n
    induction n using Nat.strongRecOn with
    | _ n ih =>
      intro i a w hn hI
      obtain ⟨e, a₁, w₁, ⟨S', hS, hq⟩, harr⟩ := round i a w hI b (.inLoop c :: k) cs
      cases e with
      | normal =>
        obtain ⟨j, hj, hlt⟩ := hq
        obtain ⟨e₂, a₂, w₂, hq₂, harr₂⟩ := ih (μ j) (hn ▸ hlt) j a₁ w₁ rfl (hj _ _ hS)
        exact ⟨e₂, a₂, w₂, hq₂, .of_steps (Steps.trans harr (.one step_inLoop)) harr₂⟩
      | exit id => exact ⟨_, a₁, w₁, ⟨S', hS, hq⟩, .pass (x := .inLoop c) rfl (fun _ _ => .inl (by simp)) harr⟩
      | goto l => exact ⟨_, a₁, w₁, ⟨S', hS, hq⟩, .pass (x := .inLoop c) rfl (fun _ _ => .inl (by simp)) harr⟩
      | ret => exact ⟨_, a₁, w₁, ⟨S', hS, hq⟩, .pass (x := .inLoop c) rfl (fun _ _ => .inl (by simp)) harr⟩
      | panic ch => exact ⟨_, a₁, w₁, ⟨S', hS, hq⟩, .pass (x := .inLoop c) rfl (fun _ _ => .inl (by simp)) harr⟩
      | outgrown => exact ⟨_, a₁, w₁, ⟨S', hS, hq⟩, .pass (x := .inLoop c) rfl (fun _ _ => .inl (by simp)) harr⟩
  obtain ⟨e, a', w', hq, harr⟩ := key _ i₀ a w rfl (h₀ _ _ hc)
  exact ⟨e, a', w', hq, .of_steps (.one step_loop) harr⟩

/-! ### Operands -/

def constCell : Value → AV
  | .bool b => .bool b
  | .int k n => .int k n
  | .string s => .str s.data.toList
  | .nilIface => .err .nil
  | .slice none 0 0 => .sl 1 true 0 fun _ => .top
  | .agg _ => .top
  | .tuple _ => .top
  | v => .val v

def constAV : Value → AV
  | .agg cs => if cs.toList.all Value.oneCell' then .agg (cs.toList.map constCell) else .top
  | v => constCell v

theorem constCell_rel (E : RE) (v : Value) (hv : v.oneCell' = true) : Rel E (constCell v) [v] := by
  unfold constCell
  split <;> simp [Rel, Value.oneCell'] at * <;> first
    | exact hv
    | simp [ErrRel]
    | exact ⟨none, 0, ⟨rfl, rfl⟩, rfl, by simp, by simp⟩
    | (refine ⟨none, 0, ?_⟩; simp; done)
    | (refine ⟨none, ⟨0, ?_⟩, ?_⟩ <;> simp; done)

theorem constCell_one (v : Value) : (constCell v).one = true := by unfold constCell; split <;> rfl

theorem constCells_rel (E : RE) : ∀ (l : List Value), (∀ v ∈ l, v.oneCell' = true) → RelL E (l.map constCell) l
  | [], _ => by simp [RelL]
  | v :: l, h => by
    simp only [List.map_cons, RelL]
    exact ⟨[v], l, rfl, constCell_rel E v (h v (by simp)), constCells_rel E l fun u hu => h u (by simp [hu])⟩

theorem Rel.toV {E : RE} {x : AV} {v : Value} (h : Rel E x [v]) (hx : x.one = true) : RelV E x v := by
  cases x <;> simp only [AV.one] at hx <;> first
    | (cases hx; done)
    | (simp only [RelV]; done)
    | (simp only [RelV]; exact h)
    | (simp only [RelV]; simpa [Rel] using h)
theorem RelV.toRel {E : RE} {x : AV} {v : Value} (h : RelV E x v) (hx : x.one = true) (ht : x ≠ .top) : Rel E x [v] := by
  cases x <;> simp only [AV.one] at hx <;> first
    | (cases hx; done)
    | (exact absurd rfl ht)
    | (simp only [RelV] at h; exact h)
    | (simp only [RelV] at h; simpa [Rel] using h)

def ev (V : Env) (F : List (Nat × AV)) : Operand → AV
  | .tmp t => getF F t
  | .const v => constAV v
  | .global g => match V.glob g with
    | some x => .fptr x
    | none => .top
  | .func f => .fn f []

theorem ev_rel {C : Ctx} {S : St} {a : Act} {w : World} {σ : Nat → Nat} (h : ConcS C S a w σ) (x : Operand) : RelV (C.RE S w σ) (ev C.V S.F x) (a.eval x) := by
  cases x with
  | tmp t => exact h.slot t
  | const v =>
    show RelV _ (constAV v) v
    unfold constAV
    split
    · rename_i cs
      split
      · rename_i hc
        simp only [RelV]
        exact ⟨cs, rfl, constCells_rel _ _ fun v hv => List.all_eq_true.1 hc v hv⟩
      · simp [RelV]
    · rename_i hv
      cases hv1 : v.oneCell' with
      | true =>
        exact Rel.toV (constCell_rel _ v hv1) (constCell_one v)
      | false => cases v <;> simp [constCell, RelV, Value.oneCell'] at *
  | global g =>
    simp only [ev]
    cases hx : C.V.glob g with
    | some x =>
      obtain ⟨h1, ds, h2, h3⟩ := h.env.glob g x hx
      simp only [RelV, Rel]
      exact ⟨_, rfl, rfl, h1, ds, h2, h3⟩
    | none => simp only [RelV]
  | func f =>
    show RelV _ (AV.fn f []) (.func (.func f) #[] #[])
    simp [RelV, Rel, RelC]

/-! ### Steps -/

/-- What an operation does to a state. -/
structure Upd where
  v : AV
  H : List (Nat × Option AV) := []
  nm : List Nat := []

def St.upd (S : St) (dst : Option Tmp) (D : Upd) : St :=
  ⟨match dst with | some d => (d, D.v) :: S.F | none => S.F, D.H ++ S.H, D.nm ++ S.nm⟩

/-- A slot is written. -/
theorem ConcS.put {C : Ctx} {S : St} {a : Act} {w : World} {σ : Nat → Nat} (h : ConcS C S a w σ) (dst : Option Tmp) (v : AV) (u : Value)
    (hd : ∀ d, dst = some d → d < C.N) (hv : RelV (C.RE S w σ) v u) : ConcS C (S.upd dst ⟨v, [], []⟩) (a.put dst u) w σ := by
  cases dst with
  | none => exact h
  | some d =>
    refine ⟨h.ok, h.defers, by simp [Act.put, h.size], h.kept, h.σ0, h.inj, h.blk, h.env, fun t => ?_⟩
    have hlt : d < a.tmps.size := by rw [h.size]; exact hd d rfl
    show RelV (C.RE S w σ) (getF ((d, v) :: S.F) t) ((a.tmps.setIfInBounds d u).getD t undef)
    rw [getF_cons]
    by_cases e : d = t
    · subst e
      rw [if_pos rfl]
      simpa [Array.getD, hlt] using hv
    · rw [if_neg e]
      have := h.slot t
      simpa [Array.getD_eq_getD_getElem?, Array.getElem?_setIfInBounds_ne e] using this

/-- An operation whose value hangs on its operands and on memory, and which leaves memory alone. -/
def OpP (V : Env) (o : Oper) (ρ : Operand → AV) (η : Nat → Option AV) (v : AV) : Prop :=
  ∀ (E : RE) (ε : Operand → Value), E.V = V → EnvOK E → (∀ x, x ∈ o.op.operands → RelV E (ρ x) (ε x)) → (∀ i y, η i = some y → i ∈ E.nm ∧ Blk E (E.σ i) y) →
    ∃ n, ((execOp ε o).run V.P E.w = .ok n E.w) ∧ ((∃ u, n = .value u ∧ RelV E v u) ∨ (n = .skip ∧ v = .top))

/-- From state to state. -/
def ActS (C : Ctx) (o : Oper) (S S' : St) : Prop :=
  ∀ a w, Conc C S a w → o.wp C.V.P a w (fun a' w' => Conc C S' a' w') (fun _ _ _ => False)

def Sub (V : Env) (x y : AV) : Prop := ∀ (E : RE) (v : Value), E.V = V → RelV E x v → RelV E y v
theorem Sub.refl (V : Env) (x : AV) : Sub V x x := fun _ _ _ h => h

def OpR (C : Ctx) (o : Oper) (ρ : Operand → AV) (η : Nat → Option AV) (D : Upd) : Prop :=
  (∀ d, o.dst = some d → d < C.N) → ∀ S : St, (∀ x, x ∈ o.op.operands → Sub C.V (ev C.V S.F x) (ρ x)) → (∀ i y, η i = some y → getH S.H i = some y) →
    (∀ n, n ∈ D.nm → n ∉ S.nm) → ActS C o S (S.upd o.dst D)

theorem OpP.r {C : Ctx} {o : Oper} {ρ : Operand → AV} {η : Nat → Option AV} {v : AV} (h : OpP C.V o ρ η v) : OpR C o ρ η ⟨v, [], []⟩ := by
  intro hd S hρ hη _ a w ⟨σ, hc⟩
  obtain ⟨n, h1, h2⟩ := h (C.RE S w σ) a.eval rfl hc.env (fun x hx => hρ x hx _ _ rfl (ev_rel hc x)) (fun i y hy => ⟨(hc.blk i y (hη i y hy)).1, (hc.blk i y (hη i y hy)).2.2.2⟩)
  have h1' : (execOp a.eval o).run C.V.P w = .ok n w := h1
  unfold Oper.wp
  rw [h1']
  rcases h2 with ⟨u, rfl, hu⟩ | ⟨rfl, rfl⟩
  · exact ⟨σ, hc.put o.dst v u hd hu⟩
  · exact ⟨σ, hc.put o.dst .top undef hd (by simp [RelV])⟩

/-- One operation of a region that doesn't draw. -/
def AOp (C : Ctx) (ops : Array Oper) (o : Oper) (K : St → Prop) (S : St) : Prop :=
  (∀ d, o.dst = some d → d < C.N) → ∀ a w, Conc C S a w →
    if Region.wanted o (yielded ops a.tmps) then o.wp C.V.P a w (fun a' w' => ∃ S', Conc C S' a' w' ∧ K S') (fun _ _ _ => False)
    else ∃ S', Conc C S' (a.put o.dst undef) w ∧ K S'

def AL (C : Ctx) (ops : Array Oper) : List Oper → (St → Prop) → St → Prop
  | [], K, S => K S
  | o :: r, K, S => AOp C ops o (AL C ops r K) S

theorem LetsOut.false {Q : Exit → Act → World → Prop} (h : ∀ a w, ¬ Q .outgrown a w) : ¬ LetsOut Q := fun ⟨a, w, k⟩ => h a w k

theorem Oper.wp_nopanic {P : Program} {o : Oper} {a : Act} {w : World} {K : Act → World → Prop} (Q : Exit → Act → World → Prop) (h : o.wp P a w K (fun _ _ _ => False)) : o.wp P a w K Q := by
  unfold Oper.wp at *
  generalize (execOp a.eval o).run P w = r at *
  cases r with
  | ok n w' =>
    cases n <;> simp only [Oper.upon] at h ⊢ <;> first
      | exact h
      | exact Calls.mono h (fun e w'' he => by cases e <;> first | exact he | exact he.elim | (obtain ⟨_, _, k⟩ := he; exact k.elim))
  | halt x w' => cases x <;> simp only [Oper.upon] at h ⊢

theorem al_ops {C : Ctx} {ops : Array Oper} {Q : Exit → St → Prop} : ∀ (l : List Oper) (k : Nat) (S : St), (∀ j, l[j]? = ops[k + j]?) → (∀ o ∈ l, ∀ d, o.dst = some d → d < C.N) →
    AL C ops l (Q .normal) S → ∀ a w, Conc C S a w → wpOps C.V.P ops (fun e a' w' => ∃ S', Conc C S' a' w' ∧ Q e S') (List.range' k l.length) a w
  | [], k, S, _, _, h, a, w, hc => by simpa [wpOps] using ⟨S, hc, h⟩
  | o :: l, k, S, hl, hd, h, a, w, hc => by
    have h0 : ops[k]? = some o := by simpa using (hl 0).symm
    have ih := fun S' (hk : AL C ops l (Q .normal) S') a' w' (hc' : Conc C S' a' w') => al_ops l (k + 1) S' (fun j => by have := hl (j + 1); simpa [Nat.add_assoc, Nat.add_comm 1 j] using this)
      (fun o' ho' => hd o' (by simp [ho'])) hk a' w' hc'
    have h1 := h (hd o (by simp)) a w hc
    simp only [List.length_cons, List.range'_succ, wpOps, h0]
    split
    · rename_i hw
      rw [if_pos hw] at h1
      left
      exact Oper.wp_nopanic _ (Oper.wp_mono (fun a' w' ⟨S', h2, h3⟩ => ih S' h3 a' w' h2) h1)
    · rename_i hw
      rw [if_neg hw] at h1
      obtain ⟨S', h2, h3⟩ := h1
      exact ih S' h3 _ _ h2

theorem awp_region {C : Ctx} {Q : Exit → St → Prop} {S : St} {id : Nat} {ops : List Oper} (hd : (ops.all fun o => o.dst.all (· < C.N)) = true)
    (h : AL C ops.toArray ops (Q .normal) S) : AWP C (.region id ops.toArray false) Q S := by
  intro a w hc
  refine wp_region ?_
  have := al_ops (C := C) (ops := ops.toArray) (Q := Q) ops 0 S (fun j => by simp) (fun o ho d he => by have := List.all_eq_true.1 hd o ho; simpa [he] using this) h a w hc
  simpa [List.range_eq_range'] using this

theorem aop {C : Ctx} {ops : Array Oper} {o : Oper} {K : St → Prop} {S : St} (D : Upd) (hg : o.guard = none) (h : OpR C o (ev C.V S.F) (getH S.H) D)
    (hn : ∀ n, n ∈ D.nm → n ∉ S.nm) (k : K (S.upd o.dst D)) : AOp C ops o K S := by
  intro hd a w hc
  rw [if_pos (by simp [Region.wanted, hg])]
  exact Oper.wp_mono (fun a' w' h' => ⟨_, h', k⟩) (h hd S (fun x _ => Sub.refl _ _) (fun _ _ h => h) hn a w hc)

/-- Without a change of memory. -/
theorem aopP {C : Ctx} {ops : Array Oper} {o : Oper} {K : St → Prop} {S : St} (v : AV) (hg : o.guard = none) (h : OpP C.V o (ev C.V S.F) (getH S.H) v)
    (k : K (S.upd o.dst ⟨v, [], []⟩)) : AOp C ops o K S := aop ⟨v, [], []⟩ hg h.r (fun n h => by cases h) k

/-! ### Guards -/

mutual
def AV.un : AV → AV
  | .gd _ x => x.un
  | x => x
def AV.gs : AV → Bool
  | .gd g x => g && x.gs
  | _ => true
end
theorem Sub.un {V : Env} : ∀ (x : AV), x.gs = true → Sub V x x.un
  | .gd g x, h => fun E v hE hv => by
    simp only [AV.gs, Bool.and_eq_true] at h
    simp only [AV.un]
    simp only [RelV] at hv
    exact Sub.un x h.2 E v hE (hv.1 h.1)
  | .top, _ | .bool _, _ | .int _ _, _ | .str _, _ | .val _, _ | .err _, _ | .sl _ _ _ _, _ | .fptr _, _ | .ptr _ _ _, _ | .osl _ _ _ _ _, _ | .agg _, _ | .arr _ _ _, _ | .tup _, _ | .fn _ _, _ => fun _ _ _ h => h

def AV.guard : AV → Bool → Option Bool
  | .bool b, want => some (b == want)
  | .gd g x, want => (x.guard want).map (g && ·)
  | _, _ => none

theorem guard_spec {E : RE} : ∀ (x : AV) (want c : Bool) (v : Value), x.guard want = some c → RelV E x v → ((match v with | .bool b => some b | _ => none) == some want) = c
  | .bool b, want, c, v, h, hv => by
    simp only [AV.guard, Option.some.injEq] at h
    simp only [RelV] at hv
    subst hv; subst h
    cases b <;> cases want <;> rfl
  | .gd g x, want, c, v, h, hv => by
    simp only [AV.guard, Option.map_eq_some_iff] at h
    obtain ⟨c', h1, h2⟩ := h
    simp only [RelV] at hv
    cases g with
    | true => rw [← h2]; simpa using guard_spec x want c' v h1 (hv.1 rfl)
    | false => rw [← h2, hv.2 rfl]; simp [undef]
  | .top, _, _, _, h, _ | .int _ _, _, _, _, h, _ | .str _, _, _, _, h, _ | .val _, _, _, _, h, _ | .err _, _, _, _, h, _ | .sl _ _ _ _, _, _, _, h, _ | .fptr _, _, _, _, h, _
  | .ptr _ _ _, _, _, _, h, _ | .osl _ _ _ _ _, _, _, _, h, _ | .agg _, _, _, _, h, _ | .arr _ _ _, _, _, _, h, _ | .tup _, _, _, _, h, _ | .fn _ _, _, _, _, h, _ => by simp [AV.guard] at h

theorem wanted_spec {C : Ctx} {S : St} {a : Act} {w : World} {σ : Nat → Nat} (hc : ConcS C S a w σ) {ops : Array Oper} {o : Oper} {j d : Nat} {want c : Bool}
    (hg : o.guard = some (j, want)) (hj : (ops[j]?).bind (·.dst) = some d) (hgd : (getF S.F d).guard want = some c) : Region.wanted o (yielded ops a.tmps) = c := by
  simp only [Region.wanted, hg, yielded, hj, Option.bind_some]
  have h1 := hc.slot d
  have h2 := guard_spec _ want c _ hgd h1
  rw [← h2]
  rcases Nat.lt_or_ge d a.tmps.size with hlt | hge
  · simp [Array.getD, hlt]
    cases a.tmps[d] <;> rfl
  · simp [Array.getD, Nat.not_lt.2 hge, undef]

/-- An operation under a guard: it leaves memory alone. -/
theorem aopG {C : Ctx} {ops : Array Oper} {o : Oper} {K : St → Prop} {S : St} (v : AV) {j d : Nat} {want : Bool} (c : Bool) (hg : o.guard = some (j, want))
    (hj : (ops[j]?).bind (·.dst) = some d) (hgd : (getF S.F d).guard want = some c)
    (hs : c = true → (o.op.operands.toList.all fun x => (ev C.V S.F x).gs) = true) (h : c = true → OpP C.V o (fun x => (ev C.V S.F x).un) (getH S.H) v)
    (k : K (S.upd o.dst ⟨.gd c v, [], []⟩)) : AOp C ops o K S := by
  intro hd a w ⟨σ, hc⟩
  rw [wanted_spec hc hg hj hgd]
  cases c with
  | false =>
    rw [if_neg (by simp)]
    exact ⟨_, ⟨σ, hc.put o.dst (.gd false v) undef hd (by simp [RelV])⟩, k⟩
  | true =>
    rw [if_pos rfl]
    have h1 := (h rfl).r hd S (fun x hx => Sub.un _ (by have := List.all_eq_true.1 (hs rfl) x (by simpa using hx); exact this)) (fun _ _ h => h) (fun n h => by cases h) a w ⟨σ, hc⟩
    refine Oper.wp_mono (fun a' w' h' => ⟨_, ?_, k⟩) h1
    obtain ⟨σ', hc'⟩ := h'
    cases hdst : o.dst with
    | none => rw [hdst] at hc'; exact ⟨σ', hc'⟩
    | some d' =>
      rw [hdst] at hc'
      refine ⟨σ', ⟨hc'.ok, hc'.defers, hc'.size, hc'.kept, hc'.σ0, hc'.inj, hc'.blk, hc'.env, fun t => ?_⟩⟩
      have := hc'.slot t
      simp only [St.upd] at this ⊢
      rw [getF_cons] at this ⊢
      split
      · rename_i e; rw [if_pos e] at this; simp only [RelV]; exact ⟨fun _ => this, fun h => by cases h⟩
      · rename_i e; rw [if_neg e] at this; exact this
end Go.Fy
