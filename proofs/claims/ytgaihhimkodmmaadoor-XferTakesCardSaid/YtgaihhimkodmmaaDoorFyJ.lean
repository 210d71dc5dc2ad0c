/- The engine, 10: steps in the form in which a program prints them (my own text; any program). -/
import Derived.Test.YtgaihhimkodmmaaDoorFyI
import Derived.WideLaws
set_option linter.unusedSimpArgs false
namespace Go.Fy
open Go.RowKit

theorem awp_cond {C : Ctx} {c : Operand} {x y : Code} {Q : Exit → St → Prop} {S : St} (b : Bool) (hc : ev C.V S.F c = .bool b) (ht : b = true → AWP C x Q S) (hf : b = false → AWP C y Q S) : AWP C (.cond c x y) Q S := by
  intro a w ⟨σ, h⟩
  have h1 := ev_rel h c
  rw [hc] at h1
  simp only [RelV] at h1
  cases b with
  | true => exact wp_cond_true h1 (ht rfl a w ⟨σ, h⟩)
  | false => exact wp_cond_false h1 (hf rfl a w ⟨σ, h⟩)

section
variable {C : Ctx} {ops : Array Oper} {o : Oper} {r : List Oper} {K : St → Prop} {F : List (Nat × AV)} {H : List (Nat × Option AV)} {nm : List Nat}

theorem sP {d : Nat} {v : AV} (h : OpP C.V o (ev C.V F) (getH H) v) (hd : o.dst = some d) (hg : o.guard = none) (k : AL C ops r K ⟨(d, v) :: F, H, nm⟩) : AL C ops (o :: r) K ⟨F, H, nm⟩ :=
  aopP v hg h (by simp only [St.upd, hd]; exact k)
theorem sR {d : Nat} {v : AV} {Hd : List (Nat × Option AV)} {nd : List Nat} (h : OpR C o (ev C.V F) (getH H) ⟨v, Hd, nd⟩) (hd : o.dst = some d) (hg : o.guard = none)
    (hn : (nd.all fun n => !nm.contains n) = true) (k : AL C ops r K ⟨(d, v) :: F, Hd ++ H, nd ++ nm⟩) : AL C ops (o :: r) K ⟨F, H, nm⟩ :=
  aop ⟨v, Hd, nd⟩ hg h (fun n hn' => by have := List.all_eq_true.1 hn n hn'; simpa using this) (by simp only [St.upd, hd]; exact k)
theorem sR0 {v : AV} {Hd : List (Nat × Option AV)} {nd : List Nat} (h : OpR C o (ev C.V F) (getH H) ⟨v, Hd, nd⟩) (hd : o.dst = none) (hg : o.guard = none)
    (hn : (nd.all fun n => !nm.contains n) = true) (k : AL C ops r K ⟨F, Hd ++ H, nd ++ nm⟩) : AL C ops (o :: r) K ⟨F, H, nm⟩ :=
  aop ⟨v, Hd, nd⟩ hg h (fun n hn' => by have := List.all_eq_true.1 hn n hn'; simpa using this) (by simp only [St.upd, hd]; exact k)

/-- Its guards hold. -/
def AV.gsP : AV → Prop
  | .gd g x => g = true ∧ x.gsP
  | _ => True
theorem gsP_gs : ∀ x : AV, x.gsP → x.gs = true
  | .gd g x, h => by simp only [AV.gsP] at h; simp [AV.gs, h.1, gsP_gs x h.2]
  | .top, _ | .bool _, _ | .int _ _, _ | .str _, _ | .val _, _ | .err _, _ | .sl _ _ _ _, _ | .fptr _, _ | .ptr _ _ _, _ | .osl _ _ _ _ _, _ | .agg _, _ | .arr _ _ _, _ | .tup _, _ | .fn _ _, _ => rfl
def gsL (V : Env) (F : List (Nat × AV)) : List Operand → Prop
  | [] => True
  | x :: l => (ev V F x).gsP ∧ gsL V F l
theorem gsL_all {V : Env} {F : List (Nat × AV)} : ∀ l, gsL V F l → (l.all fun x => (ev V F x).gs) = true
  | [], _ => rfl
  | x :: l, h => by simp only [gsL] at h; simp [gsP_gs _ h.1, gsL_all l h.2]

theorem sG {d : Nat} {v : AV} {j e : Nat} {want : Bool} (c : Bool) (hg : o.guard = some (j, want)) (hj : (ops[j]?).bind (·.dst) = some e) (hgd : (getF F e).guard want = some c) (hd : o.dst = some d)
    (hs : c = true → gsL C.V F o.op.operands.toList) (h : c = true → OpP C.V o (fun x => (ev C.V F x).un) (getH H) v) (k : AL C ops r K ⟨(d, .gd c v) :: F, H, nm⟩) : AL C ops (o :: r) K ⟨F, H, nm⟩ :=
  aopG v c hg hj hgd (fun hc => gsL_all _ (hs hc)) h (by simp only [St.upd, hd]; exact k)

/-- A guarded operation of which a contract speaks. -/
theorem sGR {d : Nat} {v : AV} {j e : Nat} {want : Bool} (c : Bool) (hg : o.guard = some (j, want)) (hj : (ops[j]?).bind (·.dst) = some e) (hgd : (getF F e).guard want = some c) (hd : o.dst = some d)
    (hs : c = true → gsL C.V F o.op.operands.toList) (h : c = true → OpR C o (fun x => (ev C.V F x).un) (getH H) ⟨v, [], []⟩) (k : AL C ops r K ⟨(d, .gd c v) :: F, H, nm⟩) : AL C ops (o :: r) K ⟨F, H, nm⟩ := by
  intro hdl a w ⟨σ, hc⟩
  rw [wanted_spec hc hg hj hgd]
  have hk : AL C ops r K (St.upd ⟨F, H, nm⟩ o.dst ⟨.gd c v, [], []⟩) := by simp only [St.upd, hd]; exact k
  cases c with
  | false =>
    rw [if_neg (by simp)]
    exact ⟨_, ⟨σ, hc.put o.dst (.gd false v) undef hdl (by simp [RelV])⟩, hk⟩
  | true =>
    rw [if_pos rfl]
    have h1 := (h rfl) hdl ⟨F, H, nm⟩ (fun x hx => Sub.un _ (by have := List.all_eq_true.1 (gsL_all _ (hs rfl)) x (by simpa using hx); exact this)) (fun _ _ h => h) (fun n h => by cases h) a w ⟨σ, hc⟩
    refine Oper.wp_mono (fun a' w' h' => ⟨_, ?_, hk⟩) h1
    obtain ⟨σ', hc'⟩ := h'
    rw [hd] at hc' ⊢
    refine ⟨σ', ⟨hc'.ok, hc'.defers, hc'.size, hc'.kept, hc'.σ0, hc'.inj, hc'.blk, hc'.env, fun t => ?_⟩⟩
    have := hc'.slot t
    simp only [St.upd] at this ⊢
    rw [getF_cons] at this ⊢
    split
    · rename_i e'; rw [if_pos e'] at this; simp only [RelV]; exact ⟨fun _ => this, fun h => by cases h⟩
    · rename_i e'; rw [if_neg e'] at this; exact this

theorem gsP_un {E : RE} {x : AV} {v : Value} (h : x.gsP) (hv : RelV E x v) : RelV E x.un v := Sub.un (V := E.V) x (gsP_gs x h) E v rfl hv

theorem pick_run {a : Act} {w : World} {σ : Nat → Nat} {S : St} (hc : ConcS C S a w σ) {c x y : Operand} (ho : o.op = .pick c x y) {t p q : Bool} (hct : (ev C.V S.F c).un = .bool t) (hcg : (ev C.V S.F c).gsP)
    (hx : (ev C.V S.F x).un = .bool p) (hy : (ev C.V S.F y).un = .bool q) (hgx : t = true → (ev C.V S.F x).gsP) (hgy : t = false → (ev C.V S.F y).gsP) :
    (execOp a.eval o).run C.V.P w = .ok (.value (.bool (cond t p q))) w := by
  have h1 := gsP_un hcg (ev_rel hc c)
  rw [hct] at h1; simp only [RelV] at h1
  cases t with
  | true =>
    have h2 := gsP_un (hgx rfl) (ev_rel hc x)
    rw [hx] at h2; simp only [RelV] at h2
    simp only [execOp, ho, h1, h2]; rfl
  | false =>
    have h2 := gsP_un (hgy rfl) (ev_rel hc y)
    rw [hy] at h2; simp only [RelV] at h2
    simp only [execOp, ho, h1, h2]; rfl

theorem sPick {d : Nat} {c x y : Operand} (ho : o.op = .pick c x y) (hd : o.dst = some d) (hg : o.guard = none) {t p q : Bool} (hct : (ev C.V F c).un = .bool t) (hcg : (ev C.V F c).gsP)
    (hx : (ev C.V F x).un = .bool p) (hy : (ev C.V F y).un = .bool q) (hgx : t = true → (ev C.V F x).gsP) (hgy : t = false → (ev C.V F y).gsP)
    (k : AL C ops r K ⟨(d, .bool (cond t p q)) :: F, H, nm⟩) : AL C ops (o :: r) K ⟨F, H, nm⟩ := by
  intro hdl a w ⟨σ, hc⟩
  rw [if_pos (by simp [Region.wanted, hg])]
  unfold Oper.wp
  rw [pick_run hc ho hct hcg hx hy hgx hgy]
  have := hc.put o.dst (.bool (cond t p q)) (.bool (cond t p q)) hdl (by simp [RelV])
  refine ⟨_, ⟨σ, this⟩, ?_⟩
  simp only [St.upd, hd]; exact k

theorem sPickG {d : Nat} {c x y : Operand} {j e : Nat} {want : Bool} (g : Bool) (ho : o.op = .pick c x y) (hd : o.dst = some d) (hg : o.guard = some (j, want)) (hj : (ops[j]?).bind (·.dst) = some e)
    (hgd : (getF F e).guard want = some g) {t p q : Bool} (hct : (ev C.V F c).un = .bool t) (hcg : g = true → (ev C.V F c).gsP) (hx : (ev C.V F x).un = .bool p) (hy : (ev C.V F y).un = .bool q)
    (hgx : g = true → t = true → (ev C.V F x).gsP) (hgy : g = true → t = false → (ev C.V F y).gsP) (k : AL C ops r K ⟨(d, .gd g (.bool (cond t p q))) :: F, H, nm⟩) : AL C ops (o :: r) K ⟨F, H, nm⟩ := by
  intro hdl a w ⟨σ, hc⟩
  rw [wanted_spec hc hg hj hgd]
  cases g with
  | false =>
    rw [if_neg (by simp)]
    have := hc.put o.dst (.gd false (.bool (cond t p q))) undef hdl (by simp [RelV])
    rw [hd] at this ⊢
    exact ⟨_, ⟨σ, this⟩, k⟩
  | true =>
    rw [if_pos rfl]
    unfold Oper.wp
    rw [pick_run hc ho hct (hcg rfl) hx hy (hgx rfl) (hgy rfl)]
    have := hc.put o.dst (.gd true (.bool (cond t p q))) (.bool (cond t p q)) hdl (by simp [RelV])
    refine ⟨_, ⟨σ, this⟩, ?_⟩
    simp only [St.upd, hd]; exact k
end

theorem ev_glob {V : Env} {F : List (Nat × AV)} {g : Nat} {x : AV} (h : V.glob g = some x) : ev V F (.global g) = .fptr x := by simp only [ev, h]

theorem athen_ret {K : St → Prop} {Q : Exit → St → Prop} {S : St} (h : Q .ret S) : AThen K Q .ret S := h
theorem ain_ret {id : Nat} {Q : Exit → St → Prop} {S : St} (h : Q .ret S) : AIn id Q .ret S := h

def ErrD.isNil : ErrD → Bool
  | .nil => true
  | _ => false

/-- err == nil, err != nil: the literal nil on the right. -/
theorem opp_errNil {V : Env} {o : Oper} {ρ : Operand → AV} {η : Nat → Option AV} {op : BinOp} {t u : TypeId} {x : Operand} {e : ErrD} {r : Bool} (ho : o.op = .binOp op t x (.const .nilIface) u) (hx : ρ x = .err e) (hy : ρ (.const .nilIface) = .err .nil) (hu : V.P.underlying t = some (.interface (V.P.methodsAt t))) (hop : (op = .eql ∧ r = e.isNil) ∨ (op = .neq ∧ r = !e.isNil)) :
    OpP V o ρ η (.bool r) :=
  opp_val fun E ε hV _ h _ => by
    have h1 := h x (by simp [ho, Op.operands])
    have h2 := h (.const .nilIface) (by simp [ho, Op.operands])
    rw [hx] at h1; rw [hy] at h2
    simp only [RelV, ErrRel] at h1 h2
    refine ⟨.bool r, ?_, by simp [RelV]⟩
    cases e with
    | nil =>
      simp only [ErrRel] at h1
      have hg : (eqGuard op t x (.const .nilIface) .nilIface .nilIface).run V.P E.w = .ok () E.w := by
        rcases hop with ⟨rfl, rfl⟩ | ⟨rfl, rfl⟩ <;> simp [eqGuard]
      simp only [execOp, ho, h1, h2, Sem.run_bind, hg, Result.andThen]
      rcases hop with ⟨rfl, rfl⟩ | ⟨rfl, rfl⟩
      · simp only [run_eql_nil_nil E.w t hu, Sem.run_pure, ErrD.isNil]
      · simp only [run_neq_nil_nil E.w t hu, Sem.run_pure, ErrD.isNil, Bool.not_true]
    | code c =>
      simp only [ErrRel] at h1
      have hg : ∀ (q : TypeId) (y : Value), (eqGuard op t x (.const .nilIface) (.iface q y) .nilIface).run V.P E.w = .ok () E.w := fun q y => by
        rcases hop with ⟨rfl, rfl⟩ | ⟨rfl, rfl⟩ <;> rfl
      simp only [execOp, ho, h1, h2, Sem.run_bind, hg, Result.andThen]
      rcases hop with ⟨rfl, rfl⟩ | ⟨rfl, rfl⟩
      · simp only [run_eql_held_nil E.w t _ _ hu, Sem.run_pure, ErrD.isNil]
      · simp only [run_neq_held_nil E.w t _ _ hu, Sem.run_pure, ErrD.isNil, Bool.not_false]
    | «at» p e =>
      simp only [ErrRel] at h1
      obtain ⟨b, o', u', h1, -⟩ := h1
      have hg : ∀ (q : TypeId) (y : Value), (eqGuard op t x (.const .nilIface) (.iface q y) .nilIface).run V.P E.w = .ok () E.w := fun q y => by
        rcases hop with ⟨rfl, rfl⟩ | ⟨rfl, rfl⟩ <;> rfl
      simp only [execOp, ho, h1, h2, Sem.run_bind, hg, Result.andThen]
      rcases hop with ⟨rfl, rfl⟩ | ⟨rfl, rfl⟩
      · simp only [run_eql_held_nil E.w t _ _ hu, Sem.run_pure, ErrD.isNil]
      · simp only [run_neq_held_nil E.w t _ _ hu, Sem.run_pure, ErrD.isNil, Bool.not_false]
end Go.Fy
