/- The engine, 19: functions that hand back own rows (my own text; any program). -/
import Derived.Test.YtgaihhimkodmmaaDoorFyR
set_option linter.unusedSimpArgs false
namespace Go.Fy
open Go.RowKit

/-- A contract: no own block comes in; those of H0 come back as the caller's own, by these names. -/
def AOwn (V : Env) (f : FuncId) (args : List AV) (fr : Bool) (r : AV) (H0 : List (Nat × Option AV)) : Prop :=
  ACalls V f args [] fr fun r' H' nm' => WkV r' r ∧ H' = H0 ∧ nm' = H0.map (·.1)

/-- The end of such a function: what is left (r0), what comes back (r1), what is promised (r). -/
def OEnd (C : Ctx) (fn : Func) (fr : Bool) (r : AV) (H0 : List (Nat × Option AV)) (S : St) : Prop :=
  ∃ r0 r1, Res C S fn r0 ∧ Shut (getH S.H) (fun i => (getH H0 i).isSome) fr r0 r1 ∧ WkV r1 r ∧ r1.inB (H0.map (·.1)) = true ∧
    (∀ i x, getH H0 i = some x → ∃ y z, getH S.H i = some y ∧ Shut (getH S.H) (fun i => (getH H0 i).isSome) fr y z ∧ (z = .top → y.one = true) ∧ WkC z x ∧ z.inB (H0.map (·.1)) = true)

def OPost (C : Ctx) (fn : Func) (fr : Bool) (r : AV) (H0 : List (Nat × Option AV)) : Exit → St → Prop
  | .normal, S | .ret, S => OEnd C fn fr r H0 S
  | _, _ => False
theorem opost_ret {C : Ctx} {fn : Func} {fr : Bool} {r : AV} {H0 : List (Nat × Option AV)} {S : St} (h : OEnd C fn fr r H0 S) : OPost C fn fr r H0 .ret S := h

theorem getH_map {L : List (Nat × Option AV)} : ∀ {i x}, getH L i = some x → i ∈ L.map (·.1) := by
  induction L with
  | nil => intro i x h; simp [getH] at h
  | cons p L ih =>
    intro i x h
    obtain ⟨d, v⟩ := p
    rw [getH_cons] at h
    by_cases e : d = i
    · simp [e]
    · rw [if_neg e] at h; simp [ih h]

theorem aown_of_body {V : Env} {f : FuncId} {fn : Func} {c : Code} {args : List AV} {fr : Bool} {r : AV} {H0 : List (Nat × Option AV)}
    (hf : V.P.funcs[f]? = some fn) (hb : fn.body = some c) {N : Nat} (hN : fn.ntmps = N) (hle : args.length ≤ N)
    (h : ∀ C : Ctx, C.V = V → C.N = N → C.nm0 = [] → (∀ b, C.own0 b → ∃ j, j ∈ C.nm0 ∧ C.σ0 j = b) → AWP C c (OPost C fn fr r H0) ⟨frame0 args 0, [], []⟩) : AOwn V f args fr r H0 := by
  intro w σ G Gall vals h1 h2 h3 h4 h5 h6 h7
  let C : Ctx := { V := V, N := N, w0 := w, G0 := Gall, σ0 := σ, nm0 := [], own0 := fun _ => False }
  have hlen := RelT.length args _ h7
  simp only [Array.length_toList] at hlen
  have hle0 : (⟨V, w, σ, [], Gall⟩ : RE).le (C.RE ⟨frame0 args 0, [], []⟩ w σ) :=
    ⟨rfl, fun _ _ => rfl, fun _ h => h, fun b hb => .inl hb, fun _ _ _ _ h => h, fun _ c t fr h => ⟨c, t, fr, h, rfl⟩⟩
  have hleG : (⟨V, w, σ, [], G⟩ : RE).le ⟨V, w, σ, [], Gall⟩ :=
    ⟨rfl, fun _ _ => rfl, fun _ h => h, fun b hb => h2 b hb, fun _ _ _ _ h => h, fun _ c t fr h => ⟨c, t, fr, h, rfl⟩⟩
  have hc : ConcS C ⟨frame0 args 0, [], []⟩ { tmps := vals ++ Array.replicate (fn.ntmps - vals.size) undef, defers := [] } w σ := by
    refine ⟨⟨h1, fun b hb h => h⟩, Marks.nil _ _, ?_, ⟨rfl, rfl, rfl, Nat.le_refl _, fun _ _ _ => rfl, fun _ c t fr h => ⟨c, t, fr, h, rfl⟩⟩, fun i hi => (by cases hi), fun i j x y hi => by simp [getH] at hi, fun i x hi => by simp [getH] at hi,
      h4.le (hleG.trans hle0), fun t => ?_⟩
    · show (vals ++ Array.replicate (fn.ntmps - vals.size) undef).size = N
      rw [Array.size_append, Array.size_replicate, hN]; omega
    · have := RelV.le hle0 _ _ (frame0_get args vals.toList 0 h7 t (Nat.zero_le t))
      rw [Nat.sub_zero] at this
      show RelV _ (getF (frame0 args 0) t) ((vals ++ Array.replicate (fn.ntmps - vals.size) undef).getD t undef)
      have e : (vals ++ Array.replicate (fn.ntmps - vals.size) undef).getD t undef = vals.toList.getD t undef := by
        simp only [Array.getD_eq_getD_getElem?, List.getD_eq_getElem?_getD, Array.getElem?_append, Array.getElem?_toList]
        split
        · rfl
        · rename_i hlt
          rw [Array.getElem?_replicate, Array.getElem?_eq_none (by omega)]
          split <;> rfl
      rw [e]; exact this
  refine calls_of_awp (C := C) (σ := σ) hf hb hc (h C rfl rfl rfl (fun b hb => hb.elim)) fun e S' a' w' σ' hc' hp => ?_
  have hend : OEnd C fn fr r H0 S' → ∃ v, (results fn a'.tmps).run C.V.P w' = .ok v w' ∧ ∃ v0 r' H' nm' σ', Ending.returned v = .returned v0 ∧ (WkV r' r ∧ H' = H0 ∧ nm' = H0.map (·.1)) ∧ Step [] [] w σ H' nm' w' σ' ∧
      (∀ i, bnd [] i = true → bnd H' i = true) ∧ (∀ i j x y, getH H' i = some x → getH H' j = some y → σ' i = σ' j → i = j) ∧
      (∀ i x, getH H' i = some x → i ∈ nm' ∧ Blk ⟨V, w', σ', nm', GAfter G w w' H' σ'⟩ (σ' i) x) ∧ RelV ⟨V, w', σ', nm', GAfter G w w' H' σ'⟩ r' v0 := by
    rintro ⟨r0, r1, hres, hs, hw, hin, hH0⟩
    obtain ⟨v, hrun, hv⟩ := hres a' w' σ' hc'
    have hfresh : ∀ i y, getH S'.H i = some y → w.heap.size ≤ σ' i := fun i y hi => by
      rcases (hc'.blk i y hi).2.2.1 with h8 | h8
      · exact h8.elim
      · exact h8
    -- the place in which what comes back is told
    let E1 : RE := ⟨V, w', σ', S'.nm, GAfter G w w' H0 σ'⟩
    have hGG : fr = false → ∀ b, C.G S'.H w' σ' b → GAfter G w w' H0 σ' b := fun hf b hb => by
      rcases hb with hb | ⟨m1, m2, m3⟩
      · exact .inl (h3 hf b hb)
      · exact .inr ⟨m1, m2, fun i x hi => by obtain ⟨y, z, hy, -⟩ := hH0 i x hi; exact m3 i y hy⟩
    have hsh : RE.shut (getH S'.H) (fun i => (getH H0 i).isSome) fr (C.RE S' w' σ') E1 := by
      refine ⟨rfl, rfl, fun _ _ _ => rfl, fun _ _ hi => hi, hGG, fun i x hi hl => ?_⟩
      obtain ⟨k1, k2, k3, k4⟩ := hc'.blk i x hi
      refine ⟨.inr ⟨hfresh i x hi, k4.lt, fun j y hj e => ?_⟩, k4⟩
      obtain ⟨y', z, hy', -⟩ := hH0 j y hj
      have := hc'.inj j i y' x hy' hi e
      subst this
      simp [hj] at hl
    have hback : RE.back (fun i => i) E1 ⟨V, w', σ', H0.map (·.1), GAfter G w w' H0 σ'⟩ := ⟨rfl, rfl, fun _ hb => hb, fun _ _ => rfl⟩
    have hren : ∀ x : AV, x.inB (H0.map (·.1)) = true → x.ren (fun i => i) = x := fun x hx => AV.ren_id (fun _ _ => rfl) x hx
    refine ⟨v, hrun, v, r1, H0, H0.map (·.1), σ', rfl, ⟨hw, rfl, rfl⟩, ?_, fun i hi => (by simp [bnd] at hi), ?_, ?_, ?_⟩
    · refine ⟨hc'.kept.os, hc'.kept.tape, hc'.kept.output, hc'.kept.size, fun i hi => (by cases hi), fun i hi => (by cases hi), fun i x hi => ?_, fun b hb hn => hc'.kept.block b hb (fun h => h), fun b cc t f hb => hc'.kept.cells b cc t f hb⟩
      obtain ⟨y, z, hy, -⟩ := hH0 i x hi
      exact .inr (hfresh i y hy)
    · intro i j x y hi hj he
      obtain ⟨x', -, hx', -⟩ := hH0 i x hi
      obtain ⟨y', -, hy', -⟩ := hH0 j y hj
      exact hc'.inj i j x' y' hx' hy' he
    · intro i x hi
      obtain ⟨y, z, hy, hsy, hto, hwk, hzin⟩ := hH0 i x hi
      obtain ⟨-, -, -, c1, t1, f1, cs, rest, g1, g2, g3, g4⟩ := hc'.blk i y hy
      refine ⟨getH_map hi, c1, t1, f1, cs, rest, g1, g2, hwk _ _ ?_, g4⟩
      exact Rel.back hback z cs hzin (by rw [hren z hzin]; exact Shut.rel hsh hsy hto cs g3)
    · exact RelV.back hback r1 v hin (by rw [hren r1 hin]; exact Shut.relV hsh hs v hv)
  cases e <;> first
    | exact ⟨.inl rfl, hend hp⟩
    | exact ⟨.inr rfl, hend hp⟩
    | exact hp.elim

/-- Who doesn't write them sees them frozen. -/
theorem AOwn.pure {V : Env} {f : FuncId} {args : List AV} {fr : Bool} {r r2 : AV} {H0 : List (Nat × Option AV)} (h : AOwn V f args fr r H0) (hs : Shut (getH H0) (fun _ => false) false r r2) (hn : r2.noN = true) : APure V f args fr r2 := by
  intro w σ G Gall vals h1 h2 h3 h4 h5 h6 h7
  refine (h w σ G Gall vals h1 h2 h3 h4 h5 h6 h7).mono fun e w' ⟨v, r', H', nm', σ', he, ⟨hr, hH', hnm'⟩, hst, hbnd, hinj, hblk, hrel⟩ => ?_
  subst hH'; subst hnm'
  refine ⟨v, r2, [], [], σ', he, ⟨WkV.refl _, rfl, rfl⟩, ⟨hst.os, hst.tape, hst.output, hst.le, fun i hi => (by cases hi), fun i hi => (by cases hi), fun i x hi => (by simp [getH] at hi), hst.block, hst.cells⟩, fun i hi => (by simp [bnd] at hi),
    fun i j x y hi => (by simp [getH] at hi), fun i x hi => (by simp [getH] at hi), ?_⟩
  have hsh : RE.shut (getH H') (fun _ => false) false ⟨V, w', σ', H'.map (·.1), GAfter G w w' H' σ'⟩ ⟨V, w', σ', H'.map (·.1), GAfter G w w' [] σ'⟩ := by
    refine ⟨rfl, rfl, fun _ _ _ => rfl, fun _ _ hi => hi, fun _ b hb => ?_, fun i x hi _ => ?_⟩
    · rcases hb with hb | ⟨m1, m2, m3⟩
      · exact .inl hb
      · exact .inr ⟨m1, m2, fun i x hi => by simp [getH] at hi⟩
    · have hB := (hblk i x hi).2
      refine ⟨.inr ⟨?_, hB.lt, fun j y hj => by simp [getH] at hj⟩, hB⟩
      rcases hst.live i x hi with ⟨j, y, hj, -⟩ | h8
      · simp [getH] at hj
      · exact h8
  have h8 := hs.relV hsh v (hr _ _ hrel)
  exact cv_noN (S := ⟨[], [], []⟩) (nm := []) hn ⟨V, w', σ', H'.map (·.1), GAfter G w w' [] σ'⟩ ⟨V, w', σ', [], GAfter G w w' [] σ'⟩ v rfl rfl (fun _ _ hb => hb) (fun i hi => by cases hi) (fun _ i y hi => by simp [getH] at hi) h8

theorem getH_mapren {rl : List (Nat × Nat)} : ∀ (L : List (Nat × Option AV)) (j : Nat) (x' : AV), getH (L.map fun p => (ap rl p.1, p.2.map (AV.ren (ap rl)))) j = some x' → ∃ i x, getH L i = some x ∧ ap rl i = j ∧ x' = x.ren (ap rl)
  | [], j, x', h => by simp [getH] at h
  | (d, v) :: L, j, x', h => by
    simp only [List.map_cons] at h
    rw [getH_cons] at h
    by_cases e : ap rl d = j
    · rw [if_pos e] at h
      cases v with
      | none => cases h
      | some x => simp only [Option.map_some, Option.some.injEq] at h; exact ⟨d, x, by rw [getH_cons, if_pos rfl], e, h.symm⟩
    · rw [if_neg e] at h
      obtain ⟨i, x, h1, h2, h3⟩ := getH_mapren L j x' h
      exact ⟨i, x, by rw [getH_cons, if_neg (fun e2 => e (by rw [e2]; exact h2))]; exact h1, h2, h3⟩

def okB (rl : List (Nat × Nat)) (H0 : List (Nat × Option AV)) : Bool :=
  H0.all fun p => Nat.beq (ap (rl.map fun q => (q.2, q.1)) (ap rl p.1)) p.1

section
variable {C : Ctx} {o : Oper} {ρ : Operand → AV} {η : Nat → Option AV}

/-- A call that brings own rows. -/
theorem opr_callO {fo : Operand} {as : Array Operand} {ts : Array TypeId} {g : FuncId} {caps : List AV} {args : List AV} {fr : Bool} {r r1 : AV} {H0 H1 : List (Nat × Option AV)} {n1 : List Nat} {rl : List (Nat × Nat)}
    (ho : o.op = .call { callee := .value fo, args := as, argTypes := ts }) (hf : ρ fo = .fn g caps) (he : Ent C.V.P g) (hcap : (caps.all AV.one) = true)
    (h : AOwn C.V g args fr r H0) (hv : AViews η [] (fun i => i) fr (as.toList.map ρ ++ caps) args)
    (hr : r.ren (ap rl) = r1) (hH : (H0.map fun p => (ap rl p.1, p.2.map (AV.ren (ap rl)))) = H1) (hn1 : (H0.map fun p => ap rl p.1) = n1) (hok : okB rl H0 = true) :
    OpR C o ρ η ⟨r1, H1, n1⟩ := by
  subst hr; subst hH; subst hn1
  intro hd S hρ hη hn a w ⟨σ, hc⟩
  have h1 : ∀ x, x ∈ o.op.operands → RelV (C.RE S w σ) (ρ x) (a.eval x) := fun x hx => hρ x hx _ _ rfl (ev_rel hc x)
  have hfo := h1 fo (by simp [ho, Op.operands, Call.operands])
  rw [hf] at hfo
  simp only [RelV, Rel, List.cons.injEq, and_true] at hfo
  obtain ⟨cv, hfo, hcv⟩ := hfo
  unfold Oper.wp
  rw [call_run ho hfo he, Oper.upon_enter]
  have hargs : RelT (C.RE S w σ) (as.toList.map ρ ++ caps) (as.map a.eval ++ cv).toList := by
    rw [Array.toList_append, Array.toList_map]
    refine relT_append _ _ _ _ (relT_map ρ a.eval as.toList fun x hx => h1 x ?_) (relT_caps _ _ hcv fun x hx => List.all_eq_true.1 hcap x hx)
    have : x ∈ as := by simpa using hx
    simp [ho, Op.operands, Call.operands, this]
  let Gall : Nat → Prop := fun b => C.G S.H w σ b ∨ (fr = true ∧ ∃ i y, getH S.H i = some y ∧ σ i = b)
  have hsub : ∀ x, C.G S.H w σ x → x < w.heap.size := fun x hx => by
    rcases hx with hx | ⟨-, hx, -⟩
    · have := hc.ok.lt x hx; have := hc.kept.size; omega
    · exact hx
  have henv : EnvOK ⟨C.V, w, σ, [], C.G S.H w σ⟩ := ⟨hc.env.glob, hc.env.sent, hc.env.inj, hc.env.cold⟩
  have hcall := h w σ (C.G S.H w σ) Gall (as.map a.eval ++ cv)
    (fun x hx => by
      rcases hx with hx | ⟨-, i, y, hi, rfl⟩
      · exact hsub x hx
      · exact (hc.blk i y hi).2.2.2.lt)
    (fun x hx => .inl hx) (fun hf x hx => hx.elim id fun h' => by have := h'.1; rw [hf] at this; cases this) henv (fun i j x y hi => by simp [getH] at hi) (fun i x hi => by simp [getH] at hi)
    (AViews.rel (E := C.RE S w σ) (E' := ⟨C.V, w, σ, [], Gall⟩) rfl rfl (fun b hb => .inl hb) (fun i hi => by cases hi) (fun hf i y hi _ => ⟨.inr ⟨hf, i, y, hη i y hi, rfl⟩, (hc.blk i y (hη i y hi)).2.2.2⟩) hv _ hargs)
  refine hcall.mono fun e w' ⟨v, r', H', nm', σ', he, ⟨hr, hH', hnm'⟩, hst, _, hinj, hblk, hrel⟩ => ?_
  subst he; subst hH'; subst hnm'
  replace hrel := hr _ _ hrel
  -- the caller's names
  let li : List (Nat × Nat) := rl.map fun q => (q.2, q.1)
  let n1 : List Nat := H'.map fun p => ap rl p.1
  let H1 : List (Nat × Option AV) := H'.map fun p => (ap rl p.1, p.2.map (AV.ren (ap rl)))
  let σ'' : Nat → Nat := fun j => if j ∈ n1 then σ' (ap li j) else σ j
  have hinv : ∀ i, i ∈ H'.map (·.1) → ap li (ap rl i) = i := fun i hi => by
    obtain ⟨p, hp, rfl⟩ := List.mem_map.1 hi
    exact Nat.eq_of_beq_eq_true (List.all_eq_true.1 hok p hp)
  have hmem : ∀ i, i ∈ H'.map (·.1) → ap rl i ∈ n1 := fun i hi => by
    obtain ⟨p, hp, rfl⟩ := List.mem_map.1 hi
    exact List.mem_map.2 ⟨p, hp, rfl⟩
  have hσ : ∀ i, i ∈ H'.map (·.1) → σ'' (ap rl i) = σ' i := fun i hi => by
    simp only [σ'', if_pos (hmem i hi), hinv i hi]
  have hold : ∀ j, j ∈ S.nm → σ'' j = σ j := fun j hj => if_neg fun h => hn j h hj
  have hkey : ∀ j, j ∈ n1 ↔ keyIn H1 j = true := fun j => by
    constructor
    · intro hj
      obtain ⟨p, hp, rfl⟩ := List.mem_map.1 hj
      exact List.any_eq_true.2 ⟨_, List.mem_map.2 ⟨p, hp, rfl⟩, Nat.beq_refl _⟩
    · intro hj
      obtain ⟨v, hv⟩ := keyIn_mem hj
      obtain ⟨p, hp, he⟩ := List.mem_map.1 hv
      simp only [Prod.mk.injEq] at he
      exact List.mem_map.2 ⟨p, hp, he.1⟩
  have hcase : ∀ j y, getH (H1 ++ S.H) j = some y → (∃ i x, getH H' i = some x ∧ ap rl i = j ∧ y = x.ren (ap rl) ∧ σ'' j = σ' i) ∨ (j ∉ n1 ∧ getH S.H j = some y ∧ σ'' j = σ j) := fun j y hj => by
    rw [getH_append'] at hj
    cases hk : keyIn H1 j with
    | true =>
      rw [if_pos hk] at hj
      obtain ⟨i, x, e1, e2, e3⟩ := getH_mapren H' j y hj
      exact .inl ⟨i, x, e1, e2, e3, by rw [← e2]; exact hσ i (getH_map e1)⟩
    | false =>
      rw [hk, if_neg (by simp)] at hj
      have hnj : j ∉ n1 := fun h => by rw [(hkey j).1 h] at hk; cases hk
      exact .inr ⟨hnj, hj, if_neg hnj⟩
  have hnew : ∀ i x, getH H' i = some x → w.heap.size ≤ σ' i := fun i x hi => by
    rcases hst.live i x hi with ⟨j, y, hj, -⟩ | h8
    · simp [getH] at hj
    · exact h8
  have hlt : ∀ j y, getH S.H j = some y → σ j < w.heap.size := fun j y hj => (hc.blk j y hj).2.2.2.lt
  have hbl : Below w.heap.size w w' := ⟨hst.os, hst.tape, hst.output, hst.le, fun b hb => hst.block b hb (fun i x hi => by simp [getH] at hi)⟩
  have hst2 : Step S.H S.nm w σ (H1 ++ S.H) (n1 ++ S.nm) w' σ'' := by
    refine ⟨hst.os, hst.tape, hst.output, hst.le, hold, fun j hj => List.mem_append_right _ hj, fun j y hj => ?_, fun b hb _ => hbl.block b hb, fun b c t f hb => hst.cells b c t f hb⟩
    rcases hcase j y hj with ⟨i, x, e1, -, -, e4⟩ | ⟨-, e2, e3⟩
    · right; rw [e4]; exact hnew i x e1
    · exact .inl ⟨j, y, e2, (hc.blk j y e2).1, e3.symm⟩
  have hle := hc.le (S' := ⟨S.F, H1 ++ S.H, n1 ++ S.nm⟩) hst2
  have hturn : RE.turn (ap rl) ⟨C.V, w', σ', H'.map (·.1), GAfter (C.G S.H w σ) w w' H' σ'⟩ (C.RE ⟨S.F, H1 ++ S.H, n1 ++ S.nm⟩ w' σ'') := by
    refine ⟨rfl, rfl, fun b hb => ?_, fun i hi => ⟨List.mem_append_left _ (hmem i hi), hσ i hi⟩⟩
    have hno : ∀ (hb' : w.heap.size ≤ b → ∀ i x, getH H' i = some x → σ' i ≠ b), (b < w.heap.size → ∀ j y, getH S.H j = some y → σ j ≠ b) → ∀ j y, getH (H1 ++ S.H) j = some y → σ'' j ≠ b := fun k1 k2 j y hj e => by
      rcases hcase j y hj with ⟨i, x, e1, -, -, e4⟩ | ⟨-, e2, e3⟩
      · rw [e4] at e; exact k1 (by rw [← e]; exact hnew i x e1) i x e1 e
      · rw [e3] at e; exact k2 (by rw [← e]; exact hlt j y e2) j y e2 e
    rcases hb with (hb | ⟨m1, m2, m3⟩) | ⟨m1, m2, m3⟩
    · exact .inl hb
    · exact .inr ⟨m1, by have := hst.le; omega, hno (fun h => absurd m2 (by omega)) (fun _ j y hj => m3 j y hj)⟩
    · exact .inr ⟨by have := hc.kept.size; omega, m2, hno (fun _ => m3) (fun h => absurd h (by omega))⟩
  have hc2 := hc.step (S' := ⟨S.F, H1 ++ S.H, n1 ++ S.nm⟩) hst2 (fun j l y u hj hl e => by
      rcases hcase j y hj with ⟨i, x, e1, e2, -, e4⟩ | ⟨-, e2, e3⟩ <;> rcases hcase l u hl with ⟨i', x', d1, d2, -, d4⟩ | ⟨-, d2, d3⟩
      · rw [e4, d4] at e
        have := hinj i i' x x' e1 d1 e
        rw [← e2, ← d2, this]
      · rw [e4, d3] at e
        have := hnew i x e1; have := hlt l u d2; omega
      · rw [e3, d4] at e
        have := hnew i' x' d1; have := hlt j y e2; omega
      · rw [e3, d3] at e
        exact hc.inj j l y u e2 d2 e) (fun j y hj => by
      rcases hcase j y hj with ⟨i, x, e1, e2, e3, e4⟩ | ⟨-, e2, e3⟩
      · obtain ⟨k1, c1, t1, f1, cs, rest, g1, g2, g3, g4⟩ := hblk i x e1
        refine ⟨List.mem_append_left _ (by rw [← e2]; exact hmem i (getH_map e1)), ?_⟩
        rw [e4]
        exact ⟨c1, t1, f1, cs, rest, g1, g2, by rw [e3]; exact Rel.turn hturn x cs g3, g4⟩
      · obtain ⟨k1, -, -, k4⟩ := hc.blk j y e2
        refine ⟨List.mem_append_right _ k1, ?_⟩
        rw [e3]
        exact k4.le hle (hbl.block _ (hlt j y e2))) rfl
  refine ⟨σ'', hc2.put o.dst (r.ren (ap rl)) v hd ?_⟩
  exact RelV.turn hturn r v hrel
end

/-- The blocks that come back, one behind the other. -/
def OHs (S : St) (fr : Bool) (H0 : List (Nat × Option AV)) : List (Nat × Option AV) → Prop
  | [] => True
  | (_, none) :: l => OHs S fr H0 l
  | (i, some x) :: l => (∃ y z, getH S.H i = some y ∧ Shut (getH S.H) (fun i => (getH H0 i).isSome) fr y z ∧ (z = .top → y.one = true) ∧ Wk z x ∧ z.inB (H0.map (·.1)) = true) ∧ OHs S fr H0 l
theorem OHs.mem {S : St} {fr : Bool} {H0 : List (Nat × Option AV)} : ∀ {L : List (Nat × Option AV)}, OHs S fr H0 L → ∀ i x, (i, some x) ∈ L →
    ∃ y z, getH S.H i = some y ∧ Shut (getH S.H) (fun i => (getH H0 i).isSome) fr y z ∧ (z = .top → y.one = true) ∧ Wk z x ∧ z.inB (H0.map (·.1)) = true
  | (t0, none) :: L, h, t, v, hm => by
    simp only [OHs] at h
    rcases List.mem_cons.1 hm with e | e
    · simp at e
    · exact OHs.mem h t v e
  | (t0, some v0) :: L, h, t, v, hm => by
    simp only [OHs] at h
    rcases List.mem_cons.1 hm with e | e
    · simp only [Prod.mk.injEq, Option.some.injEq] at e; obtain ⟨rfl, rfl⟩ := e; exact h.1
    · exact OHs.mem h.2 t v e

theorem ohs {S : St} {fr : Bool} {H0 : List (Nat × Option AV)} (h : OHs S fr H0 H0) : ∀ i x, getH H0 i = some x → ∃ y z, getH S.H i = some y ∧ Shut (getH S.H) (fun i => (getH H0 i).isSome) fr y z ∧ (z = .top → y.one = true) ∧ WkC z x ∧ z.inB (H0.map (·.1)) = true := by
  intro i x hi
  have := getH_in (keyIn_getH hi)
  rw [hi] at this
  obtain ⟨y, z, h1, h2, h3, h4, h5⟩ := h.mem i x this
  exact ⟨y, z, h1, h2, h3, Wk.c h4, h5⟩

theorem oend1 {C : Ctx} {S : St} {fn : Func} {fr : Bool} {r0 r1 r : AV} {H0 : List (Nat × Option AV)} (h : ResL C S fn.results.toList [r0]) (hs : Shut (getH S.H) (fun i => (getH H0 i).isSome) fr r0 r1) (hin : r1.inB (H0.map (·.1)) = true) (hw : Wk r1 r)
    (hH : OHs S fr H0 H0) : OEnd C fn fr r H0 S := ⟨r0, r1, res_one h, hs, Wk.v hw, hin, ohs hH⟩
theorem oends {C : Ctx} {S : St} {fn : Func} {fr : Bool} {l m : List AV} {r : AV} {H0 : List (Nat × Option AV)} (h : ResL C S fn.results.toList l) (hn : l.length ≠ 1) (hs : ShutL (getH S.H) (fun i => (getH H0 i).isSome) fr l m) (hin : AV.inBL (H0.map (·.1)) m = true) (hw : Wk (.tup m) r)
    (hH : OHs S fr H0 H0) : OEnd C fn fr r H0 S := ⟨.tup l, .tup m, res_many h hn, .tup hs, Wk.v hw, by simpa [AV.inB] using hin, ohs hH⟩
end Go.Fy
