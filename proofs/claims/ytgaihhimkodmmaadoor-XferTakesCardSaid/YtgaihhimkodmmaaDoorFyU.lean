/- The engine, 20: contracts with own blocks in and out (my own text; any program). -/
import Derived.Test.YtgaihhimkodmmaaDoorFyT
set_option linter.unusedSimpArgs false
namespace Go.Fy
open Go.RowKit

/-- Called with own blocks H; those of H0 come back (the same and new ones). -/
def AGen (V : Env) (f : FuncId) (args : List AV) (H : List (Nat × Option AV)) (r : AV) (H0 : List (Nat × Option AV)) : Prop :=
  ACalls V f args H false fun r' H' nm' => WkV r' r ∧ H' = H0 ∧ nm' = H0.map (·.1)

/-- The end of such a function. -/
def GEnd (C : Ctx) (fn : Func) (H : List (Nat × Option AV)) (r : AV) (H0 : List (Nat × Option AV)) (S : St) : Prop :=
  (∃ r0 r1, Res C S fn r0 ∧ Shut (getH S.H) (fun i => (getH H0 i).isSome) false r0 r1 ∧ WkV r1 r ∧ r1.inB (H0.map (·.1)) = true ∧
    (∀ i x, getH H0 i = some x → ∃ y z, getH S.H i = some y ∧ Shut (getH S.H) (fun i => (getH H0 i).isSome) false y z ∧ (z = .top → y.one = true) ∧ WkC z x ∧ z.inB (H0.map (·.1)) = true)) ∧
  (∀ i, bnd H i = true → (getH H0 i).isSome = true) ∧ (∀ i, i ∈ H.map (·.1) → i ∈ H0.map (·.1))

def GPost (C : Ctx) (fn : Func) (H : List (Nat × Option AV)) (r : AV) (H0 : List (Nat × Option AV)) : Exit → St → Prop
  | .normal, S | .ret, S => GEnd C fn H r H0 S
  | _, _ => False
theorem gpost_ret {C : Ctx} {fn : Func} {H : List (Nat × Option AV)} {r : AV} {H0 : List (Nat × Option AV)} {S : St} (h : GEnd C fn H r H0 S) : GPost C fn H r H0 .ret S := h

theorem bnd_of_getH {H : List (Nat × Option AV)} {i : Nat} {x : AV} (h : getH H i = some x) : bnd H i = true := by
  have := keyIn_getH h
  unfold keyIn at this; unfold bnd
  obtain ⟨p, hp, he⟩ := List.any_eq_true.1 this
  exact List.any_eq_true.2 ⟨p, hp, by simpa using Nat.eq_of_beq_eq_true he⟩

theorem agen_of_body {V : Env} {f : FuncId} {fn : Func} {c : Code} {args : List AV} {H : List (Nat × Option AV)} {r : AV} {H0 : List (Nat × Option AV)}
    (hf : V.P.funcs[f]? = some fn) (hb : fn.body = some c) {N : Nat} (hN : fn.ntmps = N) (hle : args.length ≤ N)
    (h : ∀ C : Ctx, C.V = V → C.N = N → C.nm0 = H.map (·.1) → (∀ b, C.own0 b → ∃ j, j ∈ C.nm0 ∧ C.σ0 j = b) → AWP C c (GPost C fn H r H0) ⟨frame0 args 0, H, H.map (·.1)⟩) : AGen V f args H r H0 := by
  intro w σ G Gall vals h1 h2 h3 h4 h5 h6 h7
  let C : Ctx := { V := V, N := N, w0 := w, G0 := Gall, σ0 := σ, nm0 := H.map (·.1), own0 := fun b => ∃ i x, getH H i = some x ∧ σ i = b }
  have hlen := RelT.length args _ h7
  simp only [Array.length_toList] at hlen
  have hle0 : (⟨V, w, σ, H.map (·.1), Gall⟩ : RE).le (C.RE ⟨frame0 args 0, H, H.map (·.1)⟩ w σ) :=
    ⟨rfl, fun _ _ => rfl, fun _ h => h, fun b hb => .inl hb, fun _ _ _ _ h => h, fun _ c t fr h => ⟨c, t, fr, h, rfl⟩⟩
  have hleG : (⟨V, w, σ, H.map (·.1), G⟩ : RE).le ⟨V, w, σ, H.map (·.1), Gall⟩ :=
    ⟨rfl, fun _ _ => rfl, fun _ h => h, fun b hb => h2 b hb, fun _ _ _ _ h => h, fun _ c t fr h => ⟨c, t, fr, h, rfl⟩⟩
  have hc : ConcS C ⟨frame0 args 0, H, H.map (·.1)⟩ { tmps := vals ++ Array.replicate (fn.ntmps - vals.size) undef, defers := [] } w σ := by
    refine ⟨⟨h1, fun b hb ⟨i, x, hi, he⟩ => (h6 i x hi).1 (by rw [he]; exact hb)⟩, Marks.nil _ _, ?_, ⟨rfl, rfl, rfl, Nat.le_refl _, fun _ _ _ => rfl, fun _ c t fr h => ⟨c, t, fr, h, rfl⟩⟩, fun i hi => ⟨rfl, hi⟩, h5, fun i x hi => ⟨getH_map hi, (h6 i x hi).1, .inl ⟨i, x, hi, rfl⟩, ?_⟩,
      h4.le (hleG.trans hle0), fun t => ?_⟩
    · show (vals ++ Array.replicate (fn.ntmps - vals.size) undef).size = N
      rw [Array.size_append, Array.size_replicate, hN]; omega
    · exact (h6 i x hi).2.le (hleG.trans hle0) rfl
    · have := RelV.le hle0 _ _ (frame0_get args vals.toList 0 h7 t (Nat.zero_le t))
      rw [Nat.sub_zero] at this
      show RelV _ (getF (frame0 args 0) t) ((vals ++ Array.replicate (fn.ntmps - vals.size) undef).getD t undef)
      have e : (vals ++ Array.replicate (fn.ntmps - vals.size) undef).getD t undef = vals.toList.getD t undef := by
        simp only [Array.getD_eq_getD_getElem?, List.getD_eq_getElem?_getD, Array.getElem?_append, Array.getElem?_toList]
        split
        · rfl
        · rename_i hlt
          rw [Array.getElem?_replicate, Array.getElem?_eq_none (by omega)]
          split <;> rfl
      rw [e]; exact this
  refine calls_of_awp (C := C) (σ := σ) hf hb hc (h C rfl rfl rfl (fun b ⟨i, x, hi, he⟩ => ⟨i, getH_map hi, he⟩)) fun e S' a' w' σ' hc' hp => ?_
  have hend : GEnd C fn H r H0 S' → ∃ v, (results fn a'.tmps).run C.V.P w' = .ok v w' ∧ ∃ v0 r' H' nm' σ', Ending.returned v = .returned v0 ∧ (WkV r' r ∧ H' = H0 ∧ nm' = H0.map (·.1)) ∧ Step H (H.map (·.1)) w σ H' nm' w' σ' ∧
      (∀ i, bnd H i = true → bnd H' i = true) ∧ (∀ i j x y, getH H' i = some x → getH H' j = some y → σ' i = σ' j → i = j) ∧
      (∀ i x, getH H' i = some x → i ∈ nm' ∧ Blk ⟨V, w', σ', nm', GAfter G w w' H' σ'⟩ (σ' i) x) ∧ RelV ⟨V, w', σ', nm', GAfter G w w' H' σ'⟩ r' v0 := by
    rintro ⟨⟨r0, r1, hres, hs, hw, hin, hH0⟩, hkeep, hnames⟩
    obtain ⟨v, hrun, hv⟩ := hres a' w' σ' hc'
    let E1 : RE := ⟨V, w', σ', S'.nm, GAfter G w w' H0 σ'⟩
    have hGG : ∀ b, C.G S'.H w' σ' b → GAfter G w w' H0 σ' b := fun b hb => by
      rcases hb with hb | ⟨m1, m2, m3⟩
      · exact .inl (h3 rfl b hb)
      · exact .inr ⟨m1, m2, fun i x hi => by obtain ⟨y, z, hy, -⟩ := hH0 i x hi; exact m3 i y hy⟩
    have hlive : ∀ i y, getH S'.H i = some y → getH H0 i = none → w.heap.size ≤ σ' i := fun i y hi hd => by
      rcases (hc'.blk i y hi).2.2.1 with ⟨j, x, hj, he⟩ | h8
      · exfalso
        have hk := hkeep j (bnd_of_getH hj)
        obtain ⟨x0, hx0⟩ := Option.isSome_iff_exists.1 hk
        obtain ⟨y', z, hy', -⟩ := hH0 j x0 hx0
        have := hc'.inj j i y' y hy' hi (by rw [(hc'.σ0 j (getH_map hj)).1]; exact he)
        subst this
        rw [hd] at hx0; cases hx0
      · exact h8
    have hsh : RE.shut (getH S'.H) (fun i => (getH H0 i).isSome) false (C.RE S' w' σ') E1 := by
      refine ⟨rfl, rfl, fun _ _ _ => rfl, fun _ _ hi => hi, fun _ => hGG, fun i x hi hl => ?_⟩
      have hd : getH H0 i = none := by simpa using hl
      obtain ⟨k1, k2, k3, k4⟩ := hc'.blk i x hi
      refine ⟨.inr ⟨hlive i x hi hd, k4.lt, fun j y hj e => ?_⟩, k4⟩
      obtain ⟨y', z, hy', -⟩ := hH0 j y hj
      have := hc'.inj j i y' x hy' hi e
      subst this
      simp [hj] at hl
    have hback : RE.back (fun i => i) E1 ⟨V, w', σ', H0.map (·.1), GAfter G w w' H0 σ'⟩ := ⟨rfl, rfl, fun _ hb => hb, fun _ _ => rfl⟩
    have hren : ∀ x : AV, x.inB (H0.map (·.1)) = true → x.ren (fun i => i) = x := fun x hx => AV.ren_id (fun _ _ => rfl) x hx
    refine ⟨v, hrun, v, r1, H0, H0.map (·.1), σ', rfl, ⟨hw, rfl, rfl⟩, ?_, fun i hi => ?_, ?_, ?_, ?_⟩
    · refine ⟨hc'.kept.os, hc'.kept.tape, hc'.kept.output, hc'.kept.size, fun i hi => (hc'.σ0 i hi).1, hnames, fun i x hi => ?_, fun b hb hn => hc'.kept.block b hb (fun ⟨i, x, hi, he⟩ => hn i x hi he), fun b cc t f hb => hc'.kept.cells b cc t f hb⟩
      obtain ⟨y, z, hy, -⟩ := hH0 i x hi
      rcases (hc'.blk i y hy).2.2.1 with ⟨j, x', hj, he⟩ | h8
      · exact .inl ⟨j, x', hj, getH_map hj, he⟩
      · exact .inr h8
    · obtain ⟨x, hx⟩ := Option.isSome_iff_exists.1 (hkeep i hi)
      exact bnd_of_getH hx
    · intro i j x y hi hj he
      obtain ⟨x', -, hx', -⟩ := hH0 i x hi
      obtain ⟨y', -, hy', -⟩ := hH0 j y hj
      exact hc'.inj i j x' y' hx' hy' he
    · intro i x hi
      obtain ⟨y, z, hy, hsy, hto, hwk, hzin⟩ := hH0 i x hi
      obtain ⟨-, -, -, c1, t1, f1, cs, rest, g1, g2, g3, g4⟩ := hc'.blk i y hy
      refine ⟨getH_map hi, c1, t1, f1, cs, rest, g1, g2, hwk _ _ ?_, g4⟩
      exact Rel.back hback z cs hzin (by rw [hren z hzin]; exact Shut.rel hsh hsy hto cs g3)
    · exact RelV.back hback r1 v hin (by rw [hren r1 hin]; exact Shut.relV hsh hs v hv)
  cases e <;> first
    | exact ⟨.inl rfl, hend hp⟩
    | exact ⟨.inr rfl, hend hp⟩
    | exact hp.elim

/-- The values of the slots, by the contract's names. -/
def AArg (C : Ctx) (rl : List (Nat × Nat)) (nm : List Nat) : List AV → List AV → Prop
  | [], [] => True
  | x :: l, y :: m => (y.inB nm = true ∧ WkV x (y.ren (ap rl))) ∧ AArg C rl nm l m
  | _, _ => False

theorem AArg.rel {C : Ctx} {rl : List (Nat × Nat)} {nm : List Nat} {E E' : RE} (hb : RE.back (ap rl) E E') (hn : E'.nm = nm) : ∀ (l m : List AV), AArg C rl nm l m → ∀ vs, RelT E l vs → RelT E' m vs
  | [], [], _, vs, hv => by simpa only [RelT] using hv
  | x :: l, y :: m, h, vs, hv => by
    simp only [AArg] at h
    simp only [RelT] at *
    obtain ⟨c, d, rfl, e1, e2⟩ := hv
    exact ⟨c, d, rfl, RelV.back hb y c (by rw [hn]; exact h.1.1) (h.1.2 _ _ e1), AArg.rel hb hn l m h.2 d e2⟩
  | [], _ :: _, h, _, _ => h.elim
  | _ :: _, [], h, _, _ => h.elim

/-- The own blocks that go in. -/
def HIn (η : Nat → Option AV) (rl : List (Nat × Nat)) (nm : List Nat) : List (Nat × Option AV) → Prop
  | [] => True
  | (_, none) :: _ => False
  | (i, some x) :: l => (x.inB nm = true ∧ ∃ y, η (ap rl i) = some y ∧ WkC y (x.ren (ap rl))) ∧ HIn η rl nm l
theorem HIn.mem {η : Nat → Option AV} {rl : List (Nat × Nat)} {nm : List Nat} : ∀ {L : List (Nat × Option AV)}, HIn η rl nm L → ∀ i o, (i, o) ∈ L → ∃ x, o = some x ∧ x.inB nm = true ∧ ∃ y, η (ap rl i) = some y ∧ WkC y (x.ren (ap rl))
  | (i0, none) :: L, h, _, _, _ => by simp only [HIn] at h
  | (i0, some x0) :: L, h, i, o, hm => by
    simp only [HIn] at h
    rcases List.mem_cons.1 hm with e | e
    · simp only [Prod.mk.injEq] at e; obtain ⟨rfl, rfl⟩ := e; exact ⟨x0, rfl, h.1.1, h.1.2⟩
    · exact HIn.mem h.2 i o e

/-- Closed: names apart, those that went in come back. -/
def okG (rl : List (Nat × Nat)) (H H0 : List (Nat × Option AV)) : Bool :=
  (H0.all fun p => Nat.beq (ap (rl.map fun q => (q.2, q.1)) (ap rl p.1)) p.1) && (H.all fun p => keyIn H0 p.1)

section
variable {C : Ctx} {o : Oper} {ρ : Operand → AV} {η : Nat → Option AV}

theorem opr_callG {fo : Operand} {as : Array Operand} {ts : Array TypeId} {g : FuncId} {args : List AV} {r r1 : AV} {H H0 H1 : List (Nat × Option AV)} {n1 : List Nat} {rl : List (Nat × Nat)}
    (ho : o.op = .call { callee := .value fo, args := as, argTypes := ts }) (hf : ρ fo = .fn g []) (he : Ent C.V.P g)
    (h : AGen C.V g args H r H0) (hv : AArg C rl (H.map (·.1)) (as.toList.map ρ) args) (hin : HIn η rl (H.map (·.1)) H)
    (hr : r.ren (ap rl) = r1) (hH : (H0.map fun p => (ap rl p.1, p.2.map (AV.ren (ap rl)))) = H1) (hn1 : ((H0.filter fun p => !keyIn H p.1).map fun p => ap rl p.1) = n1) (hok : okG rl H H0 = true) :
    OpR C o ρ η ⟨r1, H1, n1⟩ := by
  subst hr; subst hH; subst hn1
  intro hd S hρ hη hn a w ⟨σ, hc⟩
  have h1 : ∀ x, x ∈ o.op.operands → RelV (C.RE S w σ) (ρ x) (a.eval x) := fun x hx => hρ x hx _ _ rfl (ev_rel hc x)
  have hfo := h1 fo (by simp [ho, Op.operands, Call.operands])
  rw [hf] at hfo
  simp only [RelV, Rel, List.cons.injEq, and_true] at hfo
  obtain ⟨cv, hfo, hcv⟩ := hfo
  simp only [RelC] at hcv
  have hcv' : cv = #[] := by apply Array.ext'; simpa using hcv
  subst hcv'
  unfold Oper.wp
  rw [call_run ho hfo he, Oper.upon_enter]
  have hargs : RelT (C.RE S w σ) (as.toList.map ρ) (as.map a.eval ++ #[]).toList := by
    rw [Array.append_empty, Array.toList_map]
    refine relT_map ρ a.eval as.toList fun x hx => h1 x ?_
    have : x ∈ as := by simpa using hx
    simp [ho, Op.operands, Call.operands, this]
  simp only [okG, Bool.and_eq_true] at hok
  obtain ⟨hok1, hok2⟩ := hok
  -- names and blocks of the call
  let σc : Nat → Nat := fun i => σ (ap rl i)
  have hkeyH : ∀ i, i ∈ H.map (·.1) → ∃ (x y : AV), getH S.H (ap rl i) = some y ∧ x.inB (H.map (·.1)) = true ∧ WkC y (x.ren (ap rl)) := fun i hi => by
    obtain ⟨p, hp, rfl⟩ := List.mem_map.1 hi
    obtain ⟨x, -, e2, y, e3, e4⟩ := hin.mem p.1 p.2 hp
    exact ⟨x, y, hη _ _ e3, e2, e4⟩
  have hgetH : ∀ i x, getH H i = some x → ∃ y, getH S.H (ap rl i) = some y ∧ x.inB (H.map (·.1)) = true ∧ WkC y (x.ren (ap rl)) := fun i x hi => by
    have := getH_in (keyIn_getH hi)
    rw [hi] at this
    obtain ⟨x', e1, e2, y, e3, e4⟩ := hin.mem i _ this
    simp only [Option.some.injEq] at e1
    subst e1
    exact ⟨y, hη _ _ e3, e2, e4⟩
  have hinvA : ∀ i, i ∈ H0.map (·.1) → ap (rl.map fun q => (q.2, q.1)) (ap rl i) = i := fun i hi => by
    obtain ⟨p, hp, rfl⟩ := List.mem_map.1 hi
    exact Nat.eq_of_beq_eq_true (List.all_eq_true.1 hok1 p hp)
  have hsubK : ∀ i, i ∈ H.map (·.1) → i ∈ H0.map (·.1) := fun i hi => by
    obtain ⟨p, hp, rfl⟩ := List.mem_map.1 hi
    obtain ⟨v, hv⟩ := keyIn_mem (List.all_eq_true.1 hok2 p hp)
    exact List.mem_map.2 ⟨_, hv, rfl⟩
  have happ : ∀ i j, i ∈ H.map (·.1) → j ∈ H.map (·.1) → ap rl i = ap rl j → i = j := fun i j hi hj he => by
    rw [← hinvA i (hsubK i hi), ← hinvA j (hsubK j hj), he]
  have hsub : ∀ x, C.G S.H w σ x → x < w.heap.size := fun x hx => by
    rcases hx with hx | ⟨-, hx, -⟩
    · have := hc.ok.lt x hx; have := hc.kept.size; omega
    · exact hx
  have hback : RE.back (ap rl) (C.RE S w σ) ⟨C.V, w, σc, H.map (·.1), C.G S.H w σ⟩ := ⟨rfl, rfl, fun _ hb => hb, fun _ _ => rfl⟩
  have henv : EnvOK ⟨C.V, w, σc, H.map (·.1), C.G S.H w σ⟩ := by
    have h2 : EnvOK (C.RE S w σ).bare := ⟨hc.env.glob, hc.env.sent, hc.env.inj, hc.env.cold⟩
    have := h2.le hback.bare
    exact ⟨this.glob, this.sent, this.inj, this.cold⟩
  have hcall := h w σc (C.G S.H w σ) (C.G S.H w σ) (as.map a.eval ++ #[]) hsub (fun x hx => hx) (fun _ x hx => hx) henv
    (fun i j x y hi hj e => by
      obtain ⟨x', hx', -⟩ := hgetH i x hi
      obtain ⟨y', hy', -⟩ := hgetH j y hj
      exact happ i j (getH_map hi) (getH_map hj) (hc.inj _ _ _ _ hx' hy' e))
    (fun i x hi => by
      obtain ⟨y, hy, hxin, hwk⟩ := hgetH i x hi
      obtain ⟨k1, k2, k3, c1, t1, f1, cs, rest, g1, g2, g3, g4⟩ := hc.blk _ y hy
      refine ⟨fun hg => ?_, c1, t1, f1, cs, rest, g1, g2, Rel.back hback x cs hxin (hwk _ _ g3), g4⟩
      rcases hg with hg | ⟨-, -, h3⟩
      · exact k2 hg
      · exact h3 _ y hy rfl)
    (AArg.rel hback rfl _ _ hv _ hargs)
  refine hcall.mono fun e w' ⟨v, r', H', nm', σ', he, ⟨hr, hH', hnm'⟩, hst, _, hinj, hblk, hrel⟩ => ?_
  subst he; subst hH'; subst hnm'
  replace hrel := hr _ _ hrel
  let li : List (Nat × Nat) := rl.map fun q => (q.2, q.1)
  let n1 : List Nat := (H'.filter fun p => !keyIn H p.1).map fun p => ap rl p.1
  let H1 : List (Nat × Option AV) := H'.map fun p => (ap rl p.1, p.2.map (AV.ren (ap rl)))
  let σ'' : Nat → Nat := fun j => if j ∈ n1 then σ' (ap li j) else σ j
  have hold : ∀ j, j ∈ S.nm → σ'' j = σ j := fun j hj => if_neg fun h => hn j h hj
  have hHin : ∀ i, keyIn H i = true → i ∈ H.map (·.1) := fun i hk => by obtain ⟨v, hv⟩ := keyIn_mem hk; exact List.mem_map.2 ⟨_, hv, rfl⟩
  have hσ : ∀ i, i ∈ H'.map (·.1) → σ'' (ap rl i) = σ' i ∧ ap rl i ∈ n1 ++ S.nm := fun i hi => by
    cases hk : keyIn H i with
    | true =>
      have hiH := hHin i hk
      obtain ⟨x, y, hy, -⟩ := hkeyH i hiH
      have hm := (hc.blk _ y hy).1
      exact ⟨by rw [hold _ hm]; exact (hst.sig i hiH).symm, List.mem_append_right _ hm⟩
    | false =>
      have hm : ap rl i ∈ n1 := by
        obtain ⟨p, hp, rfl⟩ := List.mem_map.1 hi
        exact List.mem_map.2 ⟨p, List.mem_filter.2 ⟨hp, by simp [hk]⟩, rfl⟩
      refine ⟨?_, List.mem_append_left _ hm⟩
      simp only [σ'', if_pos hm]
      exact congrArg σ' (hinvA i hi)
  have hn1key : ∀ j, j ∈ n1 → keyIn H1 j = true := fun j hj => by
    obtain ⟨p, hp, rfl⟩ := List.mem_map.1 hj
    exact List.any_eq_true.2 ⟨_, List.mem_map.2 ⟨p, (List.mem_filter.1 hp).1, rfl⟩, Nat.beq_refl _⟩
  have hHkey : ∀ i, i ∈ H.map (·.1) → keyIn H1 (ap rl i) = true := fun i hi => by
    obtain ⟨p, hp, rfl⟩ := List.mem_map.1 (hsubK i hi)
    exact List.any_eq_true.2 ⟨_, List.mem_map.2 ⟨p, hp, rfl⟩, Nat.beq_refl _⟩
  have hcase : ∀ j y, getH (H1 ++ S.H) j = some y → (∃ i x, getH H' i = some x ∧ ap rl i = j ∧ y = x.ren (ap rl) ∧ σ'' j = σ' i) ∨ (keyIn H1 j = false ∧ getH S.H j = some y ∧ σ'' j = σ j) := fun j y hj => by
    rw [getH_append'] at hj
    cases hk : keyIn H1 j with
    | true =>
      rw [if_pos hk] at hj
      obtain ⟨i, x, e1, e2, e3⟩ := getH_mapren H' j y hj
      exact .inl ⟨i, x, e1, e2, e3, by rw [← e2]; exact (hσ i (getH_map e1)).1⟩
    | false =>
      rw [hk, if_neg (by simp)] at hj
      exact .inr ⟨rfl, hj, if_neg fun h => by rw [hn1key j h] at hk; cases hk⟩
  have hlt : ∀ j y, getH S.H j = some y → σ j < w.heap.size := fun j y hj => (hc.blk j y hj).2.2.2.lt
  -- a block that came back is one that went in, or new
  have hwho : ∀ i x, getH H' i = some x → (∃ j y, j ∈ H.map (·.1) ∧ getH S.H (ap rl j) = some y ∧ σ (ap rl j) = σ' i) ∨ w.heap.size ≤ σ' i := fun i x hi => by
    rcases hst.live i x hi with ⟨j, y, hj, hjm, hje⟩ | h8
    · obtain ⟨y', hy', -⟩ := hgetH j y hj
      exact .inl ⟨j, y', hjm, hy', hje⟩
    · exact .inr h8
  have hother : ∀ j y, keyIn H1 j = false → getH S.H j = some y → ∀ i x, getH H i = some x → σc i ≠ σ j := fun j y hk hj i x hi e => by
    obtain ⟨y', hy', -⟩ := hgetH i x hi
    have := hc.inj _ _ _ _ hy' hj e
    rw [← this, hHkey i (getH_map hi)] at hk; cases hk
  have hst2 : Step S.H S.nm w σ (H1 ++ S.H) (n1 ++ S.nm) w' σ'' := by
    refine ⟨hst.os, hst.tape, hst.output, hst.le, hold, fun j hj => List.mem_append_right _ hj, fun j y hj => ?_, fun b hb hnb => hst.block b hb fun i x hi => ?_, fun b c t f hb => hst.cells b c t f hb⟩
    · rcases hcase j y hj with ⟨i, x, e1, -, -, e4⟩ | ⟨-, e2, e3⟩
      · rw [e4]
        rcases hwho i x e1 with ⟨k, z, -, k2, k3⟩ | h8
        · exact .inl ⟨_, z, k2, (hc.blk _ z k2).1, k3⟩
        · exact .inr h8
      · exact .inl ⟨j, y, e2, (hc.blk j y e2).1, e3.symm⟩
    · obtain ⟨y', hy', -⟩ := hgetH i x hi
      exact hnb _ y' hy'
  have hle := hc.le (S' := ⟨S.F, H1 ++ S.H, n1 ++ S.nm⟩) hst2
  have hturn : RE.turn (ap rl) ⟨C.V, w', σ', H'.map (·.1), GAfter (C.G S.H w σ) w w' H' σ'⟩ (C.RE ⟨S.F, H1 ++ S.H, n1 ++ S.nm⟩ w' σ'') := by
    refine ⟨rfl, rfl, fun b hb => ?_, fun i hi => ⟨(hσ i hi).2, (hσ i hi).1⟩⟩
    rcases hb with hb | ⟨m1, m2, m3⟩
    · exact hle.G b hb
    · refine .inr ⟨by have := hc.kept.size; omega, m2, fun j y hj e => ?_⟩
      rcases hcase j y hj with ⟨i, x, e1, -, -, e4⟩ | ⟨-, e2, e3⟩
      · rw [e4] at e; exact m3 i x e1 e
      · rw [e3] at e; have := hlt j y e2; omega
  have hc2 := hc.step (S' := ⟨S.F, H1 ++ S.H, n1 ++ S.nm⟩) hst2 (fun j l y u hj hl e => by
      have mixed : ∀ i x l u, getH H' i = some x → keyIn H1 l = false → getH S.H l = some u → σ' i ≠ σ l := fun i x l u e1 hk e2 e => by
        rcases hwho i x e1 with ⟨k, z, k1, k2, k3⟩ | h8
        · have := hc.inj _ _ _ _ k2 e2 (k3.trans e)
          rw [← this, hHkey k k1] at hk; cases hk
        · have := hlt l u e2; omega
      rcases hcase j y hj with ⟨i, x, e1, e2, -, e4⟩ | ⟨hk, e2, e3⟩ <;> rcases hcase l u hl with ⟨i', x', d1, d2, -, d4⟩ | ⟨hk', d2, d3⟩
      · rw [e4, d4] at e
        have := hinj i i' x x' e1 d1 e
        rw [← e2, ← d2, this]
      · rw [e4, d3] at e
        exact absurd e (mixed i x l u e1 hk' d2)
      · rw [e3, d4] at e
        exact absurd e.symm (mixed i' x' j y d1 hk e2)
      · rw [e3, d3] at e
        exact hc.inj j l y u e2 d2 e) (fun j y hj => by
      rcases hcase j y hj with ⟨i, x, e1, e2, e3, e4⟩ | ⟨hk, e2, e3⟩
      · obtain ⟨k1, c1, t1, f1, cs, rest, g1, g2, g3, g4⟩ := hblk i x e1
        refine ⟨by rw [← e2]; exact (hσ i (getH_map e1)).2, ?_⟩
        rw [e4]
        exact ⟨c1, t1, f1, cs, rest, g1, g2, by rw [e3]; exact Rel.turn hturn x cs g3, g4⟩
      · obtain ⟨k1, -, -, k4⟩ := hc.blk j y e2
        refine ⟨List.mem_append_right _ k1, ?_⟩
        rw [e3]
        exact k4.le hle (hst.block _ (hlt j y e2) (hother j y hk e2))) rfl
  refine ⟨σ'', hc2.put o.dst (r.ren (ap rl)) v hd ?_⟩
  exact RelV.turn hturn r v hrel
end
end Go.Fy
