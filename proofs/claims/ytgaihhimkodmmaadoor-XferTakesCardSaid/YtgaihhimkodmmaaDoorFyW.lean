/- The engine, 21: a range over a function (my own text; any program). -/
import Derived.Test.YtgaihhimkodmmaaDoorFyU
import Derived.RangeFuncCalls
set_option linter.unusedSimpArgs false
namespace Go.Fy
open Go.RowKit
/-! ### Within a round -/
def AWPr (C : Ctx) (l m : Nat) (c : Code) (Q : Exit → St → Prop) (S : St) : Prop :=
  ∀ a w, Conc C S a w → c.wpIn (Fence.wide.inRound l) m C.V.P (fun e a' w' => ∃ S', Conc C S' a' w' ∧ Q e S') a w
theorem awpr_skip {C : Ctx} {l m : Nat} {Q : Exit → St → Prop} {S : St} (h : Q .normal S) : AWPr C l m .skip Q S :=
  fun _ _ hc => wpIn_skip ⟨S, hc, h⟩
theorem awpr_seq {C : Ctx} {l m : Nat} {Q : Exit → St → Prop} {S : St} {x y : Code} (h : AWPr C l m x (AThen (AWPr C l m y Q) Q) S) : AWPr C l m (.seq x y) Q S :=
  fun a w hc => wpIn_seq (wpIn_mono (h a w hc) fun e a' w' ⟨S', h1, h2⟩ => by
    cases e with
    | normal => exact h2 a' w' h1
    | _ => exact ⟨S', h1, h2⟩)
theorem awpr_block {C : Ctx} {l m : Nat} {Q : Exit → St → Prop} {S : St} {id : Nat} {c : Code} (h : AWPr C l m c (AIn id Q) S) : AWPr C l m (.block id c) Q S :=
  fun a w hc => wpIn_block (wpIn_mono (h a w hc) fun e a' w' ⟨S', h1, h2⟩ => by
    cases e <;> first
      | exact ⟨S', h1, h2⟩
      | (simp only [Exit.inBlock, AIn] at *
         split
         · rename_i he; rw [if_pos he] at h2; exact ⟨S', h1, h2⟩
         · rename_i he; rw [if_neg he] at h2; exact ⟨S', h1, h2⟩))
/-- Operations that may stand in a round: no 'defer', no call but len, append, min, max. -/
def inRB : Op → Bool
  | .move _ | .assign _ | .alloc _ | .box _ _ | .build _ _ | .buildSlice _ _ _ | .load _ _ | .store _ _ _ | .binOp _ _ _ _ _ | .unOp _ _ _ | .convert _ _ _ | .slice _ _ _ _ _ | .fieldAddr _ _ _ | .field _ _ _ | .indexAddr _ _ _ | .index _ _ _ | .extract _ _ => true
  | .call c => match c.callee with
    | .builtin .append | .builtin .len | .builtin .min | .builtin .max => true
    | _ => false
  | _ => false
theorem value_row {P : Program} {s : Sem Value} {w w' : World} {row : String} {args : Array Value} : (do pure (Next.value (← s)) : Sem Next).run P w ≠ .ok (.row row args) w' := by
  rw [Sem.run_bind]
  cases s.run P w <;> simp [Result.andThen, Sem.run_pure]
theorem skip_row {P : Program} {s : Sem Unit} {w w' : World} {row : String} {args : Array Value} : (do s; pure Next.skip : Sem Next).run P w ≠ .ok (.row row args) w' := by
  rw [Sem.run_bind]
  cases s.run P w <;> simp [Result.andThen, Sem.run_pure]
theorem andThen_row {r : Result Value} {w' : World} {row : String} {args : Array Value} : (r.andThen fun a w' => Result.ok (Next.value a) w') ≠ .ok (.row row args) w' := by
  cases r <;> simp [Result.andThen]
theorem inRB_row {P : Program} {o : Oper} (h : inRB o.op = true) (ε : Operand → Value) (w w' : World) (row : String) (args : Array Value) : (execOp ε o).run P w ≠ .ok (.row row args) w' := by
  unfold execOp
  revert h
  cases o.op with
  | call c =>
    intro h
    simp only [inRB] at h
    split at h
    · rename_i hc; simp only [resolve, hc, Sem.run_bind, Sem.run_pure, Result.andThen_ok, invoke, builtin]; exact andThen_row
    · rename_i hc; simp only [resolve, hc, Sem.run_bind, Sem.run_pure, Result.andThen_ok, invoke, builtin]; exact andThen_row
    · rename_i hc; simp only [resolve, hc, Sem.run_bind, Sem.run_pure, Result.andThen_ok, invoke, builtin]; exact andThen_row
    · rename_i hc; simp only [resolve, hc, Sem.run_bind, Sem.run_pure, Result.andThen_ok, invoke, builtin]; exact andThen_row
    · cases h
  | _ => intro h; first | exact value_row | exact skip_row | (intro h2; cases h2) | cases h
theorem inRB_defer {o : Oper} (h : inRB o.op = true) (c : Call) : o.op ≠ .defer c := by
  intro e; rw [e] at h; cases h
theorem wp_in {P : Program} {o : Oper} (ho : inRB o.op = true) {l m : Nat} {a : Act} {w : World} {K : Act → World → Prop} {Q : Exit → Act → World → Prop} (h : o.wp P a w K (fun _ _ _ => False)) :
    o.wpIn (Fence.wide.inRound l) m P a w K Q := by
  refine ⟨fun _ _ => trivial, ?_⟩
  rw [show (Fence.wide.inRound l).round = some l from rfl, Oper.semAt_some l _ _ (inRB_defer ho)]
  unfold Oper.wp at h
  have hr := inRB_row (P := P) ho a.eval w
  generalize (execOp a.eval o).run P w = r at h hr
  cases r with
  | ok n w' =>
    cases n with
    | value v => exact h
    | skip => exact h
    | defer d => exact h
    | enter f args =>
      refine ⟨(fun h => by cases h), CallsIn.inRound l (callsIn_wide.2 (Calls.mono (h : Calls P f args w' _) fun e w'' he => ?_))⟩
      cases e with
      | returned v => exact he
      | panicked c => exact he.elim
      | outgrown => exact (LetsOut.false (fun _ _ h => h) he).elim
    | row row args => exact (hr w' row args rfl).elim
    | _ => exact h.elim
  | halt x w' => cases x <;> exact h.elim
theorem alr_ops {C : Ctx} {l m : Nat} {ops : Array Oper} {Q : Exit → St → Prop} : ∀ (L : List Oper) (k : Nat) (S : St), (∀ j, L[j]? = ops[k + j]?) → (∀ o ∈ L, ∀ d, o.dst = some d → d < C.N) → (∀ o ∈ L, inRB o.op = true) →
    AL C ops L (Q .normal) S → ∀ a w, Conc C S a w → wpOpsIn (Fence.wide.inRound l) m C.V.P ops (fun e a' w' => ∃ S', Conc C S' a' w' ∧ Q e S') (List.range' k L.length) a w
  | [], k, S, _, _, _, h, a, w, hc => by simpa [wpOpsIn] using ⟨S, hc, h⟩
  | o :: L, k, S, hl, hd, hi, h, a, w, hc => by
    have h0 : ops[k]? = some o := by simpa using (hl 0).symm
    have ih := fun S' (hk : AL C ops L (Q .normal) S') a' w' (hc' : Conc C S' a' w') => alr_ops (l := l) (m := m) L (k + 1) S' (fun j => by have := hl (j + 1); simpa [Nat.add_assoc, Nat.add_comm 1 j] using this)
      (fun o' ho' => hd o' (by simp [ho'])) (fun o' ho' => hi o' (by simp [ho'])) hk a' w' hc'
    have h1 := h (hd o (by simp)) a w hc
    simp only [List.length_cons, List.range'_succ, wpOpsIn, h0]
    split
    · rename_i hw
      rw [if_pos hw] at h1
      exact wp_in (hi o (by simp)) (Oper.wp_mono (fun a' w' ⟨S', h2, h3⟩ => ih S' h3 a' w' h2) h1)
    · rename_i hw
      rw [if_neg hw] at h1
      obtain ⟨S', h2, h3⟩ := h1
      exact ⟨fun _ _ => trivial, ih S' h3 _ _ h2⟩
theorem awpr_region {C : Ctx} {l m : Nat} {Q : Exit → St → Prop} {S : St} {id : Nat} {ops : List Oper} (hd : (ops.all fun o => o.dst.all (· < C.N)) = true) (hi : (ops.all fun o => inRB o.op) = true)
    (h : AL C ops.toArray ops (Q .normal) S) : AWPr C l m (.region id ops.toArray false) Q S := fun a w hc => by
  refine wpIn_region ?_
  have := alr_ops (l := l) (m := m) (Q := Q) ops 0 S (fun j => by simp) (fun o ho d hdd => by
    have := List.all_eq_true.1 hd o ho; rw [hdd] at this; simpa using this) (fun o ho => List.all_eq_true.1 hi o ho) h a w hc
  rw [List.size_toArray, List.range_eq_range']; exact this

/-! ### The place is taken anew -/
def Ctx.rebase (C : Ctx) (S : St) (W : World) (σ : Nat → Nat) (ns : List Nat) : Ctx := { V := C.V, N := C.N, w0 := W, G0 := C.G S.H W σ, σ0 := σ, nm0 := ns, own0 := fun b => ∃ i x, getH S.H i = some x ∧ σ i = b }
theorem ConcS.rebase {C : Ctx} {S : St} {a a' : Act} {W : World} {σ : Nat → Nat} {F' : List (Nat × AV)} {ns : List Nat} (hc : ConcS C S a W σ) (hns : ∀ i, i ∈ ns → i ∈ S.nm) (hs : a'.tmps.size = C.N) (hd : a'.defers = [])
    (hF : ∀ t, RelV (C.RE S W σ) (getF F' t) (a'.tmps.getD t undef)) : ConcS (C.rebase S W σ ns) ⟨F', S.H, S.nm⟩ a' W σ := by
  have hG : ∀ b, C.G S.H W σ b → b < W.heap.size := fun b hb => by
    rcases hb with hb | ⟨_, h2, _⟩
    · have := hc.ok.lt b hb; have := hc.kept.size; omega
    · exact h2
  have hnot : ∀ i x, getH S.H i = some x → ¬ C.G S.H W σ (σ i) := fun i x hi hb => by
    rcases hb with hb | ⟨_, _, h3⟩
    · exact (hc.blk i x hi).2.1 hb
    · exact h3 i x hi rfl
  have hle : (C.RE S W σ).le ((C.rebase S W σ ns).RE ⟨F', S.H, S.nm⟩ W σ) :=
    ⟨rfl, fun _ _ => rfl, fun _ h => h, fun b hb => .inl hb, fun _ _ _ _ h => h, fun _ c t fr h => ⟨c, t, fr, h, rfl⟩⟩
  refine ⟨⟨hG, fun b hb ⟨i, x, hi, e⟩ => hnot i x hi (by rw [e]; exact hb)⟩, by rw [hd]; exact Marks.nil _ _, hs, ⟨rfl, rfl, rfl, Nat.le_refl _, fun _ _ _ => rfl, fun _ c t fr h => ⟨c, t, fr, h, rfl⟩⟩, fun i hi => ⟨rfl, hns i hi⟩, hc.inj, fun i x hi => ?_, hc.env.le hle, fun t => RelV.le hle _ _ (hF t)⟩
  obtain ⟨h1, h2, h3, h4⟩ := hc.blk i x hi
  exact ⟨h1, hnot i x hi, .inl ⟨i, x, hi, rfl⟩, h4.le hle rfl⟩
/-- And back. -/
theorem ConcS.unbase {C : Ctx} {S S' : St} {a a' : Act} {W W' : World} {σ σ' : Nat → Nat} {ns : List Nat} (hc : ConcS C S a W σ) (h : ConcS (C.rebase S W σ ns) S' a' W' σ')
    (hsub : ∀ i, i ∈ C.nm0 → i ∈ ns) (hin : ∀ t, (getF S.F t).inB ns = true) :
    ConcS C ⟨S.F, S'.H, S'.nm⟩ a W' σ' ∧ (∀ b, C.G S.H W σ b → C.G S'.H W' σ' b) ∧ KeepsOthers W W' ∧ (∀ b, C.G S.H W σ b → W'.heap[b]? = W.heap[b]?) := by
  have hk := h.kept
  have hlv : ∀ i x, getH S'.H i = some x → (∃ j y, getH S.H j = some y ∧ σ j = σ' i) ∨ W.heap.size ≤ σ' i := fun i x hi => (h.blk i x hi).2.2.1
  have hGG : ∀ b, C.G S.H W σ b → C.G S'.H W' σ' b := fun b hb => by
    rcases hb with hb' | ⟨h1, h2, h3⟩
    · exact .inl hb'
    · refine .inr ⟨h1, Nat.lt_of_lt_of_le h2 hk.size, fun i x hi e => ?_⟩
      rcases hlv i x hi with ⟨j, y, hj, e2⟩ | h4
      · exact h3 j y hj (e2.trans e)
      · omega
  have hle : ((C.rebase S W σ ns).RE S' W' σ').le (C.RE ⟨S.F, S'.H, S'.nm⟩ W' σ') := by
    refine ⟨rfl, fun _ _ => rfl, fun _ h => h, fun b hb => ?_, fun _ _ _ _ h => h, fun _ c t fr h => ⟨c, t, fr, h, rfl⟩⟩
    rcases hb with hb | ⟨h1, h2, h3⟩
    · exact hGG b hb
    · exact .inr ⟨Nat.le_trans hc.kept.size h1, h2, h3⟩
  have hGW : ∀ b, C.G S.H W σ b → W'.heap[b]? = W.heap[b]? := fun b hb => hk.block b (h.ok.lt b hb) (h.ok.not b hb)
  have hko : KeepsOthers W W' := ⟨hk.size, fun k o hko ho => by
    refine (hk.block k (Array.getElem?_eq_some_iff.1 hko).1 fun ⟨i, x, hi, e⟩ => ?_).trans hko
    obtain ⟨c, t, fr, cs, rest, h5, -⟩ := (hc.blk i x hi).2.2.2
    rw [e] at h5
    have h6 : W.heap[k]? = some (.cells c t fr) := h5
    rw [hko] at h6; cases h6; cases ho⟩
  refine ⟨⟨hc.ok, hc.defers.mono fun D _ hD => hko.same _ _ hD rfl, hc.size, ⟨hk.os.trans hc.kept.os, hk.tape.trans hc.kept.tape, hk.output.trans hc.kept.output, Nat.le_trans hc.kept.size hk.size, fun b hb hn => ?_, fun b c t fr hb => ?_⟩, fun i hi => ?_, h.inj, fun i x hi => ?_, h.env.le hle, fun t => ?_⟩, hGG, hko, hGW⟩
  · refine (hk.block b (Nat.lt_of_lt_of_le hb hc.kept.size) fun ⟨i, x, hi, e⟩ => ?_).trans (hc.kept.block b hb hn)
    rcases (hc.blk i x hi).2.2.1 with h1 | h1
    · exact hn (by rw [← e]; exact h1)
    · omega
  · obtain ⟨c', t', fr', h1, h2⟩ := hc.kept.cells b c t fr hb
    obtain ⟨c'', t'', fr'', h3, h4⟩ := hk.cells b c' t' fr' h1
    exact ⟨c'', t'', fr'', h3, h2.trans h4⟩
  · obtain ⟨h1, h2⟩ := h.σ0 i (hsub i hi)
    exact ⟨h1.trans (hc.σ0 i hi).1, h2⟩
  · obtain ⟨h1, h2, h3, h4⟩ := h.blk i x hi
    refine ⟨h1, fun hg => h2 (.inl hg), ?_, h4.le hle rfl⟩
    rcases h3 with ⟨j, y, hj, e⟩ | h3
    · rw [← e]; exact (hc.blk j y hj).2.2.1
    · exact .inr (Nat.le_trans hc.kept.size h3)
  · have hback : RE.back (fun i => i) (C.RE S W σ) ⟨C.V, W, σ, ns, C.G S.H W σ⟩ := ⟨rfl, rfl, fun _ hb => hb, fun _ _ => rfl⟩
    have h1 := RelV.back hback (getF S.F t) _ (hin t) (by rw [AV.ren_id (nm := ns) (fun _ _ => rfl) _ (hin t)]; exact hc.slot t)
    refine RelV.le (E := ⟨C.V, W, σ, ns, C.G S.H W σ⟩) (E' := C.RE ⟨S.F, S'.H, S'.nm⟩ W' σ') ⟨rfl, fun i hi => (h.σ0 i hi).1, fun i hi => (h.σ0 i hi).2, hGG, fun b hb o v hv => (cell_of_block (hGW b hb) o none).trans hv, fun b c t fr hb => hk.cells b c t fr hb⟩ _ _ h1
/-- The world grows; one block that holds no cells may turn. -/
theorem ConcS.grown {C : Ctx} {S : St} {a : Act} {W W' : World} {σ : Nat → Nat} {row : Option Nat} {n : Nat} (hc : ConcS C S a W σ) (hg : W.grownBy W' row)
    (hr : ∀ r, row = some r → n ≤ r ∧ ∃ o : Obj, W.heap[r]? = some o ∧ o.isCells = false) (hn : C.w0.heap.size ≤ n) (hm : ∀ D, mark D ∈ a.defers → D < n) : ConcS C S a W' σ := by
  have hcl : ∀ (b : Nat) (c : Array Value) (t : TypeId) (fr : Nat × Nat), W.heap[b]? = some (.cells c t fr) → W'.heap[b]? = W.heap[b]? := fun b c t fr hb => by
    refine hg.block b (Array.getElem?_eq_some_iff.1 hb).1 fun e => ?_
    obtain ⟨-, o, h1, h2⟩ := hr b e.symm
    rw [hb] at h1; cases h1; cases h2
  have hle : (C.RE S W σ).le (C.RE S W' σ) := by
    refine ⟨rfl, fun _ _ => rfl, fun _ h => h, fun b hb => ?_, fun b hb o v hv => ?_, fun b c t fr h => ⟨c, t, fr, (hcl b c t fr h).trans h, rfl⟩⟩
    · rcases hb with hb | ⟨h1, h2, h3⟩
      · exact .inl hb
      · exact .inr ⟨h1, Nat.lt_of_lt_of_le h2 hg.size, h3⟩
    · have hv' : W.cell? ⟨b, o, none⟩ = some v := hv
      show W'.cell? ⟨b, o, none⟩ = some v
      cases hb2 : W.heap[b]? with
      | none => simp [World.cell?, hb2] at hv'
      | some ob =>
        cases ob with
        | cells c t fr => exact (cell_of_block (hcl b c t fr hb2) o none).trans hv'
        | _ => simp [World.cell?, hb2] at hv'
  obtain ⟨Ds, e1, e2, e3⟩ := hc.defers
  refine ⟨hc.ok, ⟨Ds, e1, e2, fun D hD => ⟨(e3 D hD).1, ?_⟩⟩, hc.size, ⟨hg.os.trans hc.kept.os, hg.tape.trans hc.kept.tape, hg.output.trans hc.kept.output, Nat.le_trans hc.kept.size hg.size, fun b hb hn2 => ?_, fun b c t fr hb => ?_⟩, hc.σ0, hc.inj, fun i x hi => ?_, hc.env.le hle, fun t => RelV.le hle _ _ (hc.slot t)⟩
  · have hD' := (e3 D hD).2
    refine (hg.block D (Array.getElem?_eq_some_iff.1 hD').1 fun e => ?_).trans hD'
    have h1 := (hr D e.symm).1
    have h2 := hm D (by rw [e1]; exact List.mem_map.2 ⟨D, hD, rfl⟩)
    omega
  · refine (hg.block b (Nat.lt_of_lt_of_le hb hc.kept.size) fun e => ?_).trans (hc.kept.block b hb hn2)
    have h1 := (hr b e.symm).1
    omega
  · obtain ⟨c', t', fr', h1, h2⟩ := hc.kept.cells b c t fr hb
    exact ⟨c', t', fr', (hcl _ _ _ _ h1).trans h1, h2⟩
  · obtain ⟨h1, h2, h3, h4⟩ := hc.blk i x hi
    refine ⟨h1, h2, h3, h4.le hle ?_⟩
    obtain ⟨c, t, fr, cs, rest, h5, -⟩ := h4
    exact hcl _ _ _ _ h5
/-- What a range function gives: so many values, the k-th as x says; it reads what stays as it is. -/
def ASeq (V : Env) (gf : FuncId) (caps : List AV) (total : Nat) (x : Nat → AV) : Prop :=
  ∀ (E : RE) (cv : Array Value), E.V = V → EnvOK E → (∀ b, E.G b → b < E.w.heap.size) → RelC E caps cv.toList →
    ∃ en : Nat → Value, (∀ k, RelV E.bare (x k) (en k)) ∧
      ∀ (m : Nat) (Kp : World → World → Prop), 1 ≤ m → (∀ A B, Kp A B → ∀ b, E.G b → ∀ o v, A.cell? ⟨b, o, none⟩ = some v → B.cell? ⟨b, o, none⟩ = some v) →
        SeqStopsK Fence.wide m V.P gf cv (fun k => #[en k]) Kp (fun xs => xs = List.range total) (fun _ => True) total E.w
/-- Slots are let go; blocks as 'imp_over' has them. -/
theorem imp_overH {C : Ctx} {FS : List (Nat × AV)} {HS H : List (Nat × Option AV)} {ns : List Nat} {M : List (Nat × Option AV)} {nm : List Nat} (rl : List (Nat × Nat))
    (h2 : HS.drop (HS.length - H.length) = H) (hb : impB rl nm C.nm0 [] [] [] (HS.take (HS.length - H.length)) H M = true) (hH : OverH rl nm HS M) : St.imp C ⟨FS, HS, ns⟩ ⟨[], M ++ H, nm⟩ := fun a w ⟨σ, hc⟩ => by
  have hc2 : ConcS C ⟨[], HS, ns⟩ a w σ := ⟨hc.ok, hc.defers, hc.size, hc.kept, hc.σ0, hc.inj, hc.blk, hc.env, fun t => by show RelV _ .top _; simp only [RelV]⟩
  exact imp_over (FS := []) (F := []) (L := []) rl rfl h2 hb True.intro hH a w ⟨σ, hc2⟩
theorem getF_inB {nm : List Nat} : ∀ (F : List (Nat × AV)), (F.all fun p => p.2.inB nm) = true → ∀ t, (getF F t).inB nm = true
  | [], _, t => rfl
  | (d, v) :: F, h, t => by
    simp only [List.all_cons, Bool.and_eq_true] at h
    rw [getF_cons]
    split
    · exact h.1
    · exact getF_inB F h.2 t
theorem awp_rangeFunc {C : Ctx} {Q : Exit → St → Prop} {F : List (Nat × AV)} {H : List (Nat × Option AV)} {nm : List Nat} {g : Operand} {p q id : Nat} {o : Oper} {body : Code} {gf : FuncId} {caps : List AV} {total : Nat} {x : Nat → AV}
    (hg : ev C.V F g = .fn gf caps) (he : Ent C.V.P gf) (hseq : ASeq C.V gf caps total x) (hop : o.op = .assign (.tmp p)) (hdst : o.dst = some q) (hgd : o.guard = none) (hp : p < C.N) (hq : q < C.N)
    (hin : (F.all fun p => p.2.inB nm) = true)
    (M : List Nat → List (Nat × Option AV)) (LN : List Nat) (h0 : St.imp C ⟨F, H, nm⟩ ⟨[] ++ F, M [] ++ H, LN ++ nm⟩)
    (hround : ∀ (C' : Ctx), C'.V = C.V → C'.N = C.N → C'.nm0 = nm → ∀ (l m : Nat) (pre : List Nat) (k : Nat), pre.length < total →
      AWPr C' l m body (fun e S' => e = .normal ∧ ∃ Ft, S'.imp C' ⟨Ft, M (pre ++ [k]) ++ H, LN ++ nm⟩) ⟨(q, x k) :: (p, x k) :: F, M pre ++ H, LN ++ nm⟩)
    (hdone : Q .normal ⟨F, M (List.range total) ++ H, LN ++ nm⟩) : AWP C (.rangeFunc g #[p] (.region id #[o] false) body) Q ⟨F, H, nm⟩ := by
  intro a w hc0
  have hsub : ∀ i, i ∈ C.nm0 → i ∈ nm := fun i hi => by
    obtain ⟨σ, hc⟩ := hc0
    exact (hc.σ0 i hi).2
  obtain ⟨σ, hc⟩ : Conc C ⟨F, M [] ++ H, LN ++ nm⟩ a w := h0 a w hc0
  obtain ⟨fn, hfn, hname, hbody⟩ := he
  have hev : RelV (C.RE ⟨F, M [] ++ H, LN ++ nm⟩ w σ) (.fn gf caps) (a.eval g) := by
    have := ev_rel hc g; rw [show ev C.V F g = .fn gf caps from hg] at this; exact this
  obtain ⟨cv, hcv, hcr⟩ := hev
  have hgv : a.eval g = .func (.func gf) #[] cv := by simpa using hcv
  have hGlt : ∀ b, (C.RE ⟨F, M [] ++ H, LN ++ nm⟩ w σ).G b → b < w.heap.size := fun b hb => by
    rcases hb with hb | ⟨_, h2, _⟩
    · have := hc.ok.lt b hb; have := hc.kept.size; omega
    · exact h2
  obtain ⟨en, hen, hst⟩ := hseq (C.RE ⟨F, M [] ++ H, LN ++ nm⟩ w σ) cv rfl hc.env hGlt hcr
  let E := C.RE ⟨F, M [] ++ H, LN ++ nm⟩ w σ
  let Kp : World → World → Prop := fun A B => ∀ b, E.G b → ∀ o v, A.cell? ⟨b, o, none⟩ = some v → B.cell? ⟨b, o, none⟩ = some v
  have hmk : ∀ D, mark D ∈ a.defers → D < w.heap.size := fun D hD => by
    obtain ⟨Ds, e1, -, e3⟩ := hc.defers
    rw [e1] at hD
    obtain ⟨D', h1, h2⟩ := List.mem_map.1 hD
    have : D' = D := by
      have h3 : (mark D').target = (mark D).target := by rw [h2]
      simpa [mark] using h3
    subst this
    exact (Array.getElem?_eq_some_iff.1 (e3 D' h1).2).1
  let I : List Nat → World → Prop := fun pre W => ∃ σ', ConcS C ⟨F, M pre ++ H, LN ++ nm⟩ a W σ' ∧ w.heap.size ≤ W.heap.size ∧ (∀ b, E.G b → C.G (M pre ++ H) W σ' b) ∧ (∀ b, E.G b → ∀ o v, w.cell? ⟨b, o, none⟩ = some v → W.cell? ⟨b, o, none⟩ = some v) ∧
    ∀ (b : Nat) (c : Array Value) (t : TypeId) (fr : Nat × Nat), w.heap[b]? = some (.cells c t fr) → ∃ (c' : Array Value) (t' : TypeId) (fr' : Nat × Nat), W.heap[b]? = some (.cells c' t' fr') ∧ (c.size, fr) = (c'.size, fr')
  have hclrow : ∀ (W W' : World) (row : Option Nat), W.grownBy W' row → (∀ r, row = some r → w.heap.size ≤ r ∧ ∃ o : Obj, W.heap[r]? = some o ∧ o.isCells = false) → ∀ (b : Nat) (c : Array Value) (t : TypeId) (fr : Nat × Nat), W.heap[b]? = some (.cells c t fr) → W'.heap[b]? = W.heap[b]? := by
    intro W W' row hg hr b c t fr hb
    refine hg.block b (Array.getElem?_eq_some_iff.1 hb).1 fun e => ?_
    obtain ⟨-, o', h1, h2⟩ := hr b e.symm
    rw [hb] at h1; cases h1; cases h2
  have hcellrow : ∀ (W W' : World) (row : Option Nat), W.grownBy W' row → (∀ r, row = some r → w.heap.size ≤ r ∧ ∃ o : Obj, W.heap[r]? = some o ∧ o.isCells = false) → ∀ b o v, W.cell? ⟨b, o, none⟩ = some v → W'.cell? ⟨b, o, none⟩ = some v := by
    intro W W' row hg hr b o v hv
    cases hb2 : W.heap[b]? with
    | none => simp [World.cell?, hb2] at hv
    | some ob =>
      cases ob with
      | cells c t fr => exact (cell_of_block (hclrow W W' row hg hr b c t fr hb2) o none).trans hv
      | _ => simp [World.cell?, hb2] at hv
  have hI : OwnFrom w.heap.size I := by
    rintro pre W W' row ⟨σ', h1, h2, h3, h4, h5⟩ hg hr
    refine ⟨σ', h1.grown hg hr hc.kept.size hmk, Nat.le_trans h2 hg.size, fun b hb => ?_, fun b hb o v hv => hcellrow W W' row hg hr b o v (h4 b hb o v hv), fun b c t fr hb => ?_⟩
    · rcases h3 b hb with h5 | ⟨h5, h6, h7⟩
      · exact .inl h5
      · exact .inr ⟨h5, Nat.lt_of_lt_of_le h6 hg.size, h7⟩
    · obtain ⟨c', t', fr', h6, h7⟩ := h5 b c t fr hb
      exact ⟨c', t', fr', (hclrow W W' row hg hr b c' t' fr' h6).trans h6, h7⟩
  let a1 : Nat → Act := fun k => { tmps := ((a.tmps.setIfInBounds p (en k)).setIfInBounds q (en k)), defers := [] }
  refine (wpIn_wide (n := 5)).1 ?_
  refine wpIn_rangeFunc_ownF (F := Fence.wide) (n := 5) rfl (by decide) (gf := gf) (lb := cv) hgv trivial (fun args w => ?_) (hst 4 Kp (by decide) (fun _ _ h => h)) (fun h1 h2 b hb o v hv => h2 b hb o v (h1 b hb o v hv)) ?_ (Below.refl _ _) (fun _ => rfl)
    I (fun _ _ _ => False) hI (fun _ _ _ _ _ h => h.elim) ⟨σ, hc, Nat.le_refl _, fun b hb => hb, fun _ _ _ _ h => h, fun b c t fr h => ⟨c, t, fr, h, rfl⟩⟩ a1 ?_ ?_ ?_ ?_
  · exact callFunc_run ⟨fn, hfn, hname, hbody⟩ args w
  · intro W l o o' hl h1 h2 h3 b hb oo v hv
    have hbl : b < w.heap.size := hGlt b hb
    exact (cell_of_block (World.putObj_heap_other (by omega)) oo none).trans hv
  · intro l k W K hK
    refine wpIn_region ?_
    have e1 : (List.range #[o].size) = [0] := rfl
    rw [e1]
    have hw : Region.wanted o (yielded #[o] { tmps := ((#[p].zip #[en k]).foldl (fun t (p, v) => t.setIfInBounds p v) a.tmps), defers := [] : Act }.tmps) = true := by simp [Region.wanted, hgd]
    simp only [wpOpsIn, show (#[o] : Array Oper)[0]? = some o from rfl]
    rw [if_pos hw]
    refine ⟨fun _ _ => trivial, ?_⟩
    rw [show (Fence.wide.inRound l).round = some l from rfl, Oper.semAt_some l _ _ (by rw [hop]; intro c h; cases h)]
    have hx : (execOp (Act.eval { tmps := ((#[p].zip #[en k]).foldl (fun t (p, v) => t.setIfInBounds p v) a.tmps), defers := [] }) o).run C.V.P W = .ok (.value (en k)) W := by
      have hlt : p < a.tmps.size := by rw [hc.size]; exact hp
      simp only [execOp, hop, Sem.run_pure]
      congr 2
      simp [Act.eval, Array.getD, hlt]
    rw [hx, Oper.uponIn_value, hdst]
    have hz : (Act.put { tmps := ((#[p].zip #[en k]).foldl (fun t (p, v) => t.setIfInBounds p v) a.tmps), defers := [] } (some q) (en k)) = a1 k := by simp [Act.put, a1]
    rw [hz]
    exact hK
  · rintro l pre k W ⟨σ', h1, h2, h3, h4, h5⟩ hlen
    have hxk : RelV (C.RE ⟨F, M pre ++ H, LN ++ nm⟩ W σ') (x k) (en k) := by
      refine RelV.le ?_ _ _ (hen k)
      exact ⟨rfl, (fun _ hi => by simp [RE.bare] at hi), (fun _ hi => by simp [RE.bare] at hi), fun b hb => h3 b hb, fun b hb o v hv => h4 b hb o v hv, h5⟩
    have hF : ∀ t, RelV (C.RE ⟨F, M pre ++ H, LN ++ nm⟩ W σ') (getF ((q, x k) :: (p, x k) :: F) t) ((a1 k).tmps.getD t undef) := fun t => by
      have hpl : p < a.tmps.size := by rw [hc.size]; exact hp
      have hql : q < a.tmps.size := by rw [hc.size]; exact hq
      rw [getF_cons, getF_cons]
      show RelV _ _ (((a.tmps.setIfInBounds p (en k)).setIfInBounds q (en k)).getD t undef)
      by_cases e1 : q = t
      · subst e1; rw [if_pos rfl]; simpa [Array.getD, hql] using hxk
      · rw [if_neg e1]
        by_cases e2 : p = t
        · subst e2; rw [if_pos rfl]
          have : ((a.tmps.setIfInBounds p (en k)).setIfInBounds q (en k)).getD p undef = en k := by
            simp [Array.getD_eq_getD_getElem?, Array.getElem?_setIfInBounds, e1, hpl]
          rw [this]; exact hxk
        · rw [if_neg e2]
          have : ((a.tmps.setIfInBounds p (en k)).setIfInBounds q (en k)).getD t undef = a.tmps.getD t undef := by
            simp [Array.getD_eq_getD_getElem?, Array.getElem?_setIfInBounds, e1, e2]
          rw [this]; exact h1.slot t
    have hreb := h1.rebase (a' := a1 k) (ns := nm) (fun i hi => List.mem_append_right _ hi) (by simp [a1, hc.size]) rfl hF
    refine wpIn_mono (hround (C.rebase ⟨F, M pre ++ H, LN ++ nm⟩ W σ' nm) rfl rfl rfl l 3 pre k hlen (a1 k) W ⟨σ', hreb⟩) fun e a' W' ⟨S', hS', he, Ft, himp⟩ => ?_
    subst he
    obtain ⟨σ3, hc3⟩ := himp a' W' hS'
    obtain ⟨k1, k2, k3, k4⟩ := h1.unbase hc3 hsub (getF_inB F hin)
    refine ⟨k3, fun b hb o v hv => (cell_of_block (k4 b (h3 b hb)) o none).trans hv, σ3, k1, Nat.le_trans h2 hc3.kept.size, fun b hb => k2 b (h3 b hb), fun b hb o v hv => (cell_of_block (k4 b (h3 b hb)) o none).trans (h4 b hb o v hv), fun b c t fr hb => ?_⟩
    obtain ⟨c', t', fr', h6, h7⟩ := h5 b c t fr hb
    obtain ⟨c'', t'', fr'', h8, h9⟩ := hc3.kept.cells b c' t' fr' h6
    exact ⟨c'', t'', fr'', h8, h7.trans h9⟩
  · rintro D xs W hD rfl ⟨σ', h1, h2, h3, h4, h5⟩ hW
    refine ⟨_, ⟨σ', ?_⟩, hdone⟩
    obtain ⟨Ds, e1, e2, e3⟩ := h1.defers
    refine ⟨h1.ok, ⟨D :: Ds, by rw [List.map_cons, ← e1]; rfl, List.nodup_cons.2 ⟨fun hm => ?_, e2⟩, fun D' hD' => ?_⟩, h1.size, h1.kept, h1.σ0, h1.inj, h1.blk, h1.env, h1.slot⟩
    · have := hmk D (by rw [e1]; exact List.mem_map.2 ⟨D, hm, rfl⟩)
      omega
    · rcases List.mem_cons.1 hD' with rfl | hD'
      · exact ⟨Nat.le_trans hc.kept.size hD, hW⟩
      · exact e3 D' hD'
  · rintro D c pre W hD _ h _
    exact h.elim
end Go.Fy
