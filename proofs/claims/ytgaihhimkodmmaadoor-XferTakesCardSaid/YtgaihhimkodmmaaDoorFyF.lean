/- The engine, 6: operations that make or write memory (my own text; any program). -/
import Derived.Test.YtgaihhimkodmmaaDoorFyE
import Derived.Laws.IdiomCopy
set_option linter.unusedSimpArgs false
namespace Go.Fy
open Go.RowKit

/-- From a world to a later one: what was live may have been written, what is new lies behind. -/
structure Step (H : List (Nat × Option AV)) (nm : List Nat) (w : World) (σ : Nat → Nat) (H' : List (Nat × Option AV)) (nm' : List Nat) (w' : World) (σ' : Nat → Nat) : Prop where
  os : w'.os = w.os
  tape : w'.tape = w.tape
  output : w'.output = w.output
  le : w.heap.size ≤ w'.heap.size
  sig : ∀ i, i ∈ nm → σ' i = σ i
  names : ∀ i, i ∈ nm → i ∈ nm'
  live : ∀ i x, getH H' i = some x → (∃ j y, getH H j = some y ∧ j ∈ nm ∧ σ j = σ' i) ∨ w.heap.size ≤ σ' i
  block : ∀ b, b < w.heap.size → (∀ i x, getH H i = some x → σ i ≠ b) → w'.heap[b]? = w.heap[b]?
  cells : ∀ (b : Nat) (c : Array Value) (t : TypeId) (fr : Nat × Nat), w.heap[b]? = some (.cells c t fr) → ∃ (c' : Array Value) (t' : TypeId) (fr' : Nat × Nat), w'.heap[b]? = some (.cells c' t' fr') ∧ (c.size, fr) = (c'.size, fr')

theorem ConcS.le {C : Ctx} {S S' : St} {a : Act} {w w' : World} {σ σ' : Nat → Nat} (hc : ConcS C S a w σ) (h : Step S.H S.nm w σ S'.H S'.nm w' σ') : (C.RE S w σ).le (C.RE S' w' σ') := by
  refine ⟨rfl, h.sig, h.names, fun b hb => ?_, fun b hb o v hv => (cell_of_block ?_ o none).trans hv, h.cells⟩
  · rcases hb with hb | ⟨h1, h2, h3⟩
    · exact .inl hb
    · refine .inr ⟨h1, by have := h.le; omega, fun i x hi e => ?_⟩
      rcases h.live i x hi with ⟨j, y, h5, h4, h6⟩ | h4
      · exact h3 j y h5 (h6.trans e)
      · omega
  · rcases hb with hb | ⟨h1, h2, h3⟩
    · have hlt := hc.ok.lt b hb
      refine h.block b (by have := hc.kept.size; omega) fun i x hi e => ?_
      exact (hc.blk i x hi).2.1 (by rw [e]; exact hb)
    · exact h.block b h2 h3

/-- The frame and the rest go on. -/
theorem ConcS.step {C : Ctx} {S S' : St} {a : Act} {w w' : World} {σ σ' : Nat → Nat} (hc : ConcS C S a w σ) (h : Step S.H S.nm w σ S'.H S'.nm w' σ')
    (hinj : ∀ i j x y, getH S'.H i = some x → getH S'.H j = some y → σ' i = σ' j → i = j)
    (hblk : ∀ i x, getH S'.H i = some x → i ∈ S'.nm ∧ Blk (C.RE S' w' σ') (σ' i) x) (hF : S'.F = S.F) : ConcS C S' a w' σ' := by
  have hle := hc.le h
  have hmk : Marks C.w0.heap.size w' a.defers := hc.defers.mono fun D _ hD => by
    refine (h.block D (Array.getElem?_eq_some_iff.1 hD).1 fun i x hi e => ?_).trans hD
    obtain ⟨c, t, fr, cs, rest, h1, -⟩ := (hc.blk i x hi).2.2.2
    rw [e] at h1
    have h2 : w.heap[D]? = some (.cells c t fr) := h1
    rw [hD] at h2; cases h2
  refine ⟨hc.ok, hmk, hc.size, ?_, ?_, hinj, ?_, hc.env.le hle, fun t => ?_⟩
  · refine ⟨h.os.trans hc.kept.os, h.tape.trans hc.kept.tape, h.output.trans hc.kept.output, Nat.le_trans hc.kept.size h.le, fun b hb hn => ?_, fun b c t fr hb => ?_⟩
    case refine_2 =>
      obtain ⟨c', t', fr', h1, h2⟩ := hc.kept.cells b c t fr hb
      obtain ⟨c'', t'', fr'', h3, h4⟩ := h.cells b c' t' fr' h1
      exact ⟨c'', t'', fr'', h3, h2.trans h4⟩
    rw [h.block b (by have := hc.kept.size; omega) fun i x hi e => ?_]
    · exact hc.kept.block b hb hn
    · rcases (hc.blk i x hi).2.2.1 with h1 | h1
      · exact hn (by rw [← e]; exact h1)
      · omega
  · intro i hi
    obtain ⟨h1, h2⟩ := hc.σ0 i hi
    exact ⟨by rw [h.sig i h2]; exact h1, h.names i h2⟩
  · intro i x hi
    refine ⟨(hblk i x hi).1, ?_, ?_, (hblk i x hi).2⟩
    · rcases h.live i x hi with ⟨j, y, h5, h4, h6⟩ | h4
      · rw [← h6]; exact (hc.blk j y h5).2.1
      · intro hg; have := hc.ok.lt _ hg; have := hc.kept.size; omega
    · rcases h.live i x hi with ⟨j, y, h5, h4, h6⟩ | h4
      · rw [← h6]; exact (hc.blk j y h5).2.2.1
      · right; have := hc.kept.size; omega
  · rw [hF]; exact RelV.le hle _ _ (hc.slot t)

theorem Blk.le {E E' : RE} (h : E.le E') {b b' : Nat} {x : AV} (hb : Blk E b x) (hh : E'.w.heap[b']? = E.w.heap[b]?) : Blk E' b' x := by
  obtain ⟨c, t, fr, cs, rest, h1, h2, h3, h4⟩ := hb
  refine ⟨c, t, fr, cs, rest, by rw [hh]; exact h1, h2, Rel.le h _ _ h3, fun o ho => ?_⟩
  have := h4 o ho
  simp only [World.frozen?, hh, h1] at this ⊢
  exact this

/-- The world goes on without a touch on what is named (a draw, a block that nobody names). -/
theorem ConcS.world {C : Ctx} {S : St} {a : Act} {w w' : World} {σ : Nat → Nat} (hc : ConcS C S a w σ) (h : Below w.heap.size w w') : ConcS C S a w' σ := by
  have hst : Step S.H S.nm w σ S.H S.nm w' σ := ⟨h.os, h.tape, h.output, h.size, fun _ _ => rfl, fun _ h => h, fun i x hi => .inl ⟨i, x, hi, (hc.blk i x hi).1, rfl⟩, fun b hb _ => h.block b hb,
    fun b c t fr hb => ⟨c, t, fr, by
      have hlt : b < w.heap.size := by
        rcases Nat.lt_or_ge b w.heap.size with h' | h'
        · exact h'
        · rw [Array.getElem?_eq_none h'] at hb; cases hb
      rw [h.block b hlt]; exact hb, rfl⟩⟩
  refine hc.step hst hc.inj (fun i x hi => ⟨(hc.blk i x hi).1, (hc.blk i x hi).2.2.2.le (hc.le hst) ?_⟩) rfl
  obtain ⟨c, t, fr, cs, rest, h1, -⟩ := (hc.blk i x hi).2.2.2
  have h1' : w.heap[σ i]? = some (.cells c t fr) := h1
  refine h.block _ ?_
  rcases Nat.lt_or_ge (σ i) w.heap.size with h' | h'
  · exact h'
  · rw [Array.getElem?_eq_none h'] at h1'; cases h1'

theorem Blk.lt {E : RE} {b : Nat} {x : AV} (h : Blk E b x) : b < E.w.heap.size := by
  obtain ⟨c, t, fr, cs, rest, h1, -⟩ := h
  rcases Nat.lt_or_ge b E.w.heap.size with h' | h'
  · exact h'
  · rw [Array.getElem?_eq_none h'] at h1; cases h1

/-- A new own block, named n. -/
theorem ConcS.alloc {C : Ctx} {S : St} {a : Act} {w : World} {σ : Nat → Nat} (hc : ConcS C S a w σ) (n : Nat) (hn : n ∉ S.nm) (x : AV) (c : Array Value) (t : TypeId) (fr : Nat × Nat) (cs rest : List Value)
    (hcs : c.toList = cs ++ rest) (hfr : ∀ o, o < c.size → ¬ (fr.1 ≤ o ∧ o < fr.2)) (hx : ∀ E : RE, (C.RE S w σ).le E → Rel E x cs) :
    ConcS C ⟨S.F, (n, some x) :: S.H, n :: S.nm⟩ a (w.alloc (.cells c t fr)) (fun i => if i = n then w.heap.size else σ i) := by
  have hsz : (w.alloc (.cells c t fr)).heap.size = w.heap.size + 1 := by show (w.heap.push _).size = _; simp
  have hnew : (w.alloc (.cells c t fr)).heap[w.heap.size]? = some (.cells c t fr) := by show (w.heap.push _)[w.heap.size]? = _; simp
  have hold : ∀ b, b < w.heap.size → (w.alloc (.cells c t fr)).heap[b]? = w.heap[b]? := fun b hb => Below.heap_alloc w _ b hb
  have hst : Step S.H S.nm w σ ((n, some x) :: S.H) (n :: S.nm) (w.alloc (.cells c t fr)) (fun i => if i = n then w.heap.size else σ i) := by
    refine ⟨rfl, rfl, rfl, by omega, fun i hi => if_neg (fun e : i = n => hn (e ▸ hi)), fun i hi => List.mem_cons_of_mem _ hi, fun i y hi => ?_, fun b hb _ => hold b hb, fun b c' t' fr' hb => ⟨c', t', fr', ?_, rfl⟩⟩
    · rw [getH_cons] at hi
      by_cases e : n = i
      · right; simp [e]
      · rw [if_neg e] at hi; exact .inl ⟨i, y, hi, (hc.blk i y hi).1, (if_neg (Ne.symm e)).symm⟩
    · rw [hold b ?_]; exact hb
      rcases Nat.lt_or_ge b w.heap.size with h' | h'
      · exact h'
      · rw [Array.getElem?_eq_none h'] at hb; cases hb
  have hle := hc.le (S' := ⟨S.F, (n, some x) :: S.H, n :: S.nm⟩) hst
  refine hc.step (S' := ⟨S.F, (n, some x) :: S.H, n :: S.nm⟩) hst ?_ ?_ rfl
  · intro i j y z hi hj he
    simp only [getH_cons] at hi hj
    by_cases e1 : n = i <;> by_cases e2 : n = j
    · omega
    · rw [if_neg e2] at hj
      have := (hc.blk j z hj).2.2.2.lt
      simp only [if_pos e1.symm, if_neg (Ne.symm e2)] at he
      have h' : σ j < w.heap.size := this
      omega
    · rw [if_neg e1] at hi
      have := (hc.blk i y hi).2.2.2.lt
      simp only [if_pos e2.symm, if_neg (Ne.symm e1)] at he
      have h' : σ i < w.heap.size := this
      omega
    · rw [if_neg e1] at hi; rw [if_neg e2] at hj
      simp only [if_neg (Ne.symm e1), if_neg (Ne.symm e2)] at he
      exact hc.inj i j y z hi hj he
  · intro i y hi
    simp only [getH_cons] at hi
    by_cases e : n = i
    · rw [if_pos e] at hi
      simp only [Option.some.injEq] at hi
      subst hi
      refine ⟨by simp [e], c, t, fr, cs, rest, ?_, hcs, hx _ hle, fun o ho => ?_⟩
      · simp only [if_pos e.symm]; exact hnew
      · simp only [if_pos e.symm]
        show (w.alloc (.cells c t fr)).frozen? ⟨w.heap.size, o, none⟩ = false
        simp only [World.frozen?, hnew]
        have := hfr o ho
        rcases fr with ⟨lo, hi⟩
        simp only at this ⊢
        simp only [Bool.and_eq_false_iff, decide_eq_false_iff_not]
        omega
    · rw [if_neg e] at hi
      refine ⟨List.mem_cons_of_mem _ (hc.blk i y hi).1, ?_⟩
      simp only [if_neg (Ne.symm e)]
      refine (hc.blk i y hi).2.2.2.le hle ?_
      exact hold _ (hc.blk i y hi).2.2.2.lt

/-- A cell-value: what can be laid into memory. -/
def AV.layable : AV → Bool
  | .top | .tup _ | .gd _ _ => false
  | _ => true

theorem RelV.cells {E : RE} {x : AV} {v : Value} (h : RelV E x v) (hx : x.layable = true) : Rel E x v.cells.toList := by
  cases x <;> simp only [AV.layable] at hx <;> first
    | (cases hx; done)
    | skip
  case agg l => simp only [RelV] at h; obtain ⟨cs, rfl, h⟩ := h; simpa [Rel, Value.cells] using h
  case arr e n f => simp only [RelV] at h; obtain ⟨cs, rfl, h⟩ := h; simpa only [Value.cells] using h
  all_goals
    have h1 := h.toRel rfl (by simp)
    have h2 := h1.one rfl
    have : v.cells.toList = [v] := by cases v <;> simp [Value.oneCell'] at h2 <;> rfl
    rw [this]; exact h1

/-- What a zero value of a type is, in any memory. -/
def Zero (P : Program) (t : TypeId) (x : AV) : Prop := ∃ i z, P.info? t = some i ∧ i.zero = some z ∧ z.cells.size = i.size ∧ ∀ E : RE, Rel E x z.cells.toList

section
variable {C : Ctx} {o : Oper} {ρ : Operand → AV} {η : Nat → Option AV}

theorem opr_alloc {t : TypeId} {z : AV} {n : Nat} (ho : o.op = .alloc t) (hz : Zero C.V.P t z) : OpR C o ρ η ⟨.ptr n [] 0, [(n, some z)], [n]⟩ := by
  intro hd S hρ hη hn a w ⟨σ, hc⟩
  obtain ⟨i, v, hi, hv, hs, hr⟩ := hz
  unfold Oper.wp
  have hrun : (execOp a.eval o).run C.V.P w = .ok (.value (.pointer (some ⟨w.heap.size, 0, none⟩))) (w.alloc (.cells v.cells t (0, 0))) := by
    simp [execOp, ho, Instr.alloc, zeroValue, typeInfo, hi, hv, newVar, newRow, Result.andThen]
  rw [hrun]
  have h1 := hc.alloc n (hn n (by simp)) z v.cells t (0, 0) v.cells.toList [] (by simp) (by simp) (fun E _ => hr E)
  exact ⟨_, h1.put o.dst (.ptr n [] 0) _ hd (by simp [RelV, Rel, Ctx.RE])⟩

theorem opr_box {t : TypeId} {x : Operand} {y : AV} {n : Nat} (ho : o.op = .box t x) (hx : ρ x = y) (hy : y.layable = true) : OpR C o ρ η ⟨.ptr n [] 0, [(n, some y)], [n]⟩ := by
  intro hd S hρ hη hn a w ⟨σ, hc⟩
  unfold Oper.wp
  have hrun : (execOp a.eval o).run C.V.P w = .ok (.value (.pointer (some ⟨w.heap.size, 0, none⟩))) (w.alloc (.cells (a.eval x).cells t (0, 0))) := by
    simp [execOp, ho, Instr.box, newVar, newRow, Result.andThen]
  rw [hrun]
  have hv : RelV (C.RE S w σ) y (a.eval x) := by
    have := hρ x (by simp [ho, Op.operands]) _ _ rfl (ev_rel hc x)
    rwa [hx] at this
  have h1 := hc.alloc n (hn n (by simp)) y (a.eval x).cells t (0, 0) (a.eval x).cells.toList [] (by simp) (by simp) (fun E hE => Rel.le hE _ _ (hv.cells hy))
  exact ⟨_, h1.put o.dst (.ptr n [] 0) _ hd (by simp [RelV, Rel, Ctx.RE])⟩

theorem setCells_heap (b : Nat) : ∀ (vs : List Value) (k : Nat) (w : World) (c : Array Value) (t : TypeId) (fr : Nat × Nat), w.heap[b]? = some (.cells c t fr) → k + vs.length ≤ c.size →
    (w.setCells b k vs).heap[b]? = some (.cells (splice c.toList k vs).toArray t fr)
  | [], k, w, c, t, fr, h, _ => by
    rw [World.setCells, h]
    simp [splice]
  | v :: r, k, w, c, t, fr, h, hk => by
    have h1 : (w.setCell ⟨b, k, none⟩ v).heap[b]? = some (.cells (c.setIfInBounds k v) t fr) := by
      simp [World.setCell, Array.getElem?_modify, h]
    rw [World.setCells, setCells_heap b r (k + 1) _ _ t fr h1 (by simp at hk ⊢; omega)]
    congr 2
    apply Array.ext'
    apply List.ext_getElem?
    intro j
    simp only [List.length_cons] at hk
    rw [splice_getElem? (by simp; omega), splice_getElem? (by simp; omega)]
    simp only [Array.toList_setIfInBounds, List.length_cons]
    by_cases h2 : k + 1 ≤ j ∧ j < k + 1 + r.length
    · rw [if_pos h2, if_pos (by omega), show j - k = (j - (k + 1)) + 1 by omega, List.getElem?_cons_succ]
    · rw [if_neg h2]
      by_cases h3 : j = k
      · subst h3; rw [if_pos (by omega), Nat.sub_self, List.getElem?_cons_zero, List.getElem?_set_self (by simp; omega)]
      · rw [if_neg (by omega), List.getElem?_set_ne (by omega)]
theorem setCells_other (b : Nat) : ∀ (vs : List Value) (k : Nat) (w : World) (b' : Nat), b' ≠ b → (w.setCells b k vs).heap[b']? = w.heap[b']?
  | [], _, _, _, _ => rfl
  | v :: r, k, w, b', h => by rw [World.setCells, setCells_other b r (k + 1) _ b' h, Below.heap_setCell _ _ _ _ h]
theorem setCells_meta (b : Nat) : ∀ (vs : List Value) (k : Nat) (w : World), (w.setCells b k vs).heap.size = w.heap.size ∧ (w.setCells b k vs).os = w.os ∧ (w.setCells b k vs).tape = w.tape ∧ (w.setCells b k vs).output = w.output
  | [], _, _ => ⟨rfl, rfl, rfl, rfl⟩
  | v :: r, k, w => by
    obtain ⟨h1, h2, h3, h4⟩ := setCells_meta b r (k + 1) (w.setCell ⟨b, k, none⟩ v)
    exact ⟨by rw [World.setCells, h1]; simp [World.setCell], by rw [World.setCells, h2]; rfl, by rw [World.setCells, h3]; rfl, by rw [World.setCells, h4]; rfl⟩

/-- Cells of an own block are written. -/
theorem ConcS.write {C : Ctx} {S : St} {a : Act} {w : World} {σ : Nat → Nat} (hc : ConcS C S a w σ) (i : Nat) (tr tr' : AV) (hi : getH S.H i = some tr) (k : Nat) (ds : List Value)
    (hlen : ∀ c t fr, w.heap[σ i]? = some (.cells c t fr) → k + ds.length ≤ c.size)
    (hw : ∀ E : RE, (C.RE S w σ).le E → ∀ cs rest, Rel E tr cs → (∃ c t fr, w.heap[σ i]? = some (.cells c t fr) ∧ c.toList = cs ++ rest) → ∃ cs' rest', splice (cs ++ rest) k ds = cs' ++ rest' ∧ Rel E tr' cs') :
    ConcS C ⟨S.F, (i, some tr') :: S.H, S.nm⟩ a (w.setCells (σ i) k ds) σ := by
  obtain ⟨c, t, fr, cs, rest, h1, h2, h3, h4⟩ := (hc.blk i tr hi).2.2.2
  have h1' : w.heap[σ i]? = some (.cells c t fr) := h1
  obtain ⟨m1, m2, m3, m4⟩ := setCells_meta (σ i) ds k w
  have hnew := setCells_heap (σ i) ds k w c t fr h1' (hlen c t fr h1')
  have hlive : ∀ j x, getH ((i, some tr') :: S.H) j = some x → ∃ y, getH S.H j = some y := fun j x hj => by
    rw [getH_cons] at hj
    by_cases e : i = j
    · subst e; exact ⟨tr, hi⟩
    · rw [if_neg e] at hj; exact ⟨x, hj⟩
  have hst : Step S.H S.nm w σ ((i, some tr') :: S.H) S.nm (w.setCells (σ i) k ds) σ := by
    refine ⟨m2, m3, m4, by omega, fun _ _ => rfl, fun _ h => h, fun j x hj => ?_, fun b _ hb => setCells_other _ _ _ _ _ (Ne.symm (hb i tr hi)), fun b c' t' fr' hb => ?_⟩
    · obtain ⟨y, hy⟩ := hlive j x hj
      exact .inl ⟨j, y, hy, (hc.blk j y hy).1, rfl⟩
    · by_cases e : b = σ i
      · subst e
        rw [h1'] at hb
        simp only [Option.some.injEq, Obj.cells.injEq] at hb
        obtain ⟨rfl, rfl, rfl⟩ := hb
        exact ⟨_, _, _, hnew, by have e1 := hlen c t fr h1'; have e2 := splice_length (cs := c.toList) (ds := ds) (a := k) (by simpa using e1); simpa using e2.symm⟩
      · exact ⟨c', t', fr', by rw [setCells_other _ _ _ _ _ e]; exact hb, rfl⟩
  have hle := hc.le (S' := ⟨S.F, (i, some tr') :: S.H, S.nm⟩) hst
  refine hc.step (S' := ⟨S.F, (i, some tr') :: S.H, S.nm⟩) hst ?_ ?_ rfl
  · intro j l x y hj hl he
    obtain ⟨x', hx'⟩ := hlive j x hj
    obtain ⟨y', hy'⟩ := hlive l y hl
    exact hc.inj j l x' y' hx' hy' he
  · intro j x hj
    rw [getH_cons] at hj
    by_cases e : i = j
    · subst e
      rw [if_pos rfl] at hj
      simp only [Option.some.injEq] at hj
      subst hj
      obtain ⟨cs', rest', h5, h6⟩ := hw _ hle cs rest (Rel.le hle _ _ h3) ⟨c, t, fr, h1', h2⟩
      refine ⟨(hc.blk i tr hi).1, _, t, fr, cs', rest', hnew, by rw [List.toList_toArray, h2]; exact h5, h6, fun o' ho' => ?_⟩
      have := h4 o' (by rw [List.size_toArray, splice_length (by have := hlen c t fr h1'; simpa using this)] at ho'; simpa using ho')
      show (w.setCells (σ i) k ds).frozen? _ = false
      rw [World.frozen?_setCells]
      exact this
    · rw [if_neg e] at hj
      refine ⟨(hc.blk j x hj).1, (hc.blk j x hj).2.2.2.le hle ?_⟩
      exact setCells_other _ _ _ _ _ (fun he => e (hc.inj j i x tr hj hi he).symm)

theorem opr_store {t : TypeId} {x y : Operand} {i : Nat} {p : List Nat} {off : Nat} {tr old : AV} {v : AV} {b : Bool} {trn : AV} (ho : o.op = .store t x y) (hx : ρ x = .ptr i p off)
    (hH : η i = some tr) (hg : getP p tr = some old) (hin : inP p tr) (hoff : offP p tr = off) (hy : ρ y = v) (hl : v.layable = true) (hs : v.sz = old.sz)
    (hnn : thruA p tr = true → v.noN = true) (ht : tyOf C.V.P t = some (b, v.sz)) (htr : ∀ (E : RE) cs, Rel E (setP p tr v) cs → Rel E trn cs) : OpR C o ρ η ⟨.top, [(i, some trn)], []⟩ := by
  intro hd S hρ hη hn a w ⟨σ, hc⟩
  have hi := hη i tr hH
  have h1 := hρ x (by simp [ho, Op.operands]) _ _ rfl (ev_rel hc x)
  have h2 := hρ y (by simp [ho, Op.operands]) _ _ rfl (ev_rel hc y)
  rw [hx] at h1; rw [hy] at h2
  simp only [RelV, Rel, List.cons.injEq, and_true] at h1
  have hv := h2.cells hl
  have hvl := Rel.length v _ hv
  obtain ⟨c, ty, fr, cs, rest, e1, e2, e3, e4⟩ := (hc.blk i tr hi).2.2.2
  have e1' : w.heap[σ i]? = some (.cells c ty fr) := e1
  obtain ⟨g1, g2⟩ := rel_getP p tr cs old e3 hg hin
  rw [hoff] at g1 g2
  have hcl : cs.length ≤ c.size := by rw [← Array.length_toList, e2]; simp
  have hcells : ∀ j, j < (a.eval y).cells.toList.length → (w.cell? ⟨σ i, off + 0 + j, none⟩).isSome = true := fun j hj => by
    rw [hvl, hs] at hj
    simp only [World.cell?, e1', Option.isSome_none, Bool.false_eq_true, if_false, Nat.add_zero]
    rw [Array.getElem?_eq_getElem (by omega)]; rfl
  have hfroz : ∀ j, j < (a.eval y).cells.toList.length → w.frozen? ⟨σ i, off + 0 + j, none⟩ = false := fun j hj => by
    rw [hvl, hs] at hj
    exact e4 _ (by omega)
  have hst := run_storeCells_cells (P := C.V.P) (σ i) off (a.eval y).cells.toList 0 w hcells hfroz (Rel.cells v _ hv)
  obtain ⟨-, hsz⟩ := tyOf_spec ht
  have hrun : (execOp a.eval o).run C.V.P w = .ok .skip (w.setCells (σ i) off (a.eval y).cells.toList) := by
    have hsize : (a.eval y).cells.size = v.sz := by rw [← hvl]; simp
    have h1' : a.eval x = .pointer (some ⟨σ i, off, none⟩) := h1.2
    simp only [execOp, ho, h1', Instr.storeAt, Instr.sureAddr, storeVar, Sem.run_bind, Sem.run_pure, Result.andThen, hsz, hsize, ne_eq, not_true_eq_false, if_false, Sem.run_ite]
    simp only [Nat.add_zero] at hst
    rw [hst]
  unfold Oper.wp
  rw [hrun]
  have hw := hc.write i tr trn hi off (a.eval y).cells.toList (fun c' t' fr' hc' => by
      rw [e1'] at hc'; simp only [Option.some.injEq, Obj.cells.injEq] at hc'; obtain ⟨rfl, -, -⟩ := hc'; rw [hvl, hs]; omega)
    (fun E hE cs' rest' hr' _ => by
      have g3 := (rel_getP p tr cs' old hr' hg hin).2
      have := rel_setP p tr cs' old v (a.eval y).cells.toList hr' hg hin (Rel.le hE _ _ hv) hs hnn
      rw [hoff] at this g3
      exact ⟨_, rest', splice_append_left (by rw [hvl, hs]; exact g3), htr E _ this⟩)
  exact ⟨σ, hw.put o.dst .top undef hd (by simp [RelV])⟩

/-- An element of an own row is written. -/
theorem opr_storeA {t : TypeId} {x y : Operand} {i k off z m : Nat} {f : Nat → AV} {v : AV} {b : Bool} (ho : o.op = .store t x y) (hx : ρ x = .ptr i [k] off)
    (hH : η i = some (.arr z m f)) (hk : k < m) (hoff : k * z = off) (hy : ρ y = v) (hl : v.layable = true) (hs : v.sz = (f k).sz)
    (hnn : v.noN = true) (ht : tyOf C.V.P t = some (b, v.sz)) : OpR C o ρ η ⟨.top, [(i, some (.arr z m fun j => if j = k then v else f j))], []⟩ :=
  opr_store (trn := .arr z m fun j => if j = k then v else f j) ho hx hH rfl ⟨hk, trivial⟩ (by simpa [offP] using hoff) hy hl hs (fun _ => hnn) ht (fun E cs h => by simpa [setP] using h)

/-- A field of an element of an own row. -/
theorem opr_storeAF {t : TypeId} {x y : Operand} {i k q off z m : Nat} {f : Nat → AV} {l : List AV} {old v w : AV} {b : Bool} (ho : o.op = .store t x y) (hx : ρ x = .ptr i [k, q] off)
    (hH : η i = some (.arr z m f)) (hk : k < m) (hf : f k = .agg l) (hq : l[q]? = some old) (hoff : k * z + (AV.szL (l.take q)) = off) (hy : ρ y = v) (hl : v.layable = true) (hs : v.sz = old.sz) (hw : AV.agg (l.set q v) = w)
    (hnn : v.noN = true) (ht : tyOf C.V.P t = some (b, v.sz)) : OpR C o ρ η ⟨.top, [(i, some (.arr z m fun j => if j = k then w else f j))], []⟩ :=
  opr_store (trn := .arr z m fun j => if j = k then w else f j) (old := old) ho hx hH (by simp [getP, hf, hq]) ⟨hk, by simp [hf, inP, hq]⟩ (by simpa [offP, hf, hq] using hoff) hy hl hs (fun _ => hnn) ht
    (fun E cs h => by simpa [setP, hf, hq, ← hw] using h)
end
end Go.Fy
