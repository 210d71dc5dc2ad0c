/- My own texts, packed: FyN, FyO, FyP, FyQ, FyR, FyT, FyU, FyW, FyX, FyA1, FyY, FyV, FyS, K1x. -/
import Derived.Test.YtpmgdmbcdohgcaaDoorM1
import Derived.Laws.StructEq
import Derived.ChangeKeysEq
import Derived.Laws.IdiomStrings
import Derived.Laws.MakeOwn
import Derived.WalkSpells
import Derived.Laws.Small
import Derived.RangeFuncCalls
import Derived.Test.YtpmgdmbcdohgcaaDoorProg
/- The engine, 14: more operations: literals of structs and rows, make, bytes of a string, comparisons (my own text; any program). -/
set_option linter.unusedSimpArgs false
namespace Go.Fy
open Go.RowKit
/-! ### Zero values -/
mutual
/-- Closed: these cells lay this value, in any memory. -/
def fit : AV → List Value → Bool
  | .bool b, [.bool c] => b == c
  | .int k n, [.int l m] => decide (k = l) && decide (n = m)
  | .str s, [.string t] => decide (t.data.toList = s)
  | .err .nil, [.nilIface] => true
  | .sl _ true 0 _, [.slice none 0 0] => true
  | .val (.pointer none), [.pointer none] => true
  | .val (.map none), [.map none] => true
  | .val .nilFunc, [.nilFunc] => true
  | .agg l, cs => fitL l cs
  | .arr e n f, cs => decide (cs.length = n * e) && (List.range n).all fun j => fit (f j) ((cs.drop (j * e)).take e) && decide (((cs.drop (j * e)).take e).length = e)
  | _, _ => false
def fitL : List AV → List Value → Bool
  | [], cs => cs.isEmpty
  | x :: l, cs => fit x (cs.take x.sz) && fitL l (cs.drop x.sz)
end
mutual
theorem fit_rel : ∀ (x : AV) (cs : List Value), fit x cs = true → ∀ E : RE, Rel E x cs
  | .agg l, cs, h, E => by simp only [fit] at h; simp only [Rel]; exact fitL_rel l cs h E
  | .arr e n f, cs, h, E => by
    simp only [fit, Bool.and_eq_true, decide_eq_true_eq, List.all_eq_true, List.mem_range] at h
    simp only [Rel]
    exact ⟨h.1, fun j hj => ⟨fit_rel (f j) _ (h.2 j hj).1 _, (h.2 j hj).2⟩⟩
  | .bool b, cs, h, E => by
    unfold fit at h; split at h <;> simp_all [Rel]
  | .int k n, cs, h, E => by
    unfold fit at h; split at h <;> simp_all [Rel]
  | .str s, cs, h, E => by
    unfold fit at h; split at h <;> simp_all [Rel]
    rename_i heq; subst h; obtain ⟨rfl, -⟩ := heq; rfl
  | .val s, cs, h, E => by
    unfold fit at h; split at h <;> simp_all [Rel, Value.oneCell']
  | .err e, cs, h, E => by
    unfold fit at h; split at h <;> simp_all [Rel, ErrRel]
  | .sl a b n f, cs, h, E => by
    unfold fit at h; split at h <;> simp_all [Rel]
    first
      | exact ⟨none, 0, ⟨rfl, rfl⟩, rfl, by simp, by simp⟩
      | (refine ⟨none, 0, ?_⟩; simp; done)
      | (refine ⟨none, ⟨0, ?_⟩, ?_⟩ <;> simp; done)
  | .top, cs, h, E => by unfold fit at h; cases h
  | .tup _, cs, h, E => by unfold fit at h; cases h
  | .gd _ _, cs, h, E => by unfold fit at h; cases h
  | .fptr _, cs, h, E => by unfold fit at h; cases h
  | .ptr _ _ _, cs, h, E => by unfold fit at h; cases h
  | .osl _ _ _ _ _, cs, h, E => by unfold fit at h; cases h
  | .fn _ _, cs, h, E => by unfold fit at h; cases h
  | .mp _ _, cs, h, E => by unfold fit at h; cases h
theorem fitL_rel : ∀ (l : List AV) (cs : List Value), fitL l cs = true → ∀ E : RE, RelL E l cs
  | [], cs, h, E => by simp only [fitL, List.isEmpty_iff] at h; simp only [RelL]; exact h
  | x :: l, cs, h, E => by
    simp only [fitL, Bool.and_eq_true] at h
    simp only [RelL]
    exact ⟨_, _, (List.take_append_drop x.sz cs).symm, fit_rel x _ h.1 E, fitL_rel l _ h.2 E⟩
end
def zeroB (P : Program) (t : TypeId) (x : AV) : Bool :=
  match P.info? t with
  | some i => match i.zero with
    | some z => decide (z.cells.size = i.size) && fit x z.cells.toList
    | none => false
  | none => false
theorem zero_of {P : Program} {t : TypeId} {x : AV} (h : zeroB P t x = true) : Zero P t x := by
  unfold zeroB at h
  split at h
  · rename_i i hi
    split at h
    · rename_i z hz
      simp only [Bool.and_eq_true, decide_eq_true_eq] at h
      exact ⟨i, z, hi, hz, h.1, fun E => fit_rel x _ h.2 E⟩
    · cases h
  · cases h
/-! ### Literals of structs -/
def bldOf (P : Program) (t : TypeId) : Option (List (Nat × Nat)) :=
  match P.underlying t with
  | some (.struct fs) => fs.toList.mapM fun f => (P.info? f.type).map fun i => (f.offset, i.size)
  | _ => none
theorem fill_foldl (off : Nat) : ∀ (ds : List Value) (j : Nat) (cs : Array Value), off + j + ds.length ≤ cs.size →
    ((ds.zipIdx j).foldl (fun (cs : Array Value) (x : Value × Nat) => match x with | (c, j) => cs.setIfInBounds (off + j) c) cs).toList = splice cs.toList (off + j) ds
  | [], j, cs, _ => by simp [splice]
  | v :: r, j, cs, h => by
    simp only [List.zipIdx_cons, List.foldl_cons]
    simp only [List.length_cons] at h
    rw [fill_foldl off r (j + 1) _ (by simp; omega)]
    apply List.ext_getElem?
    intro k
    rw [splice_getElem? (by simp; omega), splice_getElem? (by simp; omega)]
    simp only [Array.toList_setIfInBounds, List.length_cons]
    by_cases h2 : off + (j + 1) ≤ k ∧ k < off + (j + 1) + r.length
    · rw [if_pos h2, if_pos (by omega), show k - (off + j) = (k - (off + (j + 1))) + 1 by omega, List.getElem?_cons_succ]
    · rw [if_neg h2]
      by_cases h3 : k = off + j
      · subst h3; rw [if_pos (by omega), Nat.sub_self, List.getElem?_cons_zero, List.getElem?_set_self (by simp; omega)]
      · rw [if_neg (by omega), List.getElem?_set_ne (by omega)]
theorem fill_step (place : Nat → Option (Nat × Nat)) (cells : Array Value) (i : Nat) (v : Value) (rest : List (Nat × Value)) {off size : Nat} (hp : place i = some (off, size)) (hs : v.cells.size = size) (hle : off + size ≤ cells.size) :
    Instr.fill place cells ((i, v) :: rest) = Instr.fill place (splice cells.toList off v.cells.toList).toArray rest := by
  rw [Instr.fill]
  simp only [hp]
  rw [if_neg (by simp; omega)]
  congr 1
  have := fill_foldl off v.cells.toList 0 cells (by simp; omega)
  apply Array.ext'
  simp only [Nat.add_zero] at this
  rw [← this]
  simp only [← Array.foldl_toList, Array.toList_zipIdx]
def bldB (ρ : Operand → AV) (pl : List (Nat × Nat)) : List (Nat × Operand) → List AV → Bool
  | [], _ => true
  | (k, x) :: r, l => (match l[k]?, pl[k]? with
    | some y, some (off, sz) => (ρ x).layable && (ρ x).sz == y.sz && sz == y.sz && off == AV.szL (l.take k)
    | _, _ => false) && bldB ρ pl r (l.set k (ρ x))
def bldL (ρ : Operand → AV) : List (Nat × Operand) → List AV → List AV
  | [], l => l
  | (k, x) :: r, l => bldL ρ r (l.set k (ρ x))
theorem fill_rel {E : RE} {ρ : Operand → AV} {ε : Operand → Value} (pl : List (Nat × Nat)) : ∀ (parts : List (Nat × Operand)) (l : List AV) (cs : Array Value), (∀ p, p ∈ parts → RelV E (ρ p.2) (ε p.2)) → RelL E l cs.toList →
    bldB ρ pl parts l = true → ∃ cs', Instr.fill (fun x => pl.toArray[x]?) cs (parts.map fun p => (p.1, ε p.2)) = some cs' ∧ RelL E (bldL ρ parts l) cs'.toList
  | [], l, cs, _, h, _ => ⟨cs, by simp [Instr.fill], h⟩
  | (k, x) :: r, l, cs, hp, h, hb => by
    simp only [bldB, Bool.and_eq_true] at hb
    obtain ⟨hb1, hb2⟩ := hb
    split at hb1
    · rename_i y off sz hy hpl
      simp only [Bool.and_eq_true, beq_iff_eq] at hb1
      obtain ⟨⟨⟨b1, b2⟩, b3⟩, b4⟩ := hb1
      have hv := (hp (k, x) (by simp)).cells b1
      have hvl := Rel.length _ _ hv
      obtain ⟨g1, g2⟩ := RelL.get l cs.toList k y h hy
      simp only [Array.length_toList] at hvl g2
      have hset := RelL.set l cs.toList k y (ρ x) (ε x).cells.toList h hy hv b2
      rw [List.map_cons, fill_step (off := off) (size := sz) _ _ _ _ _ (by simpa using hpl) (by show (ε x).cells.size = sz; omega) (by omega)]
      obtain ⟨cs', h1, h2⟩ := fill_rel pl r (l.set k (ρ x)) (splice cs.toList off (ε x).cells.toList).toArray (fun p hp' => hp p (by simp [hp'])) (by rw [b4]; simpa using hset) hb2
      exact ⟨cs', h1, by simpa [bldL] using h2⟩
    · cases hb1
theorem mapM_places {P : Program} {w : World} : ∀ (fs : List Field) (pl : List (Nat × Nat)), (fs.mapM fun f => (P.info? f.type).map fun i => (f.offset, i.size)) = some pl →
    (fs.mapM fun f => (do let n ← Go.sizeOf f.type; pure (f.offset, n) : Sem (Nat × Nat))).run P w = .ok pl w
  | [], pl, h => by simp at h; subst h; simp
  | f :: fs, pl, h => by
    rw [List.mapM_cons] at h
    cases hi : P.info? f.type with
    | none => simp [hi] at h
    | some i =>
      cases hr : (fs.mapM fun f => (P.info? f.type).map fun i => (f.offset, i.size)) with
      | none => simp [hi, hr] at h
      | some pl' =>
        simp [hi, hr] at h
        subst h
        rw [List.mapM_cons]
        have ih := mapM_places (w := w) fs pl' hr
        have hs : (Go.sizeOf f.type).run P w = .ok i.size w := by simp [Go.sizeOf, typeInfo, hi]
        simp only [Sem.run_bind, hs, Result.andThen, Sem.run_pure, ih]
section
variable {V : Env} {o : Oper} {ρ : Operand → AV} {η : Nat → Option AV}
theorem opp_build {t : TypeId} {parts : Array (Nat × Operand)} {zs : List AV} {pl : List (Nat × Nat)} (ho : o.op = .build t parts) (hz : Zero V.P t (.agg zs)) (hp : bldOf V.P t = some pl) (hb : bldB ρ pl parts.toList zs = true) (vs : List AV)
    (hvs : bldL ρ parts.toList zs = vs) : OpP V o ρ η (.agg vs) :=
  opp_val fun E ε hV _ h _ => by
    obtain ⟨i, z, hi, hv, hs, hr⟩ := hz
    have hr' := hr E
    simp only [Rel] at hr'
    obtain ⟨cs', h1, h2⟩ := fill_rel (E := E) (ε := ε) pl parts.toList zs z.cells (fun p hp' => h p.2 (by
      simp only [ho, Op.operands, List.mem_toArray]
      exact List.mem_map.2 ⟨p, hp', rfl⟩)) hr' hb
    refine ⟨.agg cs', ?_, by simp only [RelV]; exact ⟨cs', rfl, by rw [← hvs]; exact h2⟩⟩
    unfold bldOf at hp
    split at hp
    · rename_i fs hu
      have hm : (fs.mapM fun f => (do let n ← Go.sizeOf f.type; pure (f.offset, n) : Sem (Nat × Nat))).run V.P E.w = .ok pl.toArray E.w := by
        have e : fs = fs.toList.toArray := by simp
        rw [e, List.mapM_toArray]
        simp only [Sem.run_map, mapM_places fs.toList pl hp, Result.andThen]
      have hzv : (zeroValue t).run V.P E.w = .ok z E.w := by simp [zeroValue, typeInfo, hi, hv, Result.andThen]
      have hmap : (parts.map fun (p : Nat × Operand) => (p.1, ε p.2)).toList = parts.toList.map fun p => (p.1, ε p.2) := by simp
      simp only [execOp, ho, Instr.build, Sem.run_bind, hzv, Result.andThen, run_underlying hu, hm]
      rw [hmap, h1]
      simp only [Sem.run_pure]
    · cases hp
/-! ### Comparisons -/
theorem opp_slNil {op : BinOp} {t e u : TypeId} {x y : Operand} {z z' : Nat} {nn : Bool} {n : Nat} {f g : Nat → AV} {r : Bool} (ho : o.op = .binOp op t x y u) (hx : ρ x = .sl z nn n f) (hy : ρ y = .sl z' true 0 g)
    (hu : V.P.underlying t = some (.slice e)) (hop : (op = .eql ∧ r = nn) ∨ (op = .neq ∧ r = !nn)) : OpP V o ρ η (.bool r) :=
  opp_val fun E ε hV _ h _ => by
    have h1 := h x (by simp [ho, Op.operands])
    have h2 := h y (by simp [ho, Op.operands])
    rw [hx] at h1; rw [hy] at h2
    simp only [RelV, Rel, List.cons.injEq, and_true] at h1 h2
    obtain ⟨a, cap, h1, -, hnn, -⟩ := h1
    obtain ⟨b, cap', h2, -, hb, -⟩ := h2
    have hb' : b = none := by
      cases b with
      | none => rfl
      | some _ => cases hb
    subst hb'
    refine ⟨.bool r, ?_, by simp [RelV]⟩
    have hg : (eqGuard op t x y (.slice a n cap) (.slice none 0 cap')).run V.P E.w = .ok () E.w := by
      rcases hop with ⟨rfl, rfl⟩ | ⟨rfl, rfl⟩ <;> rfl
    simp only [execOp, ho, h1, h2, Sem.run_bind, hg, Result.andThen]
    rcases hop with ⟨rfl, rfl⟩ | ⟨rfl, rfl⟩
    · simp [Lib.run_eql_slice_nil E.w t e a n cap 0 cap' hu, hnn, Result.andThen]
    · simp [run_neq_slice_nil_any E.w t e a n cap 0 cap' hu, hnn, Result.andThen]
end
end Go.Fy
/- The engine, 15: own rows: literals, make, the bytes of a string, append (my own text; any program). -/
set_option linter.unusedSimpArgs false
namespace Go.Fy
open Go.RowKit
/-- The cells of n elements, each with this zero value. -/
theorem made_rel {E : RE} {x : AV} {z : Array Value} {s : Nat} (hs : z.size = s) (h : ∀ E : RE, Rel E x z.toList) (n : Nat) : Rel E (.arr s n fun _ => x) (madeCells z (n * s)).toList := by
  have hl : (madeCells z (n * s)).toList.length = n * s := by simp [madeCells]
  simp only [Rel]
  refine ⟨hl, fun j hj => ?_⟩
  have hle : (j + 1) * s ≤ n * s := Nat.mul_le_mul_right _ hj
  rw [Nat.add_mul, Nat.one_mul] at hle
  have e : ((madeCells z (n * s)).toList.drop (j * s)).take s = z.toList := by
    apply List.ext_getElem?
    intro k
    by_cases hk : k < s
    · rw [List.getElem?_take_of_lt hk, List.getElem?_drop]
      have hlt : j * s + k < n * s := by omega
      simp only [madeCells, Array.toList_map, Array.toList_range, List.getElem?_map, List.getElem?_range hlt, Option.map_some, Array.getElem?_toList]
      rw [show (j * s + k) % z.size = k by rw [hs, Nat.add_comm, Nat.add_mul_mod_self_right, Nat.mod_eq_of_lt hk]]
      rw [Array.getElem?_eq_getElem (by omega), getElem!_pos z k (by omega)]
    · rw [List.getElem?_eq_none (by rw [List.length_take]; omega), List.getElem?_eq_none (by simp; omega)]
  rw [e]
  exact ⟨h _, by simpa using hs⟩
/-- A slice type's elements: type, cells, bytes. -/
def elB (P : Program) (t : TypeId) : Option (TypeId × Nat × Nat) :=
  match P.underlying t with
  | some (.slice e) => match P.info? e with
    | some i => some (e, i.size, i.bytes)
    | none => none
  | _ => none
theorem elB_spec {P : Program} {t e : TypeId} {s b : Nat} (h : elB P t = some (e, s, b)) : P.underlying t = some (.slice e) ∧ ∃ i, P.info? e = some i ∧ i.size = s ∧ i.bytes = b := by
  unfold elB at h
  split at h
  · rename_i e' hu
    split at h
    · rename_i i hi
      simp only [Option.some.injEq, Prod.mk.injEq] at h
      obtain ⟨rfl, rfl, rfl⟩ := h
      exact ⟨hu, i, hi, rfl, rfl⟩
    · cases h
  · cases h
section
variable {C : Ctx} {o : Oper} {ρ : Operand → AV} {η : Nat → Option AV}
/-- A new row in the result's slot. -/
theorem ConcS.newRow {S : St} {a : Act} {w : World} {σ : Nat → Nat} (hc : ConcS C S a w σ) (dst : Option Tmp) (hd : ∀ d, dst = some d → d < C.N) (n : Nat) (hn : n ∉ S.nm) (z l cp m : Nat) (f : Nat → AV) (c : Array Value) (t : TypeId) (fr : Nat × Nat)
    (cs rest : List Value) (hcs : c.toList = cs ++ rest) (hfr : ∀ o, o < c.size → ¬ (fr.1 ≤ o ∧ o < fr.2)) (hx : ∀ E : RE, (C.RE S w σ).le E → Rel E (.arr z m f) cs) (k cc : Nat) (h1 : l ≤ k) (h2 : k ≤ cc) (h3 : cc * z ≤ c.size) (hk : k = cp) :
    Conc C (S.upd dst ⟨.osl n z 0 l cp, [(n, some (.arr z m f))], [n]⟩) (a.put dst (.slice (some ⟨w.heap.size, 0, none⟩) l cc)) (w.alloc (.cells c t fr)) := by
  subst hk
  have h4 := hc.alloc n hn (.arr z m f) c t fr cs rest hcs hfr hx
  refine ⟨_, h4.put dst (.osl n z 0 l k) _ hd ?_⟩
  simp only [RelV, Rel, Ctx.RE]
  refine ⟨by simp, h1, 0, cc, by simp, h2, by simp, c, t, fr, ?_, by simpa using h3⟩
  simp only [if_true]
  show (w.heap.push _)[w.heap.size]? = _
  simp
theorem opr_make {t : TypeId} {x y : Operand} {k k' : IntKind} {a b : Int} {e : TypeId} {s by_ : Nat} {z : AV} {n : Nat} (ho : o.op = .makeSlice t x y) (hx : ρ x = .int k a) (hy : ρ y = .int k' b) (ht : elB C.V.P t = some (e, s, by_)) (hz : Zero C.V.P e z)
    (h0 : 0 ≤ a) (hab : a ≤ b) (hb : by_ * b ≤ 281474976710656) (hb' : b ≤ 9223372036854775807) : OpR C o ρ η ⟨.osl n s 0 a.toNat b.toNat, [(n, some (.arr s b.toNat fun _ => z))], [n]⟩ := by
  intro hd S hρ hη hn a' w ⟨σ, hc⟩
  obtain ⟨hu, i, hi, rfl, rfl⟩ := elB_spec ht
  obtain ⟨i', v, hi', hv, hs, hr⟩ := hz
  rw [hi] at hi'
  simp only [Option.some.injEq] at hi'
  subst hi'
  have e1 := hρ x (by simp [ho, Op.operands]) _ _ rfl (ev_rel hc x)
  have e2 := hρ y (by simp [ho, Op.operands]) _ _ rfl (ev_rel hc y)
  rw [hx] at e1; rw [hy] at e2
  simp only [RelV] at e1 e2
  have hrun : (execOp a'.eval o).run C.V.P w = .ok (.value (.slice (some ⟨w.heap.size, 0, none⟩) a.toNat b.toNat)) (w.alloc (.cells (madeCells v.cells (b.toNat * i.size)) e)) := by
    simp only [execOp, ho, e1, e2, Sem.run_bind, run_make w t e i v hu hi hv k k' a b h0 hab hb hb', Result.andThen, Sem.run_pure]
  unfold Oper.wp
  rw [hrun]
  exact hc.newRow o.dst hd n (hn n (by simp)) i.size a.toNat b.toNat b.toNat (fun _ => z) _ e (0, 0) (madeCells v.cells (b.toNat * i.size)).toList [] (by simp) (by simp) (fun E _ => made_rel hs hr b.toNat) b.toNat b.toNat (by omega) (Nat.le_refl _) (by simp [madeCells]) rfl
/-- The bytes of a string, as elements. -/
def bAt (s : List UInt8) (j : Nat) : AV := .int .u8 ((s.getD j 0).toNat : Int)
/-! ### Literals of rows -/
def bslB (ρ : Operand → AV) (z len : Nat) : List (Nat × Operand) → Bool
  | [] => true
  | (k, x) :: r => decide (k < len) && (ρ x).layable && (ρ x).sz == z && (ρ x).noN && bslB ρ z len r
def bslF (ρ : Operand → AV) : List (Nat × Operand) → (Nat → AV) → Nat → AV
  | [], f => f
  | (k, x) :: r, f => bslF ρ r fun j => if j = k then ρ x else f j
theorem fill_arr {E : RE} {ρ : Operand → AV} {ε : Operand → Value} {z len : Nat} : ∀ (parts : List (Nat × Operand)) (f : Nat → AV) (cs : Array Value), (∀ p, p ∈ parts → RelV E (ρ p.2) (ε p.2)) → Rel E (.arr z len f) cs.toList →
    bslB ρ z len parts = true → ∃ cs', Instr.fill (fun i => some (i * z, z)) cs (parts.map fun p => (p.1, ε p.2)) = some cs' ∧ Rel E (.arr z len (bslF ρ parts f)) cs'.toList
  | [], f, cs, _, h, _ => ⟨cs, by simp [Instr.fill], h⟩
  | (k, x) :: r, f, cs, hp, h, hb => by
    simp only [bslB, Bool.and_eq_true, decide_eq_true_eq, beq_iff_eq] at hb
    obtain ⟨⟨⟨⟨b1, b2⟩, b3⟩, b4⟩, b5⟩ := hb
    have hv := (hp (k, x) (by simp)).cells b2
    have hvl := Rel.length _ _ hv
    simp only [Array.length_toList] at hvl
    have hfk : (f k).sz = z := by
      simp only [Rel] at h
      have := h.2 k b1
      have h3 := Rel.length _ _ this.1
      omega
    have hlen : cs.size = len * z := by simp only [Rel] at h; simpa using h.1
    have hle : (k + 1) * z ≤ len * z := Nat.mul_le_mul_right _ b1
    rw [Nat.add_mul, Nat.one_mul] at hle
    have hset := rel_setP [k] (.arr z len f) cs.toList (f k) (ρ x) (ε x).cells.toList h rfl ⟨b1, trivial⟩ hv (by omega) (fun _ => b4)
    rw [List.map_cons, fill_step (off := k * z) (size := z) _ _ _ _ _ rfl (by show (ε x).cells.size = z; omega) (by omega)]
    obtain ⟨cs', h1, h2⟩ := fill_arr r (fun j => if j = k then ρ x else f j) (splice cs.toList (k * z) (ε x).cells.toList).toArray (fun p hp' => hp p (by simp [hp'])) (by simpa [setP, offP] using hset) b5
    exact ⟨cs', h1, by simpa [bslF] using h2⟩
theorem opr_buildSlice {t : TypeId} {len : Nat} {parts : Array (Nat × Operand)} {e : TypeId} {s by_ : Nat} {z : AV} {g : Nat → AV} {n : Nat} (ho : o.op = .buildSlice t len parts) (ht : elB C.V.P t = some (e, s, by_)) (hz : Zero C.V.P e z) (hl : len * s ≤ 2 ^ 24)
    (hb : bslB ρ s len parts.toList = true) (hg : (bslF ρ parts.toList fun _ => z) = g) : OpR C o ρ η ⟨.osl n s 0 len len, [(n, some (.arr s len g))], [n]⟩ := by
  subst hg
  intro hd S hρ hη hn a w ⟨σ, hc⟩
  obtain ⟨hu, i, hi, rfl, rfl⟩ := elB_spec ht
  obtain ⟨i', v, hi', hv, hs, hr⟩ := hz
  rw [hi] at hi'
  simp only [Option.some.injEq] at hi'
  subst hi'
  have hparts : ∀ E : RE, (C.RE S w σ).le E → ∀ p, p ∈ parts.toList → RelV E (ρ p.2) (a.eval p.2) := fun E hE p hp => by
    refine RelV.le hE _ _ (hρ p.2 ?_ _ _ rfl (ev_rel hc p.2))
    simp only [ho, Op.operands, List.mem_toArray]
    exact List.mem_map.2 ⟨p, hp, rfl⟩
  obtain ⟨cs', h1, h2⟩ := fill_arr (E := C.RE S w σ) (ε := a.eval) parts.toList (fun _ => z) (madeCells v.cells (len * i.size)) (hparts _ (RE.le.refl _)) (made_rel hs hr len) hb
  have hrun : (execOp a.eval o).run C.V.P w = .ok (.value (.slice (some ⟨w.heap.size, 0, none⟩) len len)) (w.alloc (.cells cs' e)) := by
    have hsz : (Go.sizeOf e).run C.V.P w = .ok i.size w := by simp [Go.sizeOf, typeInfo, hi]
    have hzv : (zeroValue e).run C.V.P w = .ok v w := by simp [zeroValue, typeInfo, hi, hv, Result.andThen]
    have hmap : (parts.map fun (p : Nat × Operand) => (p.1, a.eval p.2)).toList = parts.toList.map fun p => (p.1, a.eval p.2) := by simp
    simp only [execOp, ho, Instr.buildSlice, Sem.run_bind, run_underlying hu, Result.andThen, hsz, Sem.run_map]
    rw [if_neg (by omega)]
    by_cases h0 : len * i.size = 0
    · rw [if_pos h0]
      simp only [Sem.run_bind, Sem.run_pure, Result.andThen]
      have e0 : madeCells v.cells (len * i.size) = (Array.range (len * i.size)).map (fun x => (#[] : Array Value)[x % (#[] : Array Value).size]!) := by
        rw [h0]; simp [madeCells, show Array.range 0 = #[] from rfl]
      rw [e0] at h1
      rw [hmap, h1]
      simp [newRow, Result.andThen]
    · rw [if_neg h0]
      simp only [Sem.run_bind, hzv, Sem.run_pure, Result.andThen]
      rw [hmap]
      have e0 : madeCells v.cells (len * i.size) = (Array.range (len * i.size)).map (fun x => v.cells[x % v.cells.size]!) := rfl
      rw [e0] at h1
      rw [h1]
      simp [newRow, Result.andThen]
  unfold Oper.wp
  rw [hrun]
  have hlen : cs'.size = len * i.size := by simp only [Rel] at h2; simpa using h2.1
  exact hc.newRow o.dst hd n (hn n (by simp)) i.size len len len _ cs' e (0, 0) cs'.toList [] (by simp) (by simp) (fun E hE => Rel.le hE _ _ h2) len len (Nat.le_refl _) (Nat.le_refl _) (by omega) rfl
end
end Go.Fy
/- The engine, 16: append (my own text; any program). -/
set_option linter.unusedSimpArgs false
namespace Go.Fy
open Go.RowKit
/-- A row that is read: k elements of z cells. -/
inductive RowV (η : Nat → Option AV) : AV → Nat → Nat → (Nat → AV) → Option Nat → Prop
  | sl {z k : Nat} {nn : Bool} {g : Nat → AV} : RowV η (.sl z nn k g) z k g none
  | osl {i z of k c m : Nat} {f g : Nat → AV} (hi : η i = some (.arr z m f)) (hle : of + k ≤ m) (hg : ∀ j, j < k → g j = f (of + j)) : RowV η (.osl i z of k c) z k g (some i)
theorem RowV.osl0 {η : Nat → Option AV} {i z k c m : Nat} {f : Nat → AV} (hi : η i = some (.arr z m f)) (hle : k ≤ m) : RowV η (.osl i z 0 k c) z k f (some i) := .osl hi (by omega) (fun j _ => by rw [Nat.zero_add])
/-- Its cells, in one list. -/
theorem RowV.cells {η : Nat → Option AV} {E : RE} {x : AV} {z k : Nat} {g : Nat → AV} {v : Value} {i? : Option Nat} (h : RowV η x z k g i?) (hη : ∀ i y, η i = some y → i ∈ E.nm ∧ Blk E (E.σ i) y) (hv : RelV E x v) :
    ∃ a cap cs, v = .slice a k cap ∧ k ≤ cap ∧ (0 < k → ∃ b, a = some b ∧ b.spot = none ∧ (∀ i, i? = some i → b.block = E.σ i) ∧ (i? = none → E.G b.block)) ∧ (a = none → k = 0 ∧ cap = 0) ∧ (∀ b, a = some b → Holds E.w b 0 cs) ∧ Rel E.bare (.arr z k g) cs := by
  have key : ∀ (b : Addr) (g : Nat → AV), (∀ j, j < k → ∃ ds, ds.length = z ∧ Holds E.w b (j * z) ds ∧ Rel E.bare (g j) ds) → ∃ cs, Holds E.w b 0 cs ∧ Rel E.bare (.arr z k g) cs := by
    intro b g hj
    let cs : List Value := (List.range (k * z)).map fun i => (E.w.cell? ⟨b.block, b.off + i, none⟩).getD undef
    have hget : ∀ j ds, j < k → ds.length = z → Holds E.w b (j * z) ds → (cs.drop (j * z)).take z = ds := fun j ds hjk hl hh => by
      have hle : (j + 1) * z ≤ k * z := Nat.mul_le_mul_right _ hjk
      rw [Nat.add_mul, Nat.one_mul] at hle
      apply List.ext_getElem?
      intro t
      by_cases ht : t < z
      · rw [List.getElem?_take_of_lt ht, List.getElem?_drop]
        have hlt : j * z + t < k * z := by omega
        simp only [cs, List.getElem?_map, List.getElem?_range hlt, Option.map_some]
        have hd : ds[t]? = some ds[t] := List.getElem?_eq_getElem (by omega)
        rw [hh t _ hd, hd]; rfl
      · rw [List.getElem?_eq_none (by rw [List.length_take]; omega), List.getElem?_eq_none (by omega)]
    refine ⟨cs, fun t v ht => ?_, ?_⟩
    · have hlt : t < k * z := by have := (List.getElem?_eq_some_iff.1 ht).1; simpa [cs] using this
      have hz : 0 < z := by
        rcases Nat.eq_zero_or_pos z with h0 | h0
        · subst h0; simp at hlt
        · exact h0
      have hjk : t / z < k := Nat.div_lt_of_lt_mul (by rw [Nat.mul_comm]; exact hlt)
      obtain ⟨ds, h1, h2, h3⟩ := hj (t / z) hjk
      have hm := Nat.mod_lt t hz
      have hd := Nat.div_add_mod t z
      have e : ds[t % z]? = some v := by
        have := hget _ ds hjk h1 h2
        rw [← this, List.getElem?_take_of_lt hm, List.getElem?_drop, show t / z * z + t % z = t by rw [Nat.mul_comm]; exact hd]; exact ht
      have := h2 _ _ e
      rw [show t / z * z + t % z = t by rw [Nat.mul_comm]; exact hd] at this
      rw [Nat.zero_add]; exact this
    · simp only [Rel]
      refine ⟨by simp [cs], fun j hjk => ?_⟩
      obtain ⟨ds, h1, h2, h3⟩ := hj j hjk
      rw [hget j ds hjk h1 h2]
      exact ⟨h3, h1⟩
  cases h with
  | sl =>
    simp only [RelV, Rel, List.cons.injEq, and_true] at hv
    obtain ⟨a, cap, h1, h2, h3, h4, h5⟩ := hv
    cases a with
    | none =>
      obtain ⟨rfl, rfl⟩ := h4 rfl
      exact ⟨none, 0, [], h1, h2, fun h => absurd h (by omega), fun _ => ⟨rfl, rfl⟩, fun b hb => (by cases hb), by simp only [Rel]; exact ⟨by simp, fun j hj => absurd hj (by omega)⟩⟩
    | some b =>
      obtain ⟨h6, h7, h8⟩ := h5 b rfl
      obtain ⟨cs, h9, h10⟩ := key b g h8
      exact ⟨some b, cap, cs, h1, h2, fun hk => ⟨b, rfl, h6 hk, fun i hi => (by cases hi), fun _ => h7 hk⟩, fun h => (by cases h), fun b' hb => (by cases hb; exact h9), h10⟩
  | @osl i z of k c m f g hi hle hg =>
    simp only [RelV, Rel, List.cons.injEq, and_true] at hv
    obtain ⟨h1, h2, o, cap, h3, h4, h5, c', t', fr', h6, h7⟩ := hv
    obtain ⟨-, c1, t1, f1, cs1, rest, g1, g2, g3, g4⟩ := hη i _ hi
    rcases Nat.eq_zero_or_pos k with hk | hk
    · subst hk
      refine ⟨_, cap, [], h3, by omega, fun h => absurd h (by omega), (fun h => by cases h), fun b hb => ?_, by simp only [Rel]; exact ⟨by simp, fun j hj => absurd hj (by omega)⟩⟩
      intro t v ht; simp at ht
    · have ho := h5 (by omega)
      subst ho
      simp only [Rel] at g3
      obtain ⟨cs, h9, h10⟩ := key ⟨E.σ i, of * z, none⟩ g (fun j hj => by
        obtain ⟨q1, q2⟩ := g3.2 (of + j) (by omega)
        refine ⟨_, q2, fun t v ht => ?_, by rw [hg j hj]; exact q1⟩
        have ht' : t < z := by rw [← q2]; exact (List.getElem?_eq_some_iff.1 ht).1
        rw [List.getElem?_take_of_lt ht', List.getElem?_drop] at ht
        have hm1 := Nat.mul_le_mul_right z (show of + j + 1 ≤ m by omega)
        rw [Nat.add_mul (of + j) 1 z, Nat.one_mul] at hm1
        have hl : (of + j) * z + t < cs1.length := by rw [g3.1]; omega
        simp only [World.cell?, g1, Option.isSome_none, Bool.false_eq_true, if_false]
        rw [← Array.getElem?_toList, g2, show of * z + (j * z + t) = (of + j) * z + t by rw [Nat.add_mul]; omega, List.getElem?_append_left hl]
        exact ht)
      exact ⟨_, cap, cs, h3, by omega, fun _ => ⟨_, rfl, rfl, fun i' hi' => (by cases hi'; rfl), fun h => (by cases h)⟩, (fun h => by cases h), fun b hb => (by cases hb; exact h9), h10⟩
theorem firstCells_run {P : Program} {w : World} {z k cap : Nat} {a : Option Addr} {cs : List Value} (hl : cs.length = k * z) (h0 : a = none → k = 0) (hs : ∀ b, a = some b → 0 < k → b.spot = none) (hh : ∀ b, a = some b → Holds w b 0 cs) :
    (Builtin.firstCells z k (.slice a k cap)).run P w = .ok cs.toArray w := by
  cases a with
  | none =>
    have := h0 rfl; subst this
    have : cs = [] := List.length_eq_zero_iff.1 (by omega)
    subst this; rfl
  | some b =>
    refine run_firstCells_some w z k b k cap cs hl fun j v hj => ?_
    have hk : 0 < k := by
      rcases Nat.eq_zero_or_pos k with h | h
      · subst h; have := (List.getElem?_eq_some_iff.1 hj).1; omega
      · exact h
    rw [add_eq (hs b rfl hk)]
    have := hh b rfl j v hj
    rwa [Nat.zero_add] at this
theorem append_room {P : Program} {w w' : World} {t ty e : TypeId} {z by_ n cap k capx : Nat} {a : Addr} {ax : Option Addr} {cs : List Value} (ht : elB P t = some (e, z, by_)) (hn : n + k ≤ cap)
    (hx : (Builtin.firstCells z k (.slice ax k capx)).run P w = .ok cs.toArray w) (hst : (storeCells (a.add (n * z)) cs).run P w = .ok () w') :
    (Builtin.append_ #[t, t] ty #[.slice (some a) n cap, .slice ax k capx]).run P w = .ok (.slice (some a) (n + k) cap) w' := by
  obtain ⟨hu, i, hi, rfl, rfl⟩ := elB_spec ht
  simp [Builtin.append_, run_underlying hu, sizeOf, typeInfo, hi, Builtin.lenOf, hn, hx, hst, Result.andThen]
theorem append_grow {P : Program} {w : World} {t ty e : TypeId} {z by_ n cap k capx : Nat} {a ax : Option Addr} {olds news : List Value} {zi : Value} (ht : elB P t = some (e, z, by_))
    (hz : ∀ i, P.info? e = some i → i.zero = some zi) (hn : cap < n + k)
    (ho : (Builtin.firstCells z n (.slice a n cap)).run P w.drew = .ok olds.toArray w.drew)
    (hx : (Builtin.firstCells z k (.slice ax k capx)).run P w.drew = .ok news.toArray w.drew) (h63 : ((n + k : Nat) : Int) ≤ 9223372036854775807) (hfit : Builtin.nextslicecap (n + k) cap * by_ ≤ 281474976710656) :
    (Builtin.append_ #[t, t] ty #[.slice a n cap, .slice ax k capx]).run P w = .ok (.slice (some ⟨w.heap.size, 0, none⟩) (n + k) (grownCap w (n + k) cap e))
        (w.drew.alloc (.cells (olds.toArray ++ news.toArray ++ Builtin.zeroCells zi.cells (grownCap w (n + k) cap e - (n + k))) e)) := by
  obtain ⟨hu, i, hi, rfl, rfl⟩ := elB_spec ht
  have hn' : ¬ (n + k ≤ cap) := by omega
  have h63' : ¬ (9223372036854775807 < ((n : Int) + (k : Int))) := by omega
  have h48' : ¬ (281474976710656 < Builtin.nextslicecap (n + k) cap * i.bytes) := by omega
  simp [Builtin.append_, run_underlying hu, sizeOf, typeInfo, zeroValue, hi, hz i hi, Builtin.lenOf, hn', h63', h48', Question.forced, hx, ho, newRow, grownCap]
  congr 2
  apply Array.ext'
  simp
/-- Rows behind one another. -/
theorem arr_append {E : RE} {z n k : Nat} {f g : Nat → AV} {as1 bs : List Value} (h1 : Rel E (.arr z n f) as1) (h2 : Rel E (.arr z k g) bs) : Rel E (.arr z (n + k) fun j => if j < n then f j else g (j - n)) (as1 ++ bs) := by
  simp only [Rel] at *
  refine ⟨by rw [List.length_append, h1.1, h2.1, Nat.add_mul], fun j hj => ?_⟩
  by_cases h : j < n
  · simp only [if_pos h]
    have hle : (j + 1) * z ≤ n * z := Nat.mul_le_mul_right _ h
    rw [Nat.add_mul, Nat.one_mul] at hle
    have e : ((as1 ++ bs).drop (j * z)).take z = (as1.drop (j * z)).take z := by
      rw [List.drop_append_of_le_length (by omega), List.take_append_of_le_length (by rw [List.length_drop]; omega)]
    rw [e]; exact h1.2 j h
  · simp only [if_neg h]
    have e : ((as1 ++ bs).drop (j * z)).take z = (bs.drop ((j - n) * z)).take z := by
      have : j * z = as1.length + (j - n) * z := by rw [h1.1, ← Nat.add_mul]; congr 1; omega
      rw [this, List.drop_length_add_append]
    rw [e]; exact h2.2 (j - n) (by omega)
theorem arr_take {E : RE} {z n m : Nat} {f : Nat → AV} {as1 : List Value} (h : Rel E (.arr z m f) as1) (hn : n ≤ m) : Rel E (.arr z n f) (as1.take (n * z)) := by
  simp only [Rel] at *
  have hm : n * z ≤ m * z := Nat.mul_le_mul_right _ hn
  refine ⟨by rw [List.length_take]; omega, fun j hj => ?_⟩
  have hle : (j + 1) * z ≤ n * z := Nat.mul_le_mul_right _ hj
  rw [Nat.add_mul, Nat.one_mul] at hle
  have e : ((as1.take (n * z)).drop (j * z)).take z = (as1.drop (j * z)).take z := by
    rw [List.drop_take, List.take_take, Nat.min_eq_left (by omega)]
  rw [e]; exact h.2 j (by omega)
/-- An own block is let go. -/
theorem ConcS.dropH {C : Ctx} {F : List (Nat × AV)} {H H' : List (Nat × Option AV)} {nm : List Nat} {a : Act} {w : World} {σ : Nat → Nat} (hc : ConcS C ⟨F, H, nm⟩ a w σ) (h : ∀ j x, getH H' j = some x → getH H j = some x) : ConcS C ⟨F, H', nm⟩ a w σ := by
  have hle : (C.RE ⟨F, H, nm⟩ w σ).le (C.RE ⟨F, H', nm⟩ w σ) := ⟨rfl, fun _ _ => rfl, fun _ h => h, fun b hb => by
    rcases hb with hb | ⟨h1, h2, h3⟩
    · exact .inl hb
    · exact .inr ⟨h1, h2, fun i x hi => h3 i x (h i x hi)⟩, fun _ _ _ _ h => h, fun _ c t fr hh => ⟨c, t, fr, hh, rfl⟩, fun _ _ _ _ h => h⟩
  refine ⟨hc.ok, hc.defers, hc.size, hc.kept, hc.σ0, fun i j x y hi hj => hc.inj i j x y (h i x hi) (h j y hj), fun i x hi => ?_, hc.env.le hle, fun t => RelV.le hle _ _ (hc.slot t)⟩
  obtain ⟨h1, h2, h3, h4⟩ := hc.blk i x (h i x hi)
  exact ⟨h1, h2, h3, h4.le hle rfl⟩
/-- An own block gets a new name. -/
theorem ConcS.renH {C : Ctx} {S : St} {a : Act} {w : World} {σ : Nat → Nat} (hc : ConcS C S a w σ) (i d : Nat) (x : AV) (hi : getH S.H i = some x) (hd : d ∉ S.nm) :
    ConcS C ⟨S.F, (d, some x) :: (i, none) :: S.H, d :: S.nm⟩ a w (fun j => if j = d then σ i else σ j) := by
  have hcase : ∀ j y, getH ((d, some x) :: (i, none) :: S.H) j = some y → (j = d ∧ y = x) ∨ (j ≠ d ∧ j ≠ i ∧ getH S.H j = some y) := fun j y hj => by
    rw [getH_cons, getH_cons] at hj
    by_cases e1 : d = j
    · rw [if_pos e1] at hj; simp only [Option.some.injEq] at hj; exact .inl ⟨e1.symm, hj.symm⟩
    · rw [if_neg e1] at hj
      by_cases e2 : i = j
      · rw [if_pos e2] at hj; cases hj
      · rw [if_neg e2] at hj; exact .inr ⟨Ne.symm e1, Ne.symm e2, hj⟩
  have hne : ∀ j, j ∈ S.nm → j ≠ d := fun j hj e => hd (e ▸ hj)
  have hle : (C.RE S w σ).le (C.RE ⟨S.F, (d, some x) :: (i, none) :: S.H, d :: S.nm⟩ w (fun j => if j = d then σ i else σ j)) := by
    refine ⟨rfl, fun j hj => if_neg (hne j hj), fun j hj => List.mem_cons_of_mem _ hj, fun b hb => ?_, fun _ _ _ _ h => h, fun _ c t fr hh => ⟨c, t, fr, hh, rfl⟩, fun _ _ _ _ h => h⟩
    rcases hb with hb | ⟨h1, h2, h3⟩
    · exact .inl hb
    · refine .inr ⟨h1, h2, fun j y hj => ?_⟩
      rcases hcase j y hj with ⟨rfl, rfl⟩ | ⟨e1, e2, e3⟩
      · simp only [if_true]; exact h3 i _ hi
      · simp only [if_neg e1]; exact h3 j y e3
  refine ⟨hc.ok, hc.defers, hc.size, hc.kept, fun j hj => ?_, fun j l y u hj hl he => ?_, fun j y hj => ?_, hc.env.le hle, fun t => RelV.le hle _ _ (hc.slot t)⟩
  · obtain ⟨h1, h2⟩ := hc.σ0 j hj
    exact ⟨by simp only [if_neg (hne j h2)]; exact h1, List.mem_cons_of_mem _ h2⟩
  · rcases hcase j y hj with ⟨rfl, rfl⟩ | ⟨e1, e2, e3⟩ <;> rcases hcase l u hl with ⟨rfl, rfl⟩ | ⟨d1, d2, d3⟩
    · rfl
    · simp only [if_true, if_neg d1] at he
      exact absurd (hc.inj i l _ _ hi d3 he) (Ne.symm d2)
    · simp only [if_true, if_neg e1] at he
      exact absurd (hc.inj j i _ _ e3 hi he) e2
    · simp only [if_neg e1, if_neg d1] at he
      exact hc.inj j l _ _ e3 d3 he
  · rcases hcase j y hj with ⟨rfl, rfl⟩ | ⟨e1, e2, e3⟩
    · obtain ⟨h1, h2, h3, h4⟩ := hc.blk i _ hi
      simp only [if_true]
      exact ⟨by simp, h2, h3, h4.le hle rfl⟩
    · obtain ⟨h1, h2, h3, h4⟩ := hc.blk j _ e3
      simp only [if_neg e1]
      exact ⟨List.mem_cons_of_mem _ h1, h2, h3, h4.le hle rfl⟩
section
variable {C : Ctx} {o : Oper} {ρ : Operand → AV} {η : Nat → Option AV}
theorem call_append_run {P : Program} {ε : Operand → Value} {s x : Operand} {t : TypeId} {v : Value} {w w' : World} (ho : o.op = .call { callee := .builtin .append, args := #[s, x], argTypes := #[t, t] })
    (h : (Builtin.append_ #[t, t] o.type #[ε s, ε x]).run P w = .ok v w') : (execOp ε o).run P w = .ok (.value v) w' := by
  simp [execOp, ho, resolve, invoke, builtin, h, Result.andThen]
/-- append(nil, x...): x isn't empty. -/
theorem opr_appendNil {s x : Operand} {t e : TypeId} {z by_ zs n0 : Nat} {f0 : Nat → AV} {zv : AV} {k : Nat} {g : Nat → AV} {j? : Option Nat} {d : Nat} (ho : o.op = .call { callee := .builtin .append, args := #[s, x], argTypes := #[t, t] })
    (hs : ρ s = .sl zs true n0 f0) (hx : RowV η (ρ x) z k g j?) (ht : elB C.V.P t = some (e, z, by_)) (hz : Zero C.V.P e zv) (hk : 0 < k) (h63 : k ≤ 9223372036854775807) (hb : k * by_ ≤ 140737488355328) :
    OpR C o ρ η ⟨.osl d z 0 k k, [(d, some (.arr z k g))], [d]⟩ := by
  intro hd S hρ hη hn a w ⟨σ, hc⟩
  have e1 := hρ s (by simp [ho, Op.operands, Call.operands]) _ _ rfl (ev_rel hc s)
  have e2 := hρ x (by simp [ho, Op.operands, Call.operands]) _ _ rfl (ev_rel hc x)
  rw [hs] at e1
  simp only [RelV, Rel, List.cons.injEq, and_true] at e1
  obtain ⟨a1, cap1, e1, -, hnn, hnil, -⟩ := e1
  have ha1 : a1 = none := by
    cases a1 with
    | none => rfl
    | some _ => cases hnn
  subst ha1
  obtain ⟨rfl, rfl⟩ := hnil rfl
  obtain ⟨ax, capx, cs, e2, hkc, hsome, hnone, hh, hr⟩ := hx.cells (fun i y hi => ⟨(hc.blk i y (hη i y hi)).1, (hc.blk i y (hη i y hi)).2.2.2⟩) e2
  have hl : cs.length = k * z := by simp only [Rel] at hr; exact hr.1
  obtain ⟨i, v, hi, hv, hsz, hrz⟩ := hz
  have hrun := append_grow (P := C.V.P) (w := w) (ty := o.type) (a := none) (ax := ax) (capx := capx) (n := 0) (k := k) (cap := 0) (olds := []) (news := cs) (zi := v) ht (fun i' hi' => by rw [hi] at hi'; cases hi'; exact hv) (by omega) rfl
    (firstCells_run hl (fun h => (hnone h).1) (fun b hb hk' => by obtain ⟨b', h1, h2, -⟩ := hsome hk'; rw [hb] at h1; cases h1; exact h2) (fun b hb => hh b hb)) (by omega) (by rw [Nat.zero_add]; exact growslice_fits hk hb)
  rw [Nat.zero_add] at hrun
  generalize hg : grownCap w k 0 e = gc at hrun
  have hge : k ≤ gc := by rw [← hg]; simp [grownCap, Question.cut]
  unfold Oper.wp
  rw [call_append_run ho (by rw [e1, e2]; exact hrun)]
  have hc' : ConcS C S a w.drew σ := hc.world ((Below.refl _ w).drew)
  obtain ⟨hu, i', hi', hz1, hz2⟩ := elB_spec ht
  rw [hi] at hi'; simp only [Option.some.injEq] at hi'; subst hi'
  refine hc'.newRow o.dst hd d (hn d (by simp)) z k k k g _ e (0, 0) cs (Builtin.zeroCells v.cells (gc - k)).toList (by simp) (by simp) (fun E hE => Rel.le (RE.le.trans ?_ hE) _ _ (Rel.le (RE.bare_le _) _ _ (by simpa [Rel] using hr))) k gc (Nat.le_refl _) hge ?_ rfl
  · exact ⟨rfl, fun _ _ => rfl, fun _ h => h, fun b hb => hb, fun _ _ _ _ h => h, fun _ c t fr hh => ⟨c, t, fr, hh, rfl⟩, fun _ _ _ _ h => h⟩
  · simp only [Array.size_append, List.size_toArray, List.length_nil, Nat.zero_add, size_zeroCells, hsz, hz1, hl, ← Nat.add_mul]
    rw [Nat.add_sub_cancel' hge]; exact Nat.le_refl _
/-- append(s, x...), s an own row from its block's beginning. -/
theorem opr_append {s x : Operand} {t e : TypeId} {z by_ : Nat} {zv : AV} {i n c m : Nat} {f : Nat → AV} {k : Nat} {g : Nat → AV} {j? : Option Nat} {d : Nat} (ho : o.op = .call { callee := .builtin .append, args := #[s, x], argTypes := #[t, t] })
    (hs : ρ s = .osl i z 0 n c) (hi : η i = some (.arr z m f)) (hnm : n ≤ m) (hx : RowV η (ρ x) z k g j?) (ht : elB C.V.P t = some (e, z, by_)) (hz : Zero C.V.P e zv) (h63 : n + k ≤ 9223372036854775807) (hb : (n + k) * by_ ≤ 140737488355328) :
    OpR C o ρ η ⟨.osl d z 0 (n + k) (n + k), [(d, some (.arr z (n + k) fun j => if j < n then f j else g (j - n))), (i, none)], [d]⟩ := by
  intro hd S hρ hη hn a w ⟨σ, hc⟩
  have e1 := hρ s (by simp [ho, Op.operands, Call.operands]) _ _ rfl (ev_rel hc s)
  have e2 := hρ x (by simp [ho, Op.operands, Call.operands]) _ _ rfl (ev_rel hc x)
  have hblk : ∀ i y, η i = some y → i ∈ (C.RE S w σ).nm ∧ Blk (C.RE S w σ) ((C.RE S w σ).σ i) y := fun i y hi => ⟨(hc.blk i y (hη i y hi)).1, (hc.blk i y (hη i y hi)).2.2.2⟩
  rw [hs] at e1
  obtain ⟨ao, capo, olds, eo, hno, hsomeo, hnoneo, hho, hro⟩ := (RowV.osl (η := η) (c := c) hi (show 0 + n ≤ m by omega) (fun j _ => by rw [Nat.zero_add] : ∀ j, j < n → f j = f (0 + j))).cells hblk e1
  obtain ⟨ax, capx, news, e2, hkc, hsome, hnone, hh, hr⟩ := hx.cells hblk e2
  have hlo : olds.length = n * z := by simp only [Rel] at hro; exact hro.1
  have hl : news.length = k * z := by simp only [Rel] at hr; exact hr.1
  simp only [RelV, Rel, List.cons.injEq, and_true] at e1
  obtain ⟨h1, h2, of, cap, e1, hcc, hof, cb, tb, fb, hheap, hcsz⟩ := e1
  rw [e1] at eo
  simp only [Value.slice.injEq] at eo
  obtain ⟨rfl, -, rfl⟩ := eo
  have hdn := hn d (by simp)
  rcases Nat.lt_or_ge cap (n + k) with hgrow | hroom
  · -- it grows
    obtain ⟨ii, v, hii, hv, hsz, hrz⟩ := hz
    have hrun := append_grow (P := C.V.P) (w := w) (ty := o.type) (a := some ⟨σ i, of, none⟩) (ax := ax) (capx := capx) (n := n) (k := k) (cap := cap) (olds := olds) (news := news) (zi := v) ht
      (fun i' hi' => by rw [hii] at hi'; cases hi'; exact hv) hgrow
      (firstCells_run hlo (fun h => (by cases h)) (fun b hb hk' => by cases hb; rfl) (fun b hb => hho b hb))
      (firstCells_run hl (fun h => (hnone h).1) (fun b hb hk' => by obtain ⟨b', h1, h2, -⟩ := hsome hk'; rw [hb] at h1; cases h1; exact h2) (fun b hb => hh b hb)) (by omega) (growslice_fits hgrow hb)
    generalize hg : grownCap w (n + k) cap e = gc at hrun
    have hge : n + k ≤ gc := by rw [← hg]; simp [grownCap, Question.cut]
    unfold Oper.wp
    rw [call_append_run ho (by rw [e1, e2]; exact hrun)]
    have hc' : ConcS C S a w.drew σ := hc.world ((Below.refl _ w).drew)
    obtain ⟨hu, i', hi', hz1, hz2⟩ := elB_spec ht
    rw [hii] at hi'; simp only [Option.some.injEq] at hi'; subst hi'
    have hnew := hc'.newRow o.dst hd d hdn z (n + k) (n + k) (n + k) (fun j => if j < n then f j else g (j - n)) (olds.toArray ++ news.toArray ++ Builtin.zeroCells v.cells (gc - (n + k))) e (0, 0) (olds ++ news) (Builtin.zeroCells v.cells (gc - (n + k))).toList (by simp) (by simp)
      (fun E hE => by
        have hle : (C.RE S w σ).le E := RE.le.trans (B := C.RE S w.drew σ) ⟨rfl, fun _ _ => rfl, fun _ h => h, fun b hb => hb, fun _ _ _ _ h => h, fun _ c t fr hh => ⟨c, t, fr, hh, rfl⟩, fun _ _ _ _ h => h⟩ hE
        exact Rel.le hle _ _ (Rel.le (RE.bare_le _) _ _ (arr_append (by simpa [Rel] using hro) (by simpa [Rel] using hr)))) (n + k) gc (Nat.le_refl _) hge
      (by
        simp only [Array.size_append, List.size_toArray, size_zeroCells, hsz, hz1, hl, hlo, ← Nat.add_mul]
        rw [Nat.add_sub_cancel' hge]; exact Nat.le_refl _) rfl
    obtain ⟨σ', hnew⟩ := hnew
    refine ⟨σ', hnew.dropH fun j x hj => ?_⟩
    have hj' : getH ((d, some (.arr z (n + k) fun j => if j < n then f j else g (j - n))) :: (i, none) :: S.H) j = some x := hj
    show getH ((d, some (.arr z (n + k) fun j => if j < n then f j else g (j - n))) :: S.H) j = some x
    rw [getH_cons, getH_cons] at hj'
    rw [getH_cons]
    by_cases q1 : d = j
    · rw [if_pos q1] at hj' ⊢; exact hj'
    · rw [if_neg q1] at hj' ⊢
      by_cases q2 : i = j
      · rw [if_pos q2] at hj'; cases hj'
      · rw [if_neg q2] at hj'; exact hj'
  · -- there is room
    obtain ⟨hm1, hb2, hb3, cc, tt, ff, cs0, rest0, k1, k2, k3, k4⟩ := hc.blk i _ (hη i _ hi)
    have k1' : w.heap[σ i]? = some (.cells cc tt ff) := k1
    have hheap' : w.heap[σ i]? = some (.cells cb tb fb) := hheap
    rw [k1'] at hheap'
    simp only [Option.some.injEq, Obj.cells.injEq] at hheap'
    obtain ⟨rfl, rfl, rfl⟩ := hheap'
    have hnz : n * z ≤ m * z := Nat.mul_le_mul_right _ hnm
    have hcap1 : (n + k) * z ≤ cc.size := Nat.le_trans (Nat.mul_le_mul_right _ hroom) (by simpa using hcsz)
    rw [Nat.add_mul] at hcap1
    have hof0 : 0 < n + k → of = 0 := fun h => by have := hof (by omega); simpa using this
    have hst : (storeCells ((⟨σ i, of, none⟩ : Addr).add (n * z)) news).run C.V.P w = .ok () (w.setCells (σ i) (n * z) news) := by
      rw [add_eq rfl]
      rcases Nat.eq_zero_or_pos (n + k) with h0 | h0
      · have hk0 : k = 0 := by omega
        have : news = [] := List.length_eq_zero_iff.1 (by rw [hl, hk0]; simp)
        subst this
        rfl
      · have hof' := hof0 h0
        subst hof'
        rw [Nat.zero_add]
        have := run_storeCells_cells (P := C.V.P) (σ i) (n * z) news 0 w (fun j hj => by
            rw [hl] at hj
            simp only [World.cell?, k1', Option.isSome_none, Bool.false_eq_true, if_false, Nat.add_zero]
            rw [Array.getElem?_eq_getElem (by omega)]; rfl)
          (fun j hj => by rw [hl] at hj; exact k4 _ (by omega)) (Rel.cells _ _ hr)
        simpa using this
    have hrun := append_room (P := C.V.P) (w := w) (ty := o.type) (a := ⟨σ i, of, none⟩) (ax := ax) (capx := capx) ht hroom
      (firstCells_run hl (fun h => (hnone h).1) (fun b hb hk' => by obtain ⟨b', h1, h2, -⟩ := hsome hk'; rw [hb] at h1; cases h1; exact h2) (fun b hb => hh b hb)) hst
    unfold Oper.wp
    rw [call_append_run ho (by rw [e1, e2]; exact hrun)]
    have hw := hc.write i (.arr z m f) (.arr z (n + k) fun j => if j < n then f j else g (j - n)) (hη i _ hi) (n * z) news (fun c' t' fr' hc' => by
        rw [k1'] at hc'; simp only [Option.some.injEq, Obj.cells.injEq] at hc'; obtain ⟨rfl, -, -⟩ := hc'; rw [hl]; omega)
      (fun E hE cs rest hcs ⟨c', t', fr', q1, q2⟩ => by
        have hlen : cs.length = m * z := by have := Rel.length _ _ hcs; simpa [AV.sz] using this
        refine ⟨cs.take (n * z) ++ news, (cs ++ rest).drop (n * z + news.length), ?_, ?_⟩
        · simp only [splice]
          rw [List.take_append_of_le_length (by omega)]
        · exact arr_append (arr_take hcs hnm) (Rel.le hE _ _ (Rel.le (RE.bare_le _) _ _ (by simpa [Rel] using hr))))
    have hren := hw.renH i d (.arr z (n + k) fun j => if j < n then f j else g (j - n)) (by simp [getH]) hdn
    have hdrop : ConcS C ⟨S.F, (d, some (.arr z (n + k) fun j => if j < n then f j else g (j - n))) :: (i, none) :: S.H, d :: S.nm⟩ a (w.setCells (σ i) (n * z) news) (fun j => if j = d then σ i else σ j) := by
      refine hren.dropH fun j x hj => ?_
      rw [getH_cons, getH_cons] at hj ⊢
      by_cases q1 : d = j
      · rw [if_pos q1] at hj ⊢; exact hj
      · rw [if_neg q1] at hj ⊢
        by_cases q2 : i = j
        · rw [if_pos q2] at hj; cases hj
        · rw [if_neg q2] at hj ⊢; rw [getH_cons, if_neg q2]; exact hj
    refine ⟨_, hdrop.put o.dst (.osl d z 0 (n + k) (n + k)) _ hd ?_⟩
    simp only [RelV, Rel, Ctx.RE]
    refine ⟨by simp, Nat.le_refl _, of, cap, by simp, hroom, fun h => ?_, ?_⟩
    · have := hof h; simpa using this
    · simp only [if_true]
      exact ⟨_, tt, ff, setCells_heap (σ i) news (n * z) w cc tt ff k1' (by rw [hl]; omega), by
        rw [List.size_toArray, splice_length (by rw [hl]; simp; omega)]; simpa using hcsz⟩
end
end Go.Fy
/- The engine, 17: comparisons of structs, reckoned (my own text; any program). -/
set_option linter.unusedSimpArgs false
namespace Go.Fy
open Go.RowKit
theorem Shut.row0 {η : Nat → Option AV} {live : Nat → Bool} {fr : Bool} {i z n c m : Nat} {f : Nat → AV} (hi : η i = some (.arr z m f)) (hl : live i = false) (hle : n ≤ m) (hf : fr = true → ∀ j, j < m → (f j).free = true) : Shut η live fr (.osl i z 0 n c) (.sl z false n f) :=
  .row hi hl (by omega) (fun j _ => by rw [Nat.zero_add]) hf
end Go.Fy
/- The engine, 18: more operations (my own text; any program). -/
set_option linter.unusedSimpArgs false
namespace Go.Fy
open Go.RowKit
section
variable {V : Env} {o : Oper} {ρ : Operand → AV} {η : Nat → Option AV}
end
end Go.Fy
/- The engine, 19: functions that hand back own rows (my own text; any program). -/
set_option linter.unusedSimpArgs false
namespace Go.Fy
open Go.RowKit
/-- A contract: no own block comes in; those of H0 come back as the caller's own, by these names. -/
def AOwn (V : Env) (f : FuncId) (args : List AV) (fr : Bool) (r : AV) (H0 : List (Nat × Option AV)) : Prop :=
  ACalls V f args [] fr fun r' H' nm' => WkV r' r ∧ H' = H0 ∧ nm' = H0.map (·.1)
/-- The end of such a function: what is left (r0), what comes back (r1), what is promised (r). -/
def OEnd (C : Ctx) (fn : Func) (fr : Bool) (r : AV) (H0 : List (Nat × Option AV)) (S : St) : Prop :=
  ∃ r0 r1, Res C S fn r0 ∧ Shut (getH S.H) (fun i => (getH H0 i).isSome) fr r0 r1 ∧ WkV r1 r ∧ r1.inB (H0.map (·.1)) = true ∧
    (∀ i x, getH H0 i = some x → ∃ y z, getH S.H i = some y ∧ Shut (getH S.H) (fun i => (getH H0 i).isSome) fr y z ∧ (z = .top → y.one = true) ∧ WkC z x ∧ z.inB (H0.map (·.1)) = true)
def OPost (C : Ctx) (fn : Func) (fr : Bool) (r : AV) (H0 : List (Nat × Option AV)) : Exit → St → Prop
  | .normal, S | .ret, S => OEnd C fn fr r H0 S
  | _, _ => False
theorem opost_ret {C : Ctx} {fn : Func} {fr : Bool} {r : AV} {H0 : List (Nat × Option AV)} {S : St} (h : OEnd C fn fr r H0 S) : OPost C fn fr r H0 .ret S := h
theorem getH_map {L : List (Nat × Option AV)} : ∀ {i x}, getH L i = some x → i ∈ L.map (·.1) := by
  induction L with
  | nil => intro i x h; simp [getH] at h
  | cons p L ih =>
    intro i x h
    obtain ⟨d, v⟩ := p
    rw [getH_cons] at h
    by_cases e : d = i
    · simp [e]
    · rw [if_neg e] at h; simp [ih h]
theorem aown_of_body {V : Env} {f : FuncId} {fn : Func} {c : Code} {args : List AV} {fr : Bool} {r : AV} {H0 : List (Nat × Option AV)}
    (hf : V.P.funcs[f]? = some fn) (hb : fn.body = some c) {N : Nat} (hN : fn.ntmps = N) (hle : args.length ≤ N)
    (h : ∀ C : Ctx, C.V = V → C.N = N → C.nm0 = [] → (∀ b, C.own0 b → ∃ j, j ∈ C.nm0 ∧ C.σ0 j = b) → AWP C c (OPost C fn fr r H0) ⟨frame0 args 0, [], []⟩) : AOwn V f args fr r H0 := by
  intro w σ G Gall vals h1 h2 h3 h4 h5 h6 h7
  let C : Ctx := { V := V, N := N, w0 := w, G0 := Gall, σ0 := σ, nm0 := [], own0 := fun _ => False }
  have hlen := RelT.length args _ h7
  simp only [Array.length_toList] at hlen
  have hle0 : (⟨V, w, σ, [], Gall⟩ : RE).le (C.RE ⟨frame0 args 0, [], []⟩ w σ) :=
    ⟨rfl, fun _ _ => rfl, fun _ h => h, fun b hb => .inl hb, fun _ _ _ _ h => h, fun _ c t fr h => ⟨c, t, fr, h, rfl⟩, fun _ _ _ _ h => h⟩
  have hleG : (⟨V, w, σ, [], G⟩ : RE).le ⟨V, w, σ, [], Gall⟩ :=
    ⟨rfl, fun _ _ => rfl, fun _ h => h, fun b hb => h2 b hb, fun _ _ _ _ h => h, fun _ c t fr h => ⟨c, t, fr, h, rfl⟩, fun _ _ _ _ h => h⟩
  have hc : ConcS C ⟨frame0 args 0, [], []⟩ { tmps := vals ++ Array.replicate (fn.ntmps - vals.size) undef, defers := [] } w σ := by
    refine ⟨⟨h1, fun b hb h => h⟩, Marks.nil _ _, ?_, ⟨rfl, rfl, rfl, Nat.le_refl _, fun _ _ _ => rfl, fun _ c t fr h => ⟨c, t, fr, h, rfl⟩⟩, fun i hi => (by cases hi), fun i j x y hi => by simp [getH] at hi, fun i x hi => by simp [getH] at hi,
      h4.le (hleG.trans hle0), fun t => ?_⟩
    · show (vals ++ Array.replicate (fn.ntmps - vals.size) undef).size = N
      rw [Array.size_append, Array.size_replicate, hN]; omega
    · have := RelV.le hle0 _ _ (frame0_get args vals.toList 0 h7 t (Nat.zero_le t))
      rw [Nat.sub_zero] at this
      show RelV _ (getF (frame0 args 0) t) ((vals ++ Array.replicate (fn.ntmps - vals.size) undef).getD t undef)
      have e : (vals ++ Array.replicate (fn.ntmps - vals.size) undef).getD t undef = vals.toList.getD t undef := by
        simp only [Array.getD_eq_getD_getElem?, List.getD_eq_getElem?_getD, Array.getElem?_append, Array.getElem?_toList]
        split
        · rfl
        · rename_i hlt
          rw [Array.getElem?_replicate, Array.getElem?_eq_none (by omega)]
          split <;> rfl
      rw [e]; exact this
  refine calls_of_awp (C := C) (σ := σ) hf hb hc (h C rfl rfl rfl (fun b hb => hb.elim)) fun e S' a' w' σ' hc' hp => ?_
  have hend : OEnd C fn fr r H0 S' → ∃ v, (results fn a'.tmps).run C.V.P w' = .ok v w' ∧ ∃ v0 r' H' nm' σ', Ending.returned v = .returned v0 ∧ (WkV r' r ∧ H' = H0 ∧ nm' = H0.map (·.1)) ∧ Step [] [] w σ H' nm' w' σ' ∧
      (∀ i, bnd [] i = true → bnd H' i = true) ∧ (∀ i j x y, getH H' i = some x → getH H' j = some y → σ' i = σ' j → i = j) ∧
      (∀ i x, getH H' i = some x → i ∈ nm' ∧ Blk ⟨V, w', σ', nm', GAfter G w w' H' σ'⟩ (σ' i) x) ∧ RelV ⟨V, w', σ', nm', GAfter G w w' H' σ'⟩ r' v0 := by
    rintro ⟨r0, r1, hres, hs, hw, hin, hH0⟩
    obtain ⟨v, hrun, hv⟩ := hres a' w' σ' hc'
    have hfresh : ∀ i y, getH S'.H i = some y → w.heap.size ≤ σ' i := fun i y hi => by
      rcases (hc'.blk i y hi).2.2.1 with h8 | h8
      · exact h8.elim
      · exact h8
    -- the place in which what comes back is told
    let E1 : RE := ⟨V, w', σ', S'.nm, GAfter G w w' H0 σ'⟩
    have hGG : fr = false → ∀ b, C.G S'.H w' σ' b → GAfter G w w' H0 σ' b := fun hf b hb => by
      rcases hb with hb | ⟨m1, m2, m3⟩
      · exact .inl (h3 hf b hb)
      · exact .inr ⟨m1, m2, fun i x hi => by obtain ⟨y, z, hy, -⟩ := hH0 i x hi; exact m3 i y hy⟩
    have hsh : RE.shut (getH S'.H) (fun i => (getH H0 i).isSome) fr (C.RE S' w' σ') E1 := by
      refine ⟨rfl, rfl, fun _ _ _ => rfl, fun _ _ hi => hi, hGG, fun i x hi hl => ?_⟩
      obtain ⟨k1, k2, k3, k4⟩ := hc'.blk i x hi
      refine ⟨.inr ⟨hfresh i x hi, k4.lt, fun j y hj e => ?_⟩, k4⟩
      obtain ⟨y', z, hy', -⟩ := hH0 j y hj
      have := hc'.inj j i y' x hy' hi e
      subst this
      simp [hj] at hl
    have hback : RE.back (fun i => i) E1 ⟨V, w', σ', H0.map (·.1), GAfter G w w' H0 σ'⟩ := ⟨rfl, rfl, fun _ hb => hb, fun _ _ => rfl⟩
    have hren : ∀ x : AV, x.inB (H0.map (·.1)) = true → x.ren (fun i => i) = x := fun x hx => AV.ren_id (fun _ _ => rfl) x hx
    refine ⟨v, hrun, v, r1, H0, H0.map (·.1), σ', rfl, ⟨hw, rfl, rfl⟩, ?_, fun i hi => (by simp [bnd] at hi), ?_, ?_, ?_⟩
    · refine ⟨hc'.kept.os, hc'.kept.tape, hc'.kept.output, hc'.kept.size, fun i hi => (by cases hi), fun i hi => (by cases hi), fun i x hi => ?_, fun b hb hn => hc'.kept.block b hb (fun h => h), fun b cc t f hb => hc'.kept.cells b cc t f hb⟩
      obtain ⟨y, z, hy, -⟩ := hH0 i x hi
      exact .inr (hfresh i y hy)
    · intro i j x y hi hj he
      obtain ⟨x', -, hx', -⟩ := hH0 i x hi
      obtain ⟨y', -, hy', -⟩ := hH0 j y hj
      exact hc'.inj i j x' y' hx' hy' he
    · intro i x hi
      obtain ⟨y, z, hy, hsy, hto, hwk, hzin⟩ := hH0 i x hi
      obtain ⟨-, -, -, c1, t1, f1, cs, rest, g1, g2, g3, g4⟩ := hc'.blk i y hy
      refine ⟨getH_map hi, c1, t1, f1, cs, rest, g1, g2, hwk _ _ ?_, g4⟩
      exact Rel.back hback z cs hzin (by rw [hren z hzin]; exact Shut.rel hsh hsy hto cs g3)
    · exact RelV.back hback r1 v hin (by rw [hren r1 hin]; exact Shut.relV hsh hs v hv)
  cases e <;> first
    | exact ⟨.inl rfl, hend hp⟩
    | exact ⟨.inr rfl, hend hp⟩
    | exact hp.elim
/-- Who doesn't write them sees them frozen. -/
theorem AOwn.pure {V : Env} {f : FuncId} {args : List AV} {fr : Bool} {r r2 : AV} {H0 : List (Nat × Option AV)} (h : AOwn V f args fr r H0) (hs : Shut (getH H0) (fun _ => false) false r r2) (hn : r2.noN = true) : APure V f args fr r2 := by
  intro w σ G Gall vals h1 h2 h3 h4 h5 h6 h7
  refine (h w σ G Gall vals h1 h2 h3 h4 h5 h6 h7).mono fun e w' ⟨v, r', H', nm', σ', he, ⟨hr, hH', hnm'⟩, hst, hbnd, hinj, hblk, hrel⟩ => ?_
  subst hH'; subst hnm'
  refine ⟨v, r2, [], [], σ', he, ⟨WkV.refl _, rfl, rfl⟩, ⟨hst.os, hst.tape, hst.output, hst.le, fun i hi => (by cases hi), fun i hi => (by cases hi), fun i x hi => (by simp [getH] at hi), hst.block, hst.cells⟩, fun i hi => (by simp [bnd] at hi),
    fun i j x y hi => (by simp [getH] at hi), fun i x hi => (by simp [getH] at hi), ?_⟩
  have hsh : RE.shut (getH H') (fun _ => false) false ⟨V, w', σ', H'.map (·.1), GAfter G w w' H' σ'⟩ ⟨V, w', σ', H'.map (·.1), GAfter G w w' [] σ'⟩ := by
    refine ⟨rfl, rfl, fun _ _ _ => rfl, fun _ _ hi => hi, fun _ b hb => ?_, fun i x hi _ => ?_⟩
    · rcases hb with hb | ⟨m1, m2, m3⟩
      · exact .inl hb
      · exact .inr ⟨m1, m2, fun i x hi => by simp [getH] at hi⟩
    · have hB := (hblk i x hi).2
      refine ⟨.inr ⟨?_, hB.lt, fun j y hj => by simp [getH] at hj⟩, hB⟩
      rcases hst.live i x hi with ⟨j, y, hj, -⟩ | h8
      · simp [getH] at hj
      · exact h8
  have h8 := hs.relV hsh v (hr _ _ hrel)
  exact cv_noN (S := ⟨[], [], []⟩) (nm := []) hn ⟨V, w', σ', H'.map (·.1), GAfter G w w' [] σ'⟩ ⟨V, w', σ', [], GAfter G w w' [] σ'⟩ v rfl rfl (fun _ _ hb => hb) (fun i hi => by cases hi) (fun _ i y hi => by simp [getH] at hi) h8
theorem getH_mapren {rl : List (Nat × Nat)} : ∀ (L : List (Nat × Option AV)) (j : Nat) (x' : AV), getH (L.map fun p => (ap rl p.1, p.2.map (AV.ren (ap rl)))) j = some x' → ∃ i x, getH L i = some x ∧ ap rl i = j ∧ x' = x.ren (ap rl)
  | [], j, x', h => by simp [getH] at h
  | (d, v) :: L, j, x', h => by
    simp only [List.map_cons] at h
    rw [getH_cons] at h
    by_cases e : ap rl d = j
    · rw [if_pos e] at h
      cases v with
      | none => cases h
      | some x => simp only [Option.map_some, Option.some.injEq] at h; exact ⟨d, x, by rw [getH_cons, if_pos rfl], e, h.symm⟩
    · rw [if_neg e] at h
      obtain ⟨i, x, h1, h2, h3⟩ := getH_mapren L j x' h
      exact ⟨i, x, by rw [getH_cons, if_neg (fun e2 => e (by rw [e2]; exact h2))]; exact h1, h2, h3⟩
def okB (rl : List (Nat × Nat)) (H0 : List (Nat × Option AV)) : Bool :=
  H0.all fun p => Nat.beq (ap (rl.map fun q => (q.2, q.1)) (ap rl p.1)) p.1
section
variable {C : Ctx} {o : Oper} {ρ : Operand → AV} {η : Nat → Option AV}
/-- A call that brings own rows. -/
theorem opr_callO {fo : Operand} {as1 : Array Operand} {ts : Array TypeId} {g : FuncId} {caps : List AV} {args : List AV} {fr : Bool} {r r1 : AV} {H0 H1 : List (Nat × Option AV)} {n1 : List Nat} {rl : List (Nat × Nat)}
    (ho : o.op = .call { callee := .value fo, args := as1, argTypes := ts }) (hf : ρ fo = .fn g caps) (he : Ent C.V.P g) (hcap : (caps.all AV.one) = true)
    (h : AOwn C.V g args fr r H0) (hv : AViews η [] (fun i => i) fr (as1.toList.map ρ ++ caps) args)
    (hr : r.ren (ap rl) = r1) (hH : (H0.map fun p => (ap rl p.1, p.2.map (AV.ren (ap rl)))) = H1) (hn1 : (H0.map fun p => ap rl p.1) = n1) (hok : okB rl H0 = true) :
    OpR C o ρ η ⟨r1, H1, n1⟩ := by
  subst hr; subst hH; subst hn1
  intro hd S hρ hη hn a w ⟨σ, hc⟩
  have h1 : ∀ x, x ∈ o.op.operands → RelV (C.RE S w σ) (ρ x) (a.eval x) := fun x hx => hρ x hx _ _ rfl (ev_rel hc x)
  have hfo := h1 fo (by simp [ho, Op.operands, Call.operands])
  rw [hf] at hfo
  simp only [RelV, Rel, List.cons.injEq, and_true] at hfo
  obtain ⟨cv, hfo, hcv⟩ := hfo
  unfold Oper.wp
  rw [call_run ho hfo he, Oper.upon_enter]
  have hargs : RelT (C.RE S w σ) (as1.toList.map ρ ++ caps) (as1.map a.eval ++ cv).toList := by
    rw [Array.toList_append, Array.toList_map]
    refine relT_append _ _ _ _ (relT_map ρ a.eval as1.toList fun x hx => h1 x ?_) (relT_caps _ _ hcv fun x hx => List.all_eq_true.1 hcap x hx)
    have : x ∈ as1 := by simpa using hx
    simp [ho, Op.operands, Call.operands, this]
  let Gall : Nat → Prop := fun b => C.G S.H w σ b ∨ (fr = true ∧ ∃ i y, getH S.H i = some y ∧ σ i = b)
  have hsub : ∀ x, C.G S.H w σ x → x < w.heap.size := fun x hx => by
    rcases hx with hx | ⟨-, hx, -⟩
    · have := hc.ok.lt x hx; have := hc.kept.size; omega
    · exact hx
  have henv : EnvOK ⟨C.V, w, σ, [], C.G S.H w σ⟩ := ⟨hc.env.glob, hc.env.sent, hc.env.inj, hc.env.cold⟩
  have hcall := h w σ (C.G S.H w σ) Gall (as1.map a.eval ++ cv)
    (fun x hx => by
      rcases hx with hx | ⟨-, i, y, hi, rfl⟩
      · exact hsub x hx
      · exact (hc.blk i y hi).2.2.2.lt)
    (fun x hx => .inl hx) (fun hf x hx => hx.elim id fun h' => by have := h'.1; rw [hf] at this; cases this) henv (fun i j x y hi => by simp [getH] at hi) (fun i x hi => by simp [getH] at hi)
    (AViews.rel (E := C.RE S w σ) (E' := ⟨C.V, w, σ, [], Gall⟩) rfl rfl (fun b hb => .inl hb) (fun i hi => by cases hi) (fun hf i y hi _ => ⟨.inr ⟨hf, i, y, hη i y hi, rfl⟩, (hc.blk i y (hη i y hi)).2.2.2⟩) hv _ hargs)
  refine hcall.mono fun e w' ⟨v, r', H', nm', σ', he, ⟨hr, hH', hnm'⟩, hst, _, hinj, hblk, hrel⟩ => ?_
  subst he; subst hH'; subst hnm'
  replace hrel := hr _ _ hrel
  -- the caller's names
  let li : List (Nat × Nat) := rl.map fun q => (q.2, q.1)
  let n1 : List Nat := H'.map fun p => ap rl p.1
  let H1 : List (Nat × Option AV) := H'.map fun p => (ap rl p.1, p.2.map (AV.ren (ap rl)))
  let σ'' : Nat → Nat := fun j => if j ∈ n1 then σ' (ap li j) else σ j
  have hinv : ∀ i, i ∈ H'.map (·.1) → ap li (ap rl i) = i := fun i hi => by
    obtain ⟨p, hp, rfl⟩ := List.mem_map.1 hi
    exact Nat.eq_of_beq_eq_true (List.all_eq_true.1 hok p hp)
  have hmem : ∀ i, i ∈ H'.map (·.1) → ap rl i ∈ n1 := fun i hi => by
    obtain ⟨p, hp, rfl⟩ := List.mem_map.1 hi
    exact List.mem_map.2 ⟨p, hp, rfl⟩
  have hσ : ∀ i, i ∈ H'.map (·.1) → σ'' (ap rl i) = σ' i := fun i hi => by
    simp only [σ'', if_pos (hmem i hi), hinv i hi]
  have hold : ∀ j, j ∈ S.nm → σ'' j = σ j := fun j hj => if_neg fun h => hn j h hj
  have hkey : ∀ j, j ∈ n1 ↔ keyIn H1 j = true := fun j => by
    constructor
    · intro hj
      obtain ⟨p, hp, rfl⟩ := List.mem_map.1 hj
      exact List.any_eq_true.2 ⟨_, List.mem_map.2 ⟨p, hp, rfl⟩, Nat.beq_refl _⟩
    · intro hj
      obtain ⟨v, hv⟩ := keyIn_mem hj
      obtain ⟨p, hp, he⟩ := List.mem_map.1 hv
      simp only [Prod.mk.injEq] at he
      exact List.mem_map.2 ⟨p, hp, he.1⟩
  have hcase : ∀ j y, getH (H1 ++ S.H) j = some y → (∃ i x, getH H' i = some x ∧ ap rl i = j ∧ y = x.ren (ap rl) ∧ σ'' j = σ' i) ∨ (j ∉ n1 ∧ getH S.H j = some y ∧ σ'' j = σ j) := fun j y hj => by
    rw [getH_append'] at hj
    cases hk : keyIn H1 j with
    | true =>
      rw [if_pos hk] at hj
      obtain ⟨i, x, e1, e2, e3⟩ := getH_mapren H' j y hj
      exact .inl ⟨i, x, e1, e2, e3, by rw [← e2]; exact hσ i (getH_map e1)⟩
    | false =>
      rw [hk, if_neg (by simp)] at hj
      have hnj : j ∉ n1 := fun h => by rw [(hkey j).1 h] at hk; cases hk
      exact .inr ⟨hnj, hj, if_neg hnj⟩
  have hnew : ∀ i x, getH H' i = some x → w.heap.size ≤ σ' i := fun i x hi => by
    rcases hst.live i x hi with ⟨j, y, hj, -⟩ | h8
    · simp [getH] at hj
    · exact h8
  have hlt : ∀ j y, getH S.H j = some y → σ j < w.heap.size := fun j y hj => (hc.blk j y hj).2.2.2.lt
  have hbl : Below w.heap.size w w' := ⟨hst.os, hst.tape, hst.output, hst.le, fun b hb => hst.block b hb (fun i x hi => by simp [getH] at hi)⟩
  have hst2 : Step S.H S.nm w σ (H1 ++ S.H) (n1 ++ S.nm) w' σ'' := by
    refine ⟨hst.os, hst.tape, hst.output, hst.le, hold, fun j hj => List.mem_append_right _ hj, fun j y hj => ?_, fun b hb _ => hbl.block b hb, fun b c t f hb => hst.cells b c t f hb⟩
    rcases hcase j y hj with ⟨i, x, e1, -, -, e4⟩ | ⟨-, e2, e3⟩
    · right; rw [e4]; exact hnew i x e1
    · exact .inl ⟨j, y, e2, (hc.blk j y e2).1, e3.symm⟩
  have hle := hc.le (S' := ⟨S.F, H1 ++ S.H, n1 ++ S.nm⟩) hst2
  have hturn : RE.turn (ap rl) ⟨C.V, w', σ', H'.map (·.1), GAfter (C.G S.H w σ) w w' H' σ'⟩ (C.RE ⟨S.F, H1 ++ S.H, n1 ++ S.nm⟩ w' σ'') := by
    refine ⟨rfl, rfl, fun b hb => ?_, fun i hi => ⟨List.mem_append_left _ (hmem i hi), hσ i hi⟩⟩
    have hno : ∀ (hb' : w.heap.size ≤ b → ∀ i x, getH H' i = some x → σ' i ≠ b), (b < w.heap.size → ∀ j y, getH S.H j = some y → σ j ≠ b) → ∀ j y, getH (H1 ++ S.H) j = some y → σ'' j ≠ b := fun k1 k2 j y hj e => by
      rcases hcase j y hj with ⟨i, x, e1, -, -, e4⟩ | ⟨-, e2, e3⟩
      · rw [e4] at e; exact k1 (by rw [← e]; exact hnew i x e1) i x e1 e
      · rw [e3] at e; exact k2 (by rw [← e]; exact hlt j y e2) j y e2 e
    rcases hb with (hb | ⟨m1, m2, m3⟩) | ⟨m1, m2, m3⟩
    · exact .inl hb
    · exact .inr ⟨m1, by have := hst.le; omega, hno (fun h => absurd m2 (by omega)) (fun _ j y hj => m3 j y hj)⟩
    · exact .inr ⟨by have := hc.kept.size; omega, m2, hno (fun _ => m3) (fun h => absurd h (by omega))⟩
  have hc2 := hc.step (S' := ⟨S.F, H1 ++ S.H, n1 ++ S.nm⟩) hst2 (fun j l y u hj hl e => by
      rcases hcase j y hj with ⟨i, x, e1, e2, -, e4⟩ | ⟨-, e2, e3⟩ <;> rcases hcase l u hl with ⟨i', x', d1, d2, -, d4⟩ | ⟨-, d2, d3⟩
      · rw [e4, d4] at e
        have := hinj i i' x x' e1 d1 e
        rw [← e2, ← d2, this]
      · rw [e4, d3] at e
        have := hnew i x e1; have := hlt l u d2; omega
      · rw [e3, d4] at e
        have := hnew i' x' d1; have := hlt j y e2; omega
      · rw [e3, d3] at e
        exact hc.inj j l y u e2 d2 e) (fun j y hj => by
      rcases hcase j y hj with ⟨i, x, e1, e2, e3, e4⟩ | ⟨-, e2, e3⟩
      · obtain ⟨k1, c1, t1, f1, cs, rest, g1, g2, g3, g4⟩ := hblk i x e1
        refine ⟨List.mem_append_left _ (by rw [← e2]; exact hmem i (getH_map e1)), ?_⟩
        rw [e4]
        exact ⟨c1, t1, f1, cs, rest, g1, g2, by rw [e3]; exact Rel.turn hturn x cs g3, g4⟩
      · obtain ⟨k1, -, -, k4⟩ := hc.blk j y e2
        refine ⟨List.mem_append_right _ k1, ?_⟩
        rw [e3]
        exact k4.le hle (hbl.block _ (hlt j y e2))) rfl
  refine ⟨σ'', hc2.put o.dst (r.ren (ap rl)) v hd ?_⟩
  exact RelV.turn hturn r v hrel
end
/-- The blocks that come back, one behind the other. -/
def OHs (S : St) (fr : Bool) (H0 : List (Nat × Option AV)) : List (Nat × Option AV) → Prop
  | [] => True
  | (_, none) :: l => OHs S fr H0 l
  | (i, some x) :: l => (∃ y z, getH S.H i = some y ∧ Shut (getH S.H) (fun i => (getH H0 i).isSome) fr y z ∧ (z = .top → y.one = true) ∧ Wk z x ∧ z.inB (H0.map (·.1)) = true) ∧ OHs S fr H0 l
theorem OHs.mem {S : St} {fr : Bool} {H0 : List (Nat × Option AV)} : ∀ {L : List (Nat × Option AV)}, OHs S fr H0 L → ∀ i x, (i, some x) ∈ L →
    ∃ y z, getH S.H i = some y ∧ Shut (getH S.H) (fun i => (getH H0 i).isSome) fr y z ∧ (z = .top → y.one = true) ∧ Wk z x ∧ z.inB (H0.map (·.1)) = true
  | (t0, none) :: L, h, t, v, hm => by
    simp only [OHs] at h
    rcases List.mem_cons.1 hm with e | e
    · simp at e
    · exact OHs.mem h t v e
  | (t0, some v0) :: L, h, t, v, hm => by
    simp only [OHs] at h
    rcases List.mem_cons.1 hm with e | e
    · simp only [Prod.mk.injEq, Option.some.injEq] at e; obtain ⟨rfl, rfl⟩ := e; exact h.1
    · exact OHs.mem h.2 t v e
theorem ohs {S : St} {fr : Bool} {H0 : List (Nat × Option AV)} (h : OHs S fr H0 H0) : ∀ i x, getH H0 i = some x → ∃ y z, getH S.H i = some y ∧ Shut (getH S.H) (fun i => (getH H0 i).isSome) fr y z ∧ (z = .top → y.one = true) ∧ WkC z x ∧ z.inB (H0.map (·.1)) = true := by
  intro i x hi
  have := getH_in (keyIn_getH hi)
  rw [hi] at this
  obtain ⟨y, z, h1, h2, h3, h4, h5⟩ := h.mem i x this
  exact ⟨y, z, h1, h2, h3, Wk.c h4, h5⟩
theorem oend1 {C : Ctx} {S : St} {fn : Func} {fr : Bool} {r0 r1 r : AV} {H0 : List (Nat × Option AV)} (h : ResL C S fn.results.toList [r0]) (hs : Shut (getH S.H) (fun i => (getH H0 i).isSome) fr r0 r1) (hin : r1.inB (H0.map (·.1)) = true) (hw : Wk r1 r)
    (hH : OHs S fr H0 H0) : OEnd C fn fr r H0 S := ⟨r0, r1, res_one h, hs, Wk.v hw, hin, ohs hH⟩
end Go.Fy
/- The engine, 20: contracts with own blocks in and out (my own text; any program). -/
set_option linter.unusedSimpArgs false
namespace Go.Fy
open Go.RowKit
/-- Called with own blocks H; those of H0 come back (the same and new ones). -/
def AGen (V : Env) (f : FuncId) (args : List AV) (H : List (Nat × Option AV)) (r : AV) (H0 : List (Nat × Option AV)) : Prop :=
  ACalls V f args H false fun r' H' nm' => WkV r' r ∧ H' = H0 ∧ nm' = H0.map (·.1)
/-- What is looked at in the end: all own blocks, or just those that come back. -/
def kpH (A : Bool) (H H0 : List (Nat × Option AV)) (i : Nat) : Option AV := bif A || (getH H0 i).isSome then getH H i else none
/-- The end of such a function. 'A': all blocks that went in come back, so that new ones may be frozen; else nothing is. -/
def GEnd (C : Ctx) (fn : Func) (H : List (Nat × Option AV)) (r : AV) (H0 : List (Nat × Option AV)) (S : St) : Prop :=
  ∃ A : Bool, (∃ r0 r1, Res C S fn r0 ∧ Shut (kpH A S.H H0) (fun i => (getH H0 i).isSome) false r0 r1 ∧ WkV r1 r ∧ r1.inB (H0.map (·.1)) = true ∧
    (∀ i x, getH H0 i = some x → ∃ y z, getH S.H i = some y ∧ Shut (kpH A S.H H0) (fun i => (getH H0 i).isSome) false y z ∧ (z = .top → y.one = true) ∧ WkC z x ∧ z.inB (H0.map (·.1)) = true)) ∧
  (A = true → ∀ i, bnd H i = true → (getH H0 i).isSome = true) ∧ (∀ i, i ∈ H.map (·.1) → i ∈ H0.map (·.1))
def GPost (C : Ctx) (fn : Func) (H : List (Nat × Option AV)) (r : AV) (H0 : List (Nat × Option AV)) : Exit → St → Prop
  | .normal, S | .ret, S => GEnd C fn H r H0 S
  | _, _ => False
theorem gpost_ret {C : Ctx} {fn : Func} {H : List (Nat × Option AV)} {r : AV} {H0 : List (Nat × Option AV)} {S : St} (h : GEnd C fn H r H0 S) : GPost C fn H r H0 .ret S := h
theorem bnd_of_getH {H : List (Nat × Option AV)} {i : Nat} {x : AV} (h : getH H i = some x) : bnd H i = true := by
  have := keyIn_getH h
  unfold keyIn at this; unfold bnd
  obtain ⟨p, hp, he⟩ := List.any_eq_true.1 this
  exact List.any_eq_true.2 ⟨p, hp, by simpa using Nat.eq_of_beq_eq_true he⟩
theorem agen_of_body {V : Env} {f : FuncId} {fn : Func} {c : Code} {args : List AV} {H : List (Nat × Option AV)} {r : AV} {H0 : List (Nat × Option AV)}
    (hf : V.P.funcs[f]? = some fn) (hb : fn.body = some c) {N : Nat} (hN : fn.ntmps = N) (hle : args.length ≤ N)
    (h : ∀ C : Ctx, C.V = V → C.N = N → C.nm0 = H.map (·.1) → (∀ b, C.own0 b → ∃ j, j ∈ C.nm0 ∧ C.σ0 j = b) → AWP C c (GPost C fn H r H0) ⟨frame0 args 0, H, H.map (·.1)⟩) : AGen V f args H r H0 := by
  intro w σ G Gall vals h1 h2 h3 h4 h5 h6 h7
  let C : Ctx := { V := V, N := N, w0 := w, G0 := Gall, σ0 := σ, nm0 := H.map (·.1), own0 := fun b => ∃ i x, getH H i = some x ∧ σ i = b }
  have hlen := RelT.length args _ h7
  simp only [Array.length_toList] at hlen
  have hle0 : (⟨V, w, σ, H.map (·.1), Gall⟩ : RE).le (C.RE ⟨frame0 args 0, H, H.map (·.1)⟩ w σ) :=
    ⟨rfl, fun _ _ => rfl, fun _ h => h, fun b hb => .inl hb, fun _ _ _ _ h => h, fun _ c t fr h => ⟨c, t, fr, h, rfl⟩, fun _ _ _ _ h => h⟩
  have hleG : (⟨V, w, σ, H.map (·.1), G⟩ : RE).le ⟨V, w, σ, H.map (·.1), Gall⟩ :=
    ⟨rfl, fun _ _ => rfl, fun _ h => h, fun b hb => h2 b hb, fun _ _ _ _ h => h, fun _ c t fr h => ⟨c, t, fr, h, rfl⟩, fun _ _ _ _ h => h⟩
  have hc : ConcS C ⟨frame0 args 0, H, H.map (·.1)⟩ { tmps := vals ++ Array.replicate (fn.ntmps - vals.size) undef, defers := [] } w σ := by
    refine ⟨⟨h1, fun b hb ⟨i, x, hi, he⟩ => (h6 i x hi).1 (by rw [he]; exact hb)⟩, Marks.nil _ _, ?_, ⟨rfl, rfl, rfl, Nat.le_refl _, fun _ _ _ => rfl, fun _ c t fr h => ⟨c, t, fr, h, rfl⟩⟩, fun i hi => ⟨rfl, hi⟩, h5, fun i x hi => ⟨getH_map hi, (h6 i x hi).1, .inl ⟨i, x, hi, rfl⟩, ?_⟩,
      h4.le (hleG.trans hle0), fun t => ?_⟩
    · show (vals ++ Array.replicate (fn.ntmps - vals.size) undef).size = N
      rw [Array.size_append, Array.size_replicate, hN]; omega
    · exact (h6 i x hi).2.le (hleG.trans hle0) rfl
    · have := RelV.le hle0 _ _ (frame0_get args vals.toList 0 h7 t (Nat.zero_le t))
      rw [Nat.sub_zero] at this
      show RelV _ (getF (frame0 args 0) t) ((vals ++ Array.replicate (fn.ntmps - vals.size) undef).getD t undef)
      have e : (vals ++ Array.replicate (fn.ntmps - vals.size) undef).getD t undef = vals.toList.getD t undef := by
        simp only [Array.getD_eq_getD_getElem?, List.getD_eq_getElem?_getD, Array.getElem?_append, Array.getElem?_toList]
        split
        · rfl
        · rename_i hlt
          rw [Array.getElem?_replicate, Array.getElem?_eq_none (by omega)]
          split <;> rfl
      rw [e]; exact this
  refine calls_of_awp (C := C) (σ := σ) hf hb hc (h C rfl rfl rfl (fun b ⟨i, x, hi, he⟩ => ⟨i, getH_map hi, he⟩)) fun e S' a' w' σ' hc' hp => ?_
  have hend : GEnd C fn H r H0 S' → ∃ v, (results fn a'.tmps).run C.V.P w' = .ok v w' ∧ ∃ v0 r' H' nm' σ', Ending.returned v = .returned v0 ∧ (WkV r' r ∧ H' = H0 ∧ nm' = H0.map (·.1)) ∧ Step H (H.map (·.1)) w σ H' nm' w' σ' ∧
      (∀ i, bnd H i = true → bnd H' i = true) ∧ (∀ i j x y, getH H' i = some x → getH H' j = some y → σ' i = σ' j → i = j) ∧
      (∀ i x, getH H' i = some x → i ∈ nm' ∧ Blk ⟨V, w', σ', nm', GAfter G w w' H' σ'⟩ (σ' i) x) ∧ RelV ⟨V, w', σ', nm', GAfter G w w' H' σ'⟩ r' v0 := by
    rintro ⟨A, ⟨r0, r1, hres, hs, hw, hin, hH0⟩, hkeep, hnames⟩
    have hkp : ∀ i x, kpH A S'.H H0 i = some x → getH S'.H i = some x ∧ (A = true ∨ (getH H0 i).isSome = true) := fun i x hi => by
      unfold kpH at hi
      cases hb : (A || (getH H0 i).isSome) with
      | false => rw [hb] at hi; cases hi
      | true => rw [hb] at hi; exact ⟨hi, by simpa using hb⟩
    obtain ⟨v, hrun, hv⟩ := hres a' w' σ' hc'
    let E1 : RE := ⟨V, w', σ', S'.nm, GAfter G w w' H0 σ'⟩
    have hGG : ∀ b, C.G S'.H w' σ' b → GAfter G w w' H0 σ' b := fun b hb => by
      rcases hb with hb | ⟨m1, m2, m3⟩
      · exact .inl (h3 rfl b hb)
      · exact .inr ⟨m1, m2, fun i x hi => by obtain ⟨y, z, hy, -⟩ := hH0 i x hi; exact m3 i y hy⟩
    have hlive : A = true → ∀ i y, getH S'.H i = some y → getH H0 i = none → w.heap.size ≤ σ' i := fun hA i y hi hd => by
      rcases (hc'.blk i y hi).2.2.1 with ⟨j, x, hj, he⟩ | h8
      · exfalso
        have hk := hkeep hA j (bnd_of_getH hj)
        obtain ⟨x0, hx0⟩ := Option.isSome_iff_exists.1 hk
        obtain ⟨y', z, hy', -⟩ := hH0 j x0 hx0
        have := hc'.inj j i y' y hy' hi (by rw [(hc'.σ0 j (getH_map hj)).1]; exact he)
        subst this
        rw [hd] at hx0; cases hx0
      · exact h8
    have hsh : RE.shut (kpH A S'.H H0) (fun i => (getH H0 i).isSome) false (C.RE S' w' σ') E1 := by
      refine ⟨rfl, rfl, fun _ _ _ => rfl, fun _ _ hi => hi, fun _ => hGG, fun i x hik hl => ?_⟩
      have hd : getH H0 i = none := by simpa using hl
      obtain ⟨hi, hor⟩ := hkp i x hik
      have hA : A = true := by
        rcases hor with h | h
        · exact h
        · rw [hd] at h; cases h
      obtain ⟨k1, k2, k3, k4⟩ := hc'.blk i x hi
      refine ⟨.inr ⟨hlive hA i x hi hd, k4.lt, fun j y hj e => ?_⟩, k4⟩
      obtain ⟨y', z, hy', -⟩ := hH0 j y hj
      have := hc'.inj j i y' x hy' hi e
      subst this
      simp [hj] at hl
    have hback : RE.back (fun i => i) E1 ⟨V, w', σ', H0.map (·.1), GAfter G w w' H0 σ'⟩ := ⟨rfl, rfl, fun _ hb => hb, fun _ _ => rfl⟩
    have hren : ∀ x : AV, x.inB (H0.map (·.1)) = true → x.ren (fun i => i) = x := fun x hx => AV.ren_id (fun _ _ => rfl) x hx
    refine ⟨v, hrun, v, r1, H0, H0.map (·.1), σ', rfl, ⟨hw, rfl, rfl⟩, ?_, fun i hi => ?_, ?_, ?_, ?_⟩
    · refine ⟨hc'.kept.os, hc'.kept.tape, hc'.kept.output, hc'.kept.size, fun i hi => (hc'.σ0 i hi).1, hnames, fun i x hi => ?_, fun b hb hn => hc'.kept.block b hb (fun ⟨i, x, hi, he⟩ => hn i x hi he), fun b cc t f hb => hc'.kept.cells b cc t f hb⟩
      obtain ⟨y, z, hy, -⟩ := hH0 i x hi
      rcases (hc'.blk i y hy).2.2.1 with ⟨j, x', hj, he⟩ | h8
      · exact .inl ⟨j, x', hj, getH_map hj, he⟩
      · exact .inr h8
    · unfold bnd at hi ⊢
      obtain ⟨p, hp, he⟩ := List.any_eq_true.1 hi
      obtain ⟨q, hq, hqe⟩ := List.mem_map.1 (hnames p.1 (List.mem_map.2 ⟨p, hp, rfl⟩))
      exact List.any_eq_true.2 ⟨q, hq, by rw [hqe]; exact he⟩
    · intro i j x y hi hj he
      obtain ⟨x', -, hx', -⟩ := hH0 i x hi
      obtain ⟨y', -, hy', -⟩ := hH0 j y hj
      exact hc'.inj i j x' y' hx' hy' he
    · intro i x hi
      obtain ⟨y, z, hy, hsy, hto, hwk, hzin⟩ := hH0 i x hi
      obtain ⟨-, -, -, c1, t1, f1, cs, rest, g1, g2, g3, g4⟩ := hc'.blk i y hy
      refine ⟨getH_map hi, c1, t1, f1, cs, rest, g1, g2, hwk _ _ ?_, g4⟩
      exact Rel.back hback z cs hzin (by rw [hren z hzin]; exact Shut.rel hsh hsy hto cs g3)
    · exact RelV.back hback r1 v hin (by rw [hren r1 hin]; exact Shut.relV hsh hs v hv)
  cases e <;> first
    | exact ⟨.inl rfl, hend hp⟩
    | exact ⟨.inr rfl, hend hp⟩
    | exact hp.elim
/-- The values of the slots, by the contract's names. -/
def AArg (C : Ctx) (rl : List (Nat × Nat)) (nm : List Nat) : List AV → List AV → Prop
  | [], [] => True
  | x :: l, y :: m => (y.inB nm = true ∧ WkV x (y.ren (ap rl))) ∧ AArg C rl nm l m
  | _, _ => False
theorem AArg.rel {C : Ctx} {rl : List (Nat × Nat)} {nm : List Nat} {E E' : RE} (hb : RE.back (ap rl) E E') (hn : E'.nm = nm) : ∀ (l m : List AV), AArg C rl nm l m → ∀ vs, RelT E l vs → RelT E' m vs
  | [], [], _, vs, hv => by simpa only [RelT] using hv
  | x :: l, y :: m, h, vs, hv => by
    simp only [AArg] at h
    simp only [RelT] at *
    obtain ⟨c, d, rfl, e1, e2⟩ := hv
    exact ⟨c, d, rfl, RelV.back hb y c (by rw [hn]; exact h.1.1) (h.1.2 _ _ e1), AArg.rel hb hn l m h.2 d e2⟩
  | [], _ :: _, h, _, _ => h.elim
  | _ :: _, [], h, _, _ => h.elim
/-- The own blocks that go in. -/
def HIn (η : Nat → Option AV) (rl : List (Nat × Nat)) (nm : List Nat) : List (Nat × Option AV) → Prop
  | [] => True
  | (_, none) :: _ => False
  | (i, some x) :: l => (x.inB nm = true ∧ ∃ y, η (ap rl i) = some y ∧ WkC y (x.ren (ap rl))) ∧ HIn η rl nm l
theorem HIn.mem {η : Nat → Option AV} {rl : List (Nat × Nat)} {nm : List Nat} : ∀ {L : List (Nat × Option AV)}, HIn η rl nm L → ∀ i o, (i, o) ∈ L → ∃ x, o = some x ∧ x.inB nm = true ∧ ∃ y, η (ap rl i) = some y ∧ WkC y (x.ren (ap rl))
  | (i0, none) :: L, h, _, _, _ => by simp only [HIn] at h
  | (i0, some x0) :: L, h, i, o, hm => by
    simp only [HIn] at h
    rcases List.mem_cons.1 hm with e | e
    · simp only [Prod.mk.injEq] at e; obtain ⟨rfl, rfl⟩ := e; exact ⟨x0, rfl, h.1.1, h.1.2⟩
    · exact HIn.mem h.2 i o e
/-- Closed: names apart, those that went in come back. -/
def okG (rl : List (Nat × Nat)) (H H0 : List (Nat × Option AV)) : Bool :=
  (H0.all fun p => Nat.beq (ap (rl.map fun q => (q.2, q.1)) (ap rl p.1)) p.1) && (H.all fun p => keyIn H0 p.1)
/-- What an operation does, and that what held of memory goes on. -/
def OpRL (C : Ctx) (o : Oper) (ρ : Operand → AV) (η : Nat → Option AV) (D : Upd) : Prop :=
  (∀ d, o.dst = some d → d < C.N) → ∀ S : St, (∀ x, x ∈ o.op.operands → Sub C.V (ev C.V S.F x) (ρ x)) → (∀ i y, η i = some y → getH S.H i = some y) →
    (∀ n, n ∈ D.nm → n ∉ S.nm) → ∀ (a : Act) (w : World) (σ : Nat → Nat), ConcS C S a w σ →
      o.wp C.V.P a w (fun a' w' => ∃ σ', ConcS C (S.upd o.dst D) a' w' σ' ∧ (C.RE S w σ).le (C.RE (S.upd o.dst D) w' σ') ∧ ∃ v, a' = a.put o.dst v) (fun _ _ _ => False)
theorem OpRL.r {C : Ctx} {o : Oper} {ρ : Operand → AV} {η : Nat → Option AV} {D : Upd} (h : OpRL C o ρ η D) : OpR C o ρ η D :=
  fun hd S hρ hη hn a w ⟨σ, hc⟩ => Oper.wp_mono (fun _ _ ⟨σ', h1, _⟩ => ⟨σ', h1⟩) (h hd S hρ hη hn a w σ hc)
section
variable {C : Ctx} {o : Oper} {ρ : Operand → AV} {η : Nat → Option AV}
/-- A call of a function value that carries what it captured. -/
theorem opr_callGC_le {fo : Operand} {as1 : Array Operand} {ts : Array TypeId} {g : FuncId} {args : List AV} {r r1 : AV} {H H0 H1 : List (Nat × Option AV)} {n1 : List Nat} {rl : List (Nat × Nat)} {caps : List AV}
    (ho : o.op = .call { callee := .value fo, args := as1, argTypes := ts }) (hf : ρ fo = .fn g caps) (he : Ent C.V.P g) (hcap : (caps.all AV.one) = true)
    (h : AGen C.V g args H r H0) (hv : AArg C rl (H.map (·.1)) (as1.toList.map ρ ++ caps) args) (hin : HIn η rl (H.map (·.1)) H)
    (hr : r.ren (ap rl) = r1) (hH : (H0.map fun p => (ap rl p.1, p.2.map (AV.ren (ap rl)))) = H1) (hn1 : ((H0.filter fun p => !keyIn H p.1).map fun p => ap rl p.1) = n1) (hok : okG rl H H0 = true) :
    OpRL C o ρ η ⟨r1, H1, n1⟩ := by
  subst hr; subst hH; subst hn1
  intro hd S hρ hη hn a w σ hc
  have h1 : ∀ x, x ∈ o.op.operands → RelV (C.RE S w σ) (ρ x) (a.eval x) := fun x hx => hρ x hx _ _ rfl (ev_rel hc x)
  have hfo := h1 fo (by simp [ho, Op.operands, Call.operands])
  rw [hf] at hfo
  simp only [RelV, Rel, List.cons.injEq, and_true] at hfo
  obtain ⟨cv, hfo, hcv⟩ := hfo
  unfold Oper.wp
  rw [call_run ho hfo he, Oper.upon_enter]
  have hargs : RelT (C.RE S w σ) (as1.toList.map ρ ++ caps) (as1.map a.eval ++ cv).toList := by
    rw [Array.toList_append, Array.toList_map]
    refine relT_append _ _ _ _ (relT_map ρ a.eval as1.toList fun x hx => h1 x ?_) (relT_caps _ _ hcv fun x hx => List.all_eq_true.1 hcap x hx)
    have : x ∈ as1 := by simpa using hx
    simp [ho, Op.operands, Call.operands, this]
  simp only [okG, Bool.and_eq_true] at hok
  obtain ⟨hok1, hok2⟩ := hok
  -- names and blocks of the call
  let σc : Nat → Nat := fun i => σ (ap rl i)
  have hkeyH : ∀ i, i ∈ H.map (·.1) → ∃ (x y : AV), getH S.H (ap rl i) = some y ∧ x.inB (H.map (·.1)) = true ∧ WkC y (x.ren (ap rl)) := fun i hi => by
    obtain ⟨p, hp, rfl⟩ := List.mem_map.1 hi
    obtain ⟨x, -, e2, y, e3, e4⟩ := hin.mem p.1 p.2 hp
    exact ⟨x, y, hη _ _ e3, e2, e4⟩
  have hgetH : ∀ i x, getH H i = some x → ∃ y, getH S.H (ap rl i) = some y ∧ x.inB (H.map (·.1)) = true ∧ WkC y (x.ren (ap rl)) := fun i x hi => by
    have := getH_in (keyIn_getH hi)
    rw [hi] at this
    obtain ⟨x', e1, e2, y, e3, e4⟩ := hin.mem i _ this
    simp only [Option.some.injEq] at e1
    subst e1
    exact ⟨y, hη _ _ e3, e2, e4⟩
  have hinvA : ∀ i, i ∈ H0.map (·.1) → ap (rl.map fun q => (q.2, q.1)) (ap rl i) = i := fun i hi => by
    obtain ⟨p, hp, rfl⟩ := List.mem_map.1 hi
    exact Nat.eq_of_beq_eq_true (List.all_eq_true.1 hok1 p hp)
  have hsubK : ∀ i, i ∈ H.map (·.1) → i ∈ H0.map (·.1) := fun i hi => by
    obtain ⟨p, hp, rfl⟩ := List.mem_map.1 hi
    obtain ⟨v, hv⟩ := keyIn_mem (List.all_eq_true.1 hok2 p hp)
    exact List.mem_map.2 ⟨_, hv, rfl⟩
  have happ : ∀ i j, i ∈ H.map (·.1) → j ∈ H.map (·.1) → ap rl i = ap rl j → i = j := fun i j hi hj he => by
    rw [← hinvA i (hsubK i hi), ← hinvA j (hsubK j hj), he]
  have hsub : ∀ x, C.G S.H w σ x → x < w.heap.size := fun x hx => by
    rcases hx with hx | ⟨-, hx, -⟩
    · have := hc.ok.lt x hx; have := hc.kept.size; omega
    · exact hx
  have hback : RE.back (ap rl) (C.RE S w σ) ⟨C.V, w, σc, H.map (·.1), C.G S.H w σ⟩ := ⟨rfl, rfl, fun _ hb => hb, fun _ _ => rfl⟩
  have henv : EnvOK ⟨C.V, w, σc, H.map (·.1), C.G S.H w σ⟩ := by
    have h2 : EnvOK (C.RE S w σ).bare := ⟨hc.env.glob, hc.env.sent, hc.env.inj, hc.env.cold⟩
    have := h2.le hback.bare
    exact ⟨this.glob, this.sent, this.inj, this.cold⟩
  have hcall := h w σc (C.G S.H w σ) (C.G S.H w σ) (as1.map a.eval ++ cv) hsub (fun x hx => hx) (fun _ x hx => hx) henv
    (fun i j x y hi hj e => by
      obtain ⟨x', hx', -⟩ := hgetH i x hi
      obtain ⟨y', hy', -⟩ := hgetH j y hj
      exact happ i j (getH_map hi) (getH_map hj) (hc.inj _ _ _ _ hx' hy' e))
    (fun i x hi => by
      obtain ⟨y, hy, hxin, hwk⟩ := hgetH i x hi
      obtain ⟨k1, k2, k3, c1, t1, f1, cs, rest, g1, g2, g3, g4⟩ := hc.blk _ y hy
      refine ⟨fun hg => ?_, c1, t1, f1, cs, rest, g1, g2, Rel.back hback x cs hxin (hwk _ _ g3), g4⟩
      rcases hg with hg | ⟨-, -, h3⟩
      · exact k2 hg
      · exact h3 _ y hy rfl)
    (AArg.rel hback rfl _ _ hv _ hargs)
  refine hcall.mono fun e w' ⟨v, r', H', nm', σ', he, ⟨hr, hH', hnm'⟩, hst, _, hinj, hblk, hrel⟩ => ?_
  subst he; subst hH'; subst hnm'
  replace hrel := hr _ _ hrel
  let li : List (Nat × Nat) := rl.map fun q => (q.2, q.1)
  let n1 : List Nat := (H'.filter fun p => !keyIn H p.1).map fun p => ap rl p.1
  let H1 : List (Nat × Option AV) := H'.map fun p => (ap rl p.1, p.2.map (AV.ren (ap rl)))
  let σ'' : Nat → Nat := fun j => if j ∈ n1 then σ' (ap li j) else σ j
  have hold : ∀ j, j ∈ S.nm → σ'' j = σ j := fun j hj => if_neg fun h => hn j h hj
  have hHin : ∀ i, keyIn H i = true → i ∈ H.map (·.1) := fun i hk => by obtain ⟨v, hv⟩ := keyIn_mem hk; exact List.mem_map.2 ⟨_, hv, rfl⟩
  have hσ : ∀ i, i ∈ H'.map (·.1) → σ'' (ap rl i) = σ' i ∧ ap rl i ∈ n1 ++ S.nm := fun i hi => by
    cases hk : keyIn H i with
    | true =>
      have hiH := hHin i hk
      obtain ⟨x, y, hy, -⟩ := hkeyH i hiH
      have hm := (hc.blk _ y hy).1
      exact ⟨by rw [hold _ hm]; exact (hst.sig i hiH).symm, List.mem_append_right _ hm⟩
    | false =>
      have hm : ap rl i ∈ n1 := by
        obtain ⟨p, hp, rfl⟩ := List.mem_map.1 hi
        exact List.mem_map.2 ⟨p, List.mem_filter.2 ⟨hp, by simp [hk]⟩, rfl⟩
      refine ⟨?_, List.mem_append_left _ hm⟩
      simp only [σ'', if_pos hm]
      exact congrArg σ' (hinvA i hi)
  have hn1key : ∀ j, j ∈ n1 → keyIn H1 j = true := fun j hj => by
    obtain ⟨p, hp, rfl⟩ := List.mem_map.1 hj
    exact List.any_eq_true.2 ⟨_, List.mem_map.2 ⟨p, (List.mem_filter.1 hp).1, rfl⟩, Nat.beq_refl _⟩
  have hHkey : ∀ i, i ∈ H.map (·.1) → keyIn H1 (ap rl i) = true := fun i hi => by
    obtain ⟨p, hp, rfl⟩ := List.mem_map.1 (hsubK i hi)
    exact List.any_eq_true.2 ⟨_, List.mem_map.2 ⟨p, hp, rfl⟩, Nat.beq_refl _⟩
  have hcase : ∀ j y, getH (H1 ++ S.H) j = some y → (∃ i x, getH H' i = some x ∧ ap rl i = j ∧ y = x.ren (ap rl) ∧ σ'' j = σ' i) ∨ (keyIn H1 j = false ∧ getH S.H j = some y ∧ σ'' j = σ j) := fun j y hj => by
    rw [getH_append'] at hj
    cases hk : keyIn H1 j with
    | true =>
      rw [if_pos hk] at hj
      obtain ⟨i, x, e1, e2, e3⟩ := getH_mapren H' j y hj
      exact .inl ⟨i, x, e1, e2, e3, by rw [← e2]; exact (hσ i (getH_map e1)).1⟩
    | false =>
      rw [hk, if_neg (by simp)] at hj
      exact .inr ⟨rfl, hj, if_neg fun h => by rw [hn1key j h] at hk; cases hk⟩
  have hlt : ∀ j y, getH S.H j = some y → σ j < w.heap.size := fun j y hj => (hc.blk j y hj).2.2.2.lt
  -- a block that came back is one that went in, or new
  have hwho : ∀ i x, getH H' i = some x → (∃ j y, j ∈ H.map (·.1) ∧ getH S.H (ap rl j) = some y ∧ σ (ap rl j) = σ' i) ∨ w.heap.size ≤ σ' i := fun i x hi => by
    rcases hst.live i x hi with ⟨j, y, hj, hjm, hje⟩ | h8
    · obtain ⟨y', hy', -⟩ := hgetH j y hj
      exact .inl ⟨j, y', hjm, hy', hje⟩
    · exact .inr h8
  have hother : ∀ j y, keyIn H1 j = false → getH S.H j = some y → ∀ i x, getH H i = some x → σc i ≠ σ j := fun j y hk hj i x hi e => by
    obtain ⟨y', hy', -⟩ := hgetH i x hi
    have := hc.inj _ _ _ _ hy' hj e
    rw [← this, hHkey i (getH_map hi)] at hk; cases hk
  have hst2 : Step S.H S.nm w σ (H1 ++ S.H) (n1 ++ S.nm) w' σ'' := by
    refine ⟨hst.os, hst.tape, hst.output, hst.le, hold, fun j hj => List.mem_append_right _ hj, fun j y hj => ?_, fun b hb hnb => hst.block b hb fun i x hi => ?_, fun b c t f hb => hst.cells b c t f hb⟩
    · rcases hcase j y hj with ⟨i, x, e1, -, -, e4⟩ | ⟨-, e2, e3⟩
      · rw [e4]
        rcases hwho i x e1 with ⟨k, z, -, k2, k3⟩ | h8
        · exact .inl ⟨_, z, k2, (hc.blk _ z k2).1, k3⟩
        · exact .inr h8
      · exact .inl ⟨j, y, e2, (hc.blk j y e2).1, e3.symm⟩
    · obtain ⟨y', hy', -⟩ := hgetH i x hi
      exact hnb _ y' hy'
  have hle := hc.le (S' := ⟨S.F, H1 ++ S.H, n1 ++ S.nm⟩) hst2
  have hturn : RE.turn (ap rl) ⟨C.V, w', σ', H'.map (·.1), GAfter (C.G S.H w σ) w w' H' σ'⟩ (C.RE ⟨S.F, H1 ++ S.H, n1 ++ S.nm⟩ w' σ'') := by
    refine ⟨rfl, rfl, fun b hb => ?_, fun i hi => ⟨(hσ i hi).2, (hσ i hi).1⟩⟩
    rcases hb with hb | ⟨m1, m2, m3⟩
    · exact hle.G b hb
    · refine .inr ⟨by have := hc.kept.size; omega, m2, fun j y hj e => ?_⟩
      rcases hcase j y hj with ⟨i, x, e1, -, -, e4⟩ | ⟨-, e2, e3⟩
      · rw [e4] at e; exact m3 i x e1 e
      · rw [e3] at e; have := hlt j y e2; omega
  have hc2 := hc.step (S' := ⟨S.F, H1 ++ S.H, n1 ++ S.nm⟩) hst2 (fun j l y u hj hl e => by
      have mixed : ∀ i x l u, getH H' i = some x → keyIn H1 l = false → getH S.H l = some u → σ' i ≠ σ l := fun i x l u e1 hk e2 e => by
        rcases hwho i x e1 with ⟨k, z, k1, k2, k3⟩ | h8
        · have := hc.inj _ _ _ _ k2 e2 (k3.trans e)
          rw [← this, hHkey k k1] at hk; cases hk
        · have := hlt l u e2; omega
      rcases hcase j y hj with ⟨i, x, e1, e2, -, e4⟩ | ⟨hk, e2, e3⟩ <;> rcases hcase l u hl with ⟨i', x', d1, d2, -, d4⟩ | ⟨hk', d2, d3⟩
      · rw [e4, d4] at e
        have := hinj i i' x x' e1 d1 e
        rw [← e2, ← d2, this]
      · rw [e4, d3] at e
        exact absurd e (mixed i x l u e1 hk' d2)
      · rw [e3, d4] at e
        exact absurd e.symm (mixed i' x' j y d1 hk e2)
      · rw [e3, d3] at e
        exact hc.inj j l y u e2 d2 e) (fun j y hj => by
      rcases hcase j y hj with ⟨i, x, e1, e2, e3, e4⟩ | ⟨hk, e2, e3⟩
      · obtain ⟨k1, c1, t1, f1, cs, rest, g1, g2, g3, g4⟩ := hblk i x e1
        refine ⟨by rw [← e2]; exact (hσ i (getH_map e1)).2, ?_⟩
        rw [e4]
        exact ⟨c1, t1, f1, cs, rest, g1, g2, by rw [e3]; exact Rel.turn hturn x cs g3, g4⟩
      · obtain ⟨k1, -, -, k4⟩ := hc.blk j y e2
        refine ⟨List.mem_append_right _ k1, ?_⟩
        rw [e3]
        exact k4.le hle (hst.block _ (hlt j y e2) (hother j y hk e2))) rfl
  refine ⟨σ'', hc2.put o.dst (r.ren (ap rl)) v hd ?_, hle, v, rfl⟩
  exact RelV.turn hturn r v hrel
theorem opr_callG_le {fo : Operand} {as1 : Array Operand} {ts : Array TypeId} {g : FuncId} {args : List AV} {r r1 : AV} {H H0 H1 : List (Nat × Option AV)} {n1 : List Nat} {rl : List (Nat × Nat)}
    (ho : o.op = .call { callee := .value fo, args := as1, argTypes := ts }) (hf : ρ fo = .fn g []) (he : Ent C.V.P g)
    (h : AGen C.V g args H r H0) (hv : AArg C rl (H.map (·.1)) (as1.toList.map ρ) args) (hin : HIn η rl (H.map (·.1)) H)
    (hr : r.ren (ap rl) = r1) (hH : (H0.map fun p => (ap rl p.1, p.2.map (AV.ren (ap rl)))) = H1) (hn1 : ((H0.filter fun p => !keyIn H p.1).map fun p => ap rl p.1) = n1) (hok : okG rl H H0 = true) :
    OpRL C o ρ η ⟨r1, H1, n1⟩ :=
  opr_callGC_le (caps := []) ho hf he rfl h (by rw [List.append_nil]; exact hv) hin hr hH hn1 hok
theorem opr_callG {fo : Operand} {as1 : Array Operand} {ts : Array TypeId} {g : FuncId} {args : List AV} {r r1 : AV} {H H0 H1 : List (Nat × Option AV)} {n1 : List Nat} {rl : List (Nat × Nat)}
    (ho : o.op = .call { callee := .value fo, args := as1, argTypes := ts }) (hf : ρ fo = .fn g []) (he : Ent C.V.P g)
    (h : AGen C.V g args H r H0) (hv : AArg C rl (H.map (·.1)) (as1.toList.map ρ) args) (hin : HIn η rl (H.map (·.1)) H)
    (hr : r.ren (ap rl) = r1) (hH : (H0.map fun p => (ap rl p.1, p.2.map (AV.ren (ap rl)))) = H1) (hn1 : ((H0.filter fun p => !keyIn H p.1).map fun p => ap rl p.1) = n1) (hok : okG rl H H0 = true) :
    OpR C o ρ η ⟨r1, H1, n1⟩ := (opr_callG_le ho hf he h hv hin hr hH hn1 hok).r
end
/-- The blocks that come back, one behind the other. -/
def GHs (η ζ : Nat → Option AV) (H0 : List (Nat × Option AV)) : List (Nat × Option AV) → Prop
  | [] => True
  | (_, none) :: l => GHs η ζ H0 l
  | (i, some x) :: l => (∃ y z, ζ i = some y ∧ Shut η (fun i => (getH H0 i).isSome) false y z ∧ (z = .top → y.one = true) ∧ Wk z x ∧ z.inB (H0.map (·.1)) = true) ∧ GHs η ζ H0 l
theorem GHs.mem {η ζ : Nat → Option AV} {H0 : List (Nat × Option AV)} : ∀ {L : List (Nat × Option AV)}, GHs η ζ H0 L → ∀ i x, (i, some x) ∈ L →
    ∃ y z, ζ i = some y ∧ Shut η (fun i => (getH H0 i).isSome) false y z ∧ (z = .top → y.one = true) ∧ Wk z x ∧ z.inB (H0.map (·.1)) = true
  | (t0, none) :: L, h, t, v, hm => by
    simp only [GHs] at h
    rcases List.mem_cons.1 hm with e | e
    · simp at e
    · exact GHs.mem h t v e
  | (t0, some v0) :: L, h, t, v, hm => by
    simp only [GHs] at h
    rcases List.mem_cons.1 hm with e | e
    · simp only [Prod.mk.injEq, Option.some.injEq] at e; obtain ⟨rfl, rfl⟩ := e; exact h.1
    · exact GHs.mem h.2 t v e
theorem ghs {η ζ : Nat → Option AV} {H0 : List (Nat × Option AV)} (h : GHs η ζ H0 H0) : ∀ i x, getH H0 i = some x → ∃ y z, ζ i = some y ∧ Shut η (fun i => (getH H0 i).isSome) false y z ∧ (z = .top → y.one = true) ∧ WkC z x ∧ z.inB (H0.map (·.1)) = true := by
  intro i x hi
  have := getH_in (keyIn_getH hi)
  rw [hi] at this
  obtain ⟨y, z, h1, h2, h3, h4, h5⟩ := h.mem i x this
  exact ⟨y, z, h1, h2, h3, Wk.c h4, h5⟩
/-- The closed checks of an end. -/
def okE (A : Bool) (H H0 : List (Nat × Option AV)) : Bool := (!A || H.all fun p => (getH H0 p.1).isSome) && H.all fun p => keyIn H0 p.1
theorem okE_out {A : Bool} {H H0 : List (Nat × Option AV)} (h : okE A H H0 = true) : (A = true → ∀ i, bnd H i = true → (getH H0 i).isSome = true) ∧ (∀ i, i ∈ H.map (·.1) → i ∈ H0.map (·.1)) := by
  simp only [okE, Bool.and_eq_true, Bool.or_eq_true] at h
  refine ⟨fun hA i hi => ?_, fun i hi => ?_⟩
  · subst hA
    unfold bnd at hi
    obtain ⟨p, hp, he⟩ := List.any_eq_true.1 hi
    have := List.all_eq_true.1 (h.1.resolve_left (by simp)) p hp
    rw [← (eq_of_beq he : p.1 = i)]; exact this
  · obtain ⟨p, hp, rfl⟩ := List.mem_map.1 hi
    obtain ⟨v, hv⟩ := keyIn_mem (List.all_eq_true.1 h.2 p hp)
    exact List.mem_map.2 ⟨_, hv, rfl⟩
theorem gend1 {C : Ctx} {S : St} {fn : Func} {H H0 : List (Nat × Option AV)} {r0 r1 r : AV} (A : Bool) (h : ResL C S fn.results.toList [r0]) (hs : Shut (kpH A S.H H0) (fun i => (getH H0 i).isSome) false r0 r1) (hin : r1.inB (H0.map (·.1)) = true) (hw : Wk r1 r)
    (ho : okE A H H0 = true) (hH : GHs (kpH A S.H H0) (getH S.H) H0 H0) : GEnd C fn H r H0 S := ⟨A, ⟨r0, r1, res_one h, hs, Wk.v hw, hin, ghs hH⟩, (okE_out ho).1, (okE_out ho).2⟩
theorem gends {C : Ctx} {S : St} {fn : Func} {H H0 : List (Nat × Option AV)} {l m : List AV} {r : AV} (A : Bool) (h : ResL C S fn.results.toList l) (hn : l.length ≠ 1) (hs : ShutL (kpH A S.H H0) (fun i => (getH H0 i).isSome) false l m) (hin : AV.inBL (H0.map (·.1)) m = true) (hw : Wk (.tup m) r)
    (ho : okE A H H0 = true) (hH : GHs (kpH A S.H H0) (getH S.H) H0 H0) : GEnd C fn H r H0 S := ⟨A, ⟨.tup l, .tup m, res_many h hn, .tup hs, Wk.v hw, by simpa [AV.inB] using hin, ghs hH⟩, (okE_out ho).1, (okE_out ho).2⟩
end Go.Fy
/- The engine, 21: a range over a function (my own text; any program). -/
set_option linter.unusedSimpArgs false
namespace Go.Fy
open Go.RowKit
/-! ### Within a round -/
/-! ### The place is taken anew -/
end Go.Fy
/- The engine, 22: from the kit's contracts to mine (my own text; any program). -/
set_option linter.unusedSimpArgs false
namespace Go.Fy
open Go.RowKit
/-- A contract in the kit's words, of a function whose answer leads to no memory. -/
theorem apure_of_calls {V : Env} {f : FuncId} {args : List AV} {r : AV}
    (h : ∀ (E : RE) (vals : Array Value), E.V = V → EnvOK E → (∀ b, E.G b → b < E.w.heap.size) → RelT E args vals.toList → Calls V.P f vals E.w fun e w' => ∃ v, e = .returned v ∧ (∀ E' : RE, RelV E' r v) ∧ Below E.w.heap.size E.w w') : APure V f args false r := by
  intro w σ G Gall vals h1 h2 h3 h4 h5 h6 h7
  have hle : (⟨V, w, σ, [], G⟩ : RE).le ⟨V, w, σ, [], Gall⟩ := ⟨rfl, fun _ _ => rfl, fun _ h => h, fun b hb => h2 b hb, fun _ _ _ _ h => h, fun _ c t fr h => ⟨c, t, fr, h, rfl⟩, fun _ _ _ _ h => h⟩
  refine (h ⟨V, w, σ, [], Gall⟩ vals rfl (h4.le hle) h1 h7).mono fun e w' ⟨v, he, hv, hb⟩ => ?_
  refine ⟨v, r, [], [], σ, he, ⟨WkV.refl _, rfl, rfl⟩, ⟨hb.os, hb.tape, hb.output, hb.size, fun _ _ => rfl, fun _ h => h, fun i x hi => (by simp [getH] at hi), fun b hlt _ => hb.block b hlt, fun b c t fr hh => ⟨c, t, fr, ?_, rfl⟩⟩, fun i hi => (by simp [bnd] at hi), fun i j x y hi => (by simp [getH] at hi), fun i x hi => (by simp [getH] at hi), hv _⟩
  exact (hb.block b (Array.getElem?_eq_some_iff.1 hh).1).trans hh
theorem aview_osl0 {η : Nat → Option AV} {r : Nat → Nat} {i z n c m : Nat} {f : Nat → AV} (hi : η i = some (.arr z m f)) (hle : n ≤ m) : AView η [] r true (.osl i z 0 n c) (.sl z false n f) :=
  aview_osl hi (fun j hj => by cases hj) (by omega) f (fun j _ => by rw [Nat.zero_add])
theorem aview_wk {η : Nat → Option AV} {nm : List Nat} {r : Nat → Nat} {fr : Bool} {a a' : AV} (hn : a.noN = true) (h : Wk a a') : AView η nm r fr a a' := fun E E' v h1 h2 h3 h4 h5 hv =>
  h.v E' v (aview_noN (η := η) (r := r) (fr := fr) hn E E' v h1 h2 h3 h4 h5 hv)
end Go.Fy
/- The engine, 25: arrays built, bits turned (my own text; any program). -/
set_option linter.unusedSimpArgs false
namespace Go.Fy
open Go.RowKit
section
variable {V : Env} {o : Oper} {ρ : Operand → AV} {η : Nat → Option AV}
theorem opp_buildArr {t : TypeId} {z n : Nat} {f : Nat → AV} {m : Nat} {e : TypeId} (ho : o.op = .build t #[]) (hz : Zero V.P t (.arr z n f)) (hu : V.P.underlying t = some (.array m e)) (he : (V.P.info? e).isSome = true) : OpP V o ρ η (.arr z n f) :=
  opp_val fun E ε hV _ h _ => by
    obtain ⟨i, zv, hi, hv, hs, hr⟩ := hz
    obtain ⟨ie, hie⟩ := Option.isSome_iff_exists.1 he
    refine ⟨.agg zv.cells, ?_, by simp only [RelV]; exact ⟨_, rfl, hr E⟩⟩
    have hzv : (zeroValue t).run V.P E.w = .ok zv E.w := by simp [zeroValue, typeInfo, hi, hv, Result.andThen]
    simp [execOp, ho, Instr.build, hzv, Result.andThen, run_underlying hu, sizeOf, typeInfo, hie, Instr.fill]
theorem opp_compl {t : TypeId} {x : Operand} {k : IntKind} {a n : Int} (ho : o.op = .unOp .xor t x) (hx : ρ x = .int k a) (hn : k.wrap ((BitVec.ofInt k.bits (if k.signed then -1 else k.max) ^^^ BitVec.ofInt k.bits a).toNat : Int) = n) : OpP V o ρ η (.int k n) :=
  opp_val fun E ε _ _ h _ => by
    have h1 := h x (by simp [ho, Op.operands])
    rw [hx] at h1; simp only [RelV] at h1
    refine ⟨.int k n, ?_, by simp [RelV]⟩
    subst hn
    simp [execOp, ho, h1, Op.unary, Op.intBits]
end
end Go.Fy
/- The engine, 24: what printed walks repeat: theorems with proofs that Lean finds where they are used (my own text; any program). -/
set_option linter.unusedVariables false
namespace Go.Fy
open Go.RowKit
/-- For the printed walks: a value as it is. -/
theorem wkv {p : Prop} (h : p := by (first | exact Or.inl rfl | exact Or.inr (And.intro rfl (WkV.refl _)) | exact Or.inr (And.intro rfl (WkV.of (by simp))) | exact Or.inr (And.intro rfl (WkV.of (by simp; omega))))) : p := h
/-- For the printed walks: what a guard asks (the guard's fact is called hg). -/
theorem gi {p : Prop} (h : p := by first | exact True.intro | exact And.intro hg True.intro | (refine And.intro ?_ True.intro; rw [hg]; rfl; done) | (refine And.intro ?_ True.intro; revert hg; simp; done) | (refine And.intro ?_ True.intro; simp_all; done)) : p := h
/-- For the printed walks: the same, behind a choice (called h0). -/
theorem g2 {p : Prop} (h : p := by first | exact True.intro | exact And.intro hg True.intro | (refine And.intro ?_ True.intro; rw [hg]; rfl; done) | (refine And.intro ?_ True.intro; revert h0 hg; simp; done) | (refine And.intro ?_ True.intro; simp_all; done)) : p := h
/-- For the printed walks: a value with no name left. -/
theorem shut {p : Prop} (h : p := by (repeat' (first | exact Shut.row0 rfl rfl (by omega) (by first | exact (fun _ _ _ => rfl) | exact (fun h => by cases h)) | exact Shut.row rfl rfl (by omega) (fun _ _ => rfl) (by first | exact (fun _ _ _ => rfl) | exact (fun h => by cases h)) | apply Shut.agg | apply Shut.fn | apply Shut.ptr | exact ShutL.nil | apply ShutL.cons | (intro h; cases h; done) | exact rfl | exact Shut.refl (by first | exact (fun _ => And.intro rfl rfl) | exact (fun h => by cases h))))) : p := h
/-- For the printed walks: a side remark. -/
theorem sfr {p : Prop} (h : p := by first | exact (fun _ => And.intro rfl rfl) | exact (fun h => by cases h)) : p := h
/-- For the printed walks: a row that stays. -/
theorem frow {p : Prop} (h : p := by first | exact (fun _ _ _ => rfl) | exact (fun h => by cases h)) : p := h
/-- For the printed walks: a bound. -/
theorem bi {p : Prop} (h : p := by first | exact True.intro | exact ⟨by omega, True.intro⟩) : p := h
/-- For the printed walks: a block that stays. -/
theorem fr2 {p : Prop} (h : p := by first | exact (fun _ => rfl) | exact (fun h => by cases h)) : p := h
/-- For the printed walks: cells. -/
theorem wkc {p : Prop} (h : p := by (first | exact WkC.refl _ | exact WkC.of (by simp) | exact WkC.arr (fun j hj => by simp; done))) : p := h
/-- For the printed walks: a value that says less. -/
theorem wkt {p : Prop} (h : p := by (repeat' (first | exact Wk.refl | exact Wk.sl0 | apply Wk.tup | apply Wk.agg | apply WkL.cons | exact WkL.nil | refine Wk.sl (fun _ _ => ?_)))) : p := h
/-- For the printed walks: an argument. -/
theorem wka {p : Prop} (h : p := by first | exact WkV.refl _ | exact WkV.of (by simp; done) | exact WkV.of (by simp; omega) | exact Wk.v wkt) : p := h
/-- Short names. -/
theorem qa {b : Bool} : ((!b) = true) = (b = false) := Bool.not_eq_true' b
theorem qb {b : Bool} : ((!b) = false) = (b = true) := Bool.not_eq_false' b
theorem qc {p : Prop} [Decidable p] : (decide p = true) = p := decide_eq_true_eq
theorem qd {p : Prop} [Decidable p] : (decide p = false) = ¬p := by simp
end Go.Fy
/- Closed facts on this dump: its types, its functions (printed by gen.py). -/
namespace Go.Proofs.YtpmgdmbcdohgcaaDoor
open Go.Fy
theorem ty3 : tyOf Tryd.prog 3 = some (false, 1) := by kernel_rfl
theorem ty4 : tyOf Tryd.prog 4 = some (false, 1) := by kernel_rfl
theorem ty5 : tyOf Tryd.prog 5 = some (false, 1) := by kernel_rfl
theorem ty9 : tyOf Tryd.prog 9 = some (false, 1) := by kernel_rfl
theorem ty26 : tyOf Tryd.prog 26 = some (false, 1) := by kernel_rfl
theorem ty27 : tyOf Tryd.prog 27 = some (false, 1) := by kernel_rfl
theorem ty28 : tyOf Tryd.prog 28 = some (false, 1) := by kernel_rfl
theorem ty29 : tyOf Tryd.prog 29 = some (false, 1) := by kernel_rfl
theorem ty30 : tyOf Tryd.prog 30 = some (false, 1) := by kernel_rfl
theorem ty31 : tyOf Tryd.prog 31 = some (false, 1) := by kernel_rfl
theorem ty33 : tyOf Tryd.prog 33 = some (true, 10) := by kernel_rfl
theorem ty35 : tyOf Tryd.prog 35 = some (false, 1) := by kernel_rfl
theorem ty38 : tyOf Tryd.prog 38 = some (false, 1) := by kernel_rfl
theorem ty40 : tyOf Tryd.prog 40 = some (true, 2) := by kernel_rfl
theorem ty45 : tyOf Tryd.prog 45 = some (false, 1) := by kernel_rfl
theorem ty52 : tyOf Tryd.prog 52 = some (true, 2) := by kernel_rfl
theorem ty61 : tyOf Tryd.prog 61 = some (true, 5) := by kernel_rfl
theorem ty68 : tyOf Tryd.prog 68 = some (false, 1) := by kernel_rfl
theorem ty70 : tyOf Tryd.prog 70 = some (true, 2) := by kernel_rfl
theorem ty80 : tyOf Tryd.prog 80 = some (true, 66) := by kernel_rfl
theorem ty111 : tyOf Tryd.prog 111 = some (false, 1) := by kernel_rfl
theorem ty116 : tyOf Tryd.prog 116 = some (true, 21) := by kernel_rfl
theorem ty146 : tyOf Tryd.prog 146 = some (false, 1) := by kernel_rfl
theorem fld33_1 : fldOf Tryd.prog 33 1 = some (1, 1, false) := by kernel_rfl
theorem fld33_2 : fldOf Tryd.prog 33 2 = some (2, 1, false) := by kernel_rfl
theorem fld33_3 : fldOf Tryd.prog 33 3 = some (3, 1, false) := by kernel_rfl
theorem fld33_4 : fldOf Tryd.prog 33 4 = some (4, 1, false) := by kernel_rfl
theorem fld33_5 : fldOf Tryd.prog 33 5 = some (5, 1, false) := by kernel_rfl
theorem fld33_6 : fldOf Tryd.prog 33 6 = some (6, 1, false) := by kernel_rfl
theorem fld33_7 : fldOf Tryd.prog 33 7 = some (7, 1, false) := by kernel_rfl
theorem fld33_8 : fldOf Tryd.prog 33 8 = some (8, 1, false) := by kernel_rfl
theorem fld33_9 : fldOf Tryd.prog 33 9 = some (9, 1, false) := by kernel_rfl
theorem fld40_0 : fldOf Tryd.prog 40 0 = some (0, 1, false) := by kernel_rfl
theorem fld40_1 : fldOf Tryd.prog 40 1 = some (1, 1, false) := by kernel_rfl
theorem fld52_0 : fldOf Tryd.prog 52 0 = some (0, 1, false) := by kernel_rfl
theorem fld52_1 : fldOf Tryd.prog 52 1 = some (1, 1, false) := by kernel_rfl
theorem fld61_0 : fldOf Tryd.prog 61 0 = some (0, 1, false) := by kernel_rfl
theorem fld61_1 : fldOf Tryd.prog 61 1 = some (1, 1, false) := by kernel_rfl
theorem fld61_2 : fldOf Tryd.prog 61 2 = some (2, 1, false) := by kernel_rfl
theorem fld61_3 : fldOf Tryd.prog 61 3 = some (3, 1, false) := by kernel_rfl
theorem fld70_0 : fldOf Tryd.prog 70 0 = some (0, 1, false) := by kernel_rfl
theorem fld70_1 : fldOf Tryd.prog 70 1 = some (1, 1, false) := by kernel_rfl
theorem fld72_0 : fldOf Tryd.prog 72 0 = some (0, 1, false) := by kernel_rfl
theorem fld72_1 : fldOf Tryd.prog 72 1 = some (1, 1, false) := by kernel_rfl
theorem fld80_2 : fldOf Tryd.prog 80 2 = some (2, 64, true) := by kernel_rfl
theorem fld93_0 : fldOf Tryd.prog 93 0 = some (0, 1, false) := by kernel_rfl
theorem fld93_1 : fldOf Tryd.prog 93 1 = some (1, 1, false) := by kernel_rfl
theorem fld94_0 : fldOf Tryd.prog 94 0 = some (0, 1, false) := by kernel_rfl
theorem fld94_1 : fldOf Tryd.prog 94 1 = some (1, 1, false) := by kernel_rfl
theorem fld100_0 : fldOf Tryd.prog 100 0 = some (0, 1, false) := by kernel_rfl
theorem fld100_1 : fldOf Tryd.prog 100 1 = some (1, 1, false) := by kernel_rfl
theorem fld113_0 : fldOf Tryd.prog 113 0 = some (0, 1, false) := by kernel_rfl
theorem fld113_1 : fldOf Tryd.prog 113 1 = some (1, 1, false) := by kernel_rfl
theorem fld116_0 : fldOf Tryd.prog 116 0 = some (0, 16, true) := by kernel_rfl
theorem fld116_1 : fldOf Tryd.prog 116 1 = some (16, 1, false) := by kernel_rfl
theorem fld116_2 : fldOf Tryd.prog 116 2 = some (17, 1, false) := by kernel_rfl
theorem fld116_3 : fldOf Tryd.prog 116 3 = some (18, 1, false) := by kernel_rfl
theorem fld116_4 : fldOf Tryd.prog 116 4 = some (19, 1, false) := by kernel_rfl
theorem fld116_5 : fldOf Tryd.prog 116 5 = some (20, 1, false) := by kernel_rfl
theorem fld128_0 : fldOf Tryd.prog 128 0 = some (0, 1, false) := by kernel_rfl
theorem fld128_1 : fldOf Tryd.prog 128 1 = some (1, 1, false) := by kernel_rfl
theorem fld139_0 : fldOf Tryd.prog 139 0 = some (0, 1, false) := by kernel_rfl
theorem fld139_1 : fldOf Tryd.prog 139 1 = some (1, 1, false) := by kernel_rfl
theorem fld139_2 : fldOf Tryd.prog 139 2 = some (2, 1, false) := by kernel_rfl
theorem el22 : elOf Tryd.prog 22 = some (72, 2) := by kernel_rfl
theorem el24 : elOf Tryd.prog 24 = some (40, 2) := by kernel_rfl
theorem el30 : elOf Tryd.prog 30 = some (70, 2) := by kernel_rfl
theorem el38 : elOf Tryd.prog 38 = some (5, 1) := by kernel_rfl
theorem el54 : elOf Tryd.prog 54 = some (94, 2) := by kernel_rfl
theorem el90 : elOf Tryd.prog 90 = some (93, 2) := by kernel_rfl
theorem el97 : elOf Tryd.prog 97 = some (100, 2) := by kernel_rfl
theorem el147 : elOf Tryd.prog 147 = some (146, 1) := by kernel_rfl
theorem arr78 : arrOf Tryd.prog 78 = some (64, 1, false) := by kernel_rfl
theorem arr114 : arrOf Tryd.prog 114 = some (16, 1, false) := by kernel_rfl
theorem arr185 : arrOf Tryd.prog 185 = some (256, 1, false) := by kernel_rfl
theorem un3 : Tryd.prog.underlying 3 = some (.int .i64) := by kernel_rfl
theorem un3s : (Tryd.prog.underlying 3).isSome = true := by kernel_rfl
theorem un5 : Tryd.prog.underlying 5 = some (.int .u8) := by kernel_rfl
theorem un5s : (Tryd.prog.underlying 5).isSome = true := by kernel_rfl
theorem un9 : Tryd.prog.underlying 9 = some (.string) := by kernel_rfl
theorem un22 : Tryd.prog.underlying 22 = some (.slice 72) := by kernel_rfl
theorem un24 : Tryd.prog.underlying 24 = some (.slice 40) := by kernel_rfl
theorem un30 : Tryd.prog.underlying 30 = some (.slice 70) := by kernel_rfl
theorem un35 : Tryd.prog.underlying 35 = some (.interface (Tryd.prog.methodsAt 35)) := by kernel_rfl
theorem un38 : Tryd.prog.underlying 38 = some (.slice 5) := by kernel_rfl
theorem un45 : Tryd.prog.underlying 45 = some (.int .u32) := by kernel_rfl
theorem un45s : (Tryd.prog.underlying 45).isSome = true := by kernel_rfl
theorem un54 : Tryd.prog.underlying 54 = some (.slice 94) := by kernel_rfl
theorem un68 : Tryd.prog.underlying 68 = some (.slice 9) := by kernel_rfl
theorem un90 : Tryd.prog.underlying 90 = some (.slice 93) := by kernel_rfl
theorem un97 : Tryd.prog.underlying 97 = some (.slice 100) := by kernel_rfl
theorem un147 : Tryd.prog.underlying 147 = some (.slice 146) := by kernel_rfl
theorem un185 : Tryd.prog.underlying 185 = some (.array 256 45) := by kernel_rfl
theorem z3 : Zero Tryd.prog 3 (.int .i64 0) := zero_of (by kernel_rfl)
theorem z4 : Zero Tryd.prog 4 (.bool false) := zero_of (by kernel_rfl)
theorem z5 : Zero Tryd.prog 5 (.int .u8 0) := zero_of (by kernel_rfl)
theorem z9 : Zero Tryd.prog 9 (.str []) := zero_of (by kernel_rfl)
theorem z33 : Zero Tryd.prog 33 (.agg [.int .i64 0, .int .i64 0, .int .i64 0, .sl 21 true 0 (fun _ => .top), .sl 1 true 0 (fun _ => .top), .sl 2 true 0 (fun _ => .top), .sl 1 true 0 (fun _ => .top), .sl 1 true 0 (fun _ => .top), .sl 2 true 0 (fun _ => .top), .sl 66 true 0 (fun _ => .top)]) := zero_of (by kernel_rfl)
theorem z40 : Zero Tryd.prog 40 (.agg [.int .i64 0, .sl 1 true 0 (fun _ => .top)]) := zero_of (by kernel_rfl)
theorem z52 : Zero Tryd.prog 52 (.agg [.int .i64 0, .int .i64 0]) := zero_of (by kernel_rfl)
theorem z61 : Zero Tryd.prog 61 (.agg [.int .i64 0, .int .i64 0, .int .i64 0, .int .u32 0, .int .u32 0]) := zero_of (by kernel_rfl)
theorem z70 : Zero Tryd.prog 70 (.agg [.sl 1 true 0 (fun _ => .top), .int .i64 0]) := zero_of (by kernel_rfl)
theorem z80 : Zero Tryd.prog 80 (.agg [.int .i64 0, .bool false, .arr 1 64 (fun _ => .int .u8 0)]) := zero_of (by kernel_rfl)
theorem z93 : Zero Tryd.prog 93 (.agg [.int .i64 0, .bool false]) := zero_of (by kernel_rfl)
theorem z94 : Zero Tryd.prog 94 (.agg [.int .i64 0, .sl 1 true 0 (fun _ => .top)]) := zero_of (by kernel_rfl)
theorem z100 : Zero Tryd.prog 100 (.agg [.int .i64 0, .bool false]) := zero_of (by kernel_rfl)
theorem z111 : Zero Tryd.prog 111 (.val (.pointer none)) := zero_of (by kernel_rfl)
theorem z113 : Zero Tryd.prog 113 (.agg [.int .i64 0, .err .nil]) := zero_of (by kernel_rfl)
theorem z116 : Zero Tryd.prog 116 (.agg [.arr 1 16 (fun _ => .int .u32 0), .int .u32 0, .int .i64 0, .int .i64 0, .int .i64 0, .int .i64 0]) := zero_of (by kernel_rfl)
theorem z121 : Zero Tryd.prog 121 (.agg [.int .i64 0, .int .i64 0]) := zero_of (by kernel_rfl)
theorem z128 : Zero Tryd.prog 128 (.agg [.sl 1 true 0 (fun _ => .top), .err .nil]) := zero_of (by kernel_rfl)
theorem z139 : Zero Tryd.prog 139 (.agg [.sl 1 true 0 (fun _ => .top), .int .i64 0, .int .i64 0]) := zero_of (by kernel_rfl)
theorem z146 : Zero Tryd.prog 146 (.val (.pointer none)) := zero_of (by kernel_rfl)
theorem z185 : Zero Tryd.prog 185 (.arr 1 256 (fun _ => .int .u32 0)) := zero_of (by kernel_rfl)
theorem bld33 : bldOf Tryd.prog 33 = some [(0, 1), (1, 1), (2, 1), (3, 1), (4, 1), (5, 1), (6, 1), (7, 1), (8, 1), (9, 1)] := by kernel_rfl
theorem bld40 : bldOf Tryd.prog 40 = some [(0, 1), (1, 1)] := by kernel_rfl
theorem bld52 : bldOf Tryd.prog 52 = some [(0, 1), (1, 1)] := by kernel_rfl
theorem bld61 : bldOf Tryd.prog 61 = some [(0, 1), (1, 1), (2, 1), (3, 1), (4, 1)] := by kernel_rfl
theorem bld80 : bldOf Tryd.prog 80 = some [(0, 1), (1, 1), (2, 64)] := by kernel_rfl
theorem bld93 : bldOf Tryd.prog 93 = some [(0, 1), (1, 1)] := by kernel_rfl
theorem bld94 : bldOf Tryd.prog 94 = some [(0, 1), (1, 1)] := by kernel_rfl
theorem bld100 : bldOf Tryd.prog 100 = some [(0, 1), (1, 1)] := by kernel_rfl
theorem bld113 : bldOf Tryd.prog 113 = some [(0, 1), (1, 1)] := by kernel_rfl
theorem bld121 : bldOf Tryd.prog 121 = some [(0, 1), (1, 1)] := by kernel_rfl
theorem bld128 : bldOf Tryd.prog 128 = some [(0, 1), (1, 1)] := by kernel_rfl
theorem bld139 : bldOf Tryd.prog 139 = some [(0, 1), (1, 1), (2, 1)] := by kernel_rfl
theorem eb24 : elB Tryd.prog 24 = some (40, 2, 32) := by kernel_rfl
theorem eb26 : elB Tryd.prog 26 = some (116, 21, 104) := by kernel_rfl
theorem eb27 : elB Tryd.prog 27 = some (3, 1, 8) := by kernel_rfl
theorem eb28 : elB Tryd.prog 28 = some (121, 2, 16) := by kernel_rfl
theorem eb29 : elB Tryd.prog 29 = some (4, 1, 1) := by kernel_rfl
theorem eb30 : elB Tryd.prog 30 = some (70, 2, 32) := by kernel_rfl
theorem eb31 : elB Tryd.prog 31 = some (80, 66, 80) := by kernel_rfl
theorem eb38 : elB Tryd.prog 38 = some (5, 1, 1) := by kernel_rfl
theorem eb54 : elB Tryd.prog 54 = some (94, 2, 32) := by kernel_rfl
theorem eb68 : elB Tryd.prog 68 = some (9, 1, 16) := by kernel_rfl
theorem eb90 : elB Tryd.prog 90 = some (93, 2, 16) := by kernel_rfl
theorem eb97 : elB Tryd.prog 97 = some (100, 2, 16) := by kernel_rfl
theorem eb147 : elB Tryd.prog 147 = some (146, 1, 8) := by kernel_rfl
theorem hmix : Tryd.prog.follows .mixedOrders = true := by kernel_rfl
theorem unu8 : Tryd.prog.underlying 5 = some (.int .u8) := by kernel_rfl
theorem ent6 : Ent Tryd.prog 6 := ⟨Tryd.f6, Tryd.func6, by kernel_rfl, by kernel_rfl⟩
theorem ent7 : Ent Tryd.prog 7 := ⟨Tryd.f7, Tryd.func7, by kernel_rfl, by kernel_rfl⟩
theorem ent8 : Ent Tryd.prog 8 := ⟨Tryd.f8, Tryd.func8, by kernel_rfl, by kernel_rfl⟩
theorem ent9 : Ent Tryd.prog 9 := ⟨Tryd.f9, Tryd.func9, by kernel_rfl, by kernel_rfl⟩
theorem ent11 : Ent Tryd.prog 11 := ⟨Tryd.f11, Tryd.func11, by kernel_rfl, by kernel_rfl⟩
theorem ent12 : Ent Tryd.prog 12 := ⟨Tryd.f12, Tryd.func12, by kernel_rfl, by kernel_rfl⟩
theorem ent13 : Ent Tryd.prog 13 := ⟨Tryd.f13, Tryd.func13, by kernel_rfl, by kernel_rfl⟩
theorem ent15 : Ent Tryd.prog 15 := ⟨Tryd.f15, Tryd.func15, by kernel_rfl, by kernel_rfl⟩
theorem ent16 : Ent Tryd.prog 16 := ⟨Tryd.f16, Tryd.func16, by kernel_rfl, by kernel_rfl⟩
theorem ent17 : Ent Tryd.prog 17 := ⟨Tryd.f17, Tryd.func17, by kernel_rfl, by kernel_rfl⟩
theorem ent18 : Ent Tryd.prog 18 := ⟨Tryd.f18, Tryd.func18, by kernel_rfl, by kernel_rfl⟩
theorem ent19 : Ent Tryd.prog 19 := ⟨Tryd.f19, Tryd.func19, by kernel_rfl, by kernel_rfl⟩
theorem ent20 : Ent Tryd.prog 20 := ⟨Tryd.f20, Tryd.func20, by kernel_rfl, by kernel_rfl⟩
theorem ent21 : Ent Tryd.prog 21 := ⟨Tryd.f21, Tryd.func21, by kernel_rfl, by kernel_rfl⟩
theorem ent23 : Ent Tryd.prog 23 := ⟨Tryd.f23, Tryd.func23, by kernel_rfl, by kernel_rfl⟩
theorem ent24 : Ent Tryd.prog 24 := ⟨Tryd.f24, Tryd.func24, by kernel_rfl, by kernel_rfl⟩
theorem ent25 : Ent Tryd.prog 25 := ⟨Tryd.f25, Tryd.func25, by kernel_rfl, by kernel_rfl⟩
theorem ent26 : Ent Tryd.prog 26 := ⟨Tryd.f26, Tryd.func26, by kernel_rfl, by kernel_rfl⟩
theorem ent27 : Ent Tryd.prog 27 := ⟨Tryd.f27, Tryd.func27, by kernel_rfl, by kernel_rfl⟩
theorem ent28 : Ent Tryd.prog 28 := ⟨Tryd.f28, Tryd.func28, by kernel_rfl, by kernel_rfl⟩
theorem ent30 : Ent Tryd.prog 30 := ⟨Tryd.f30, Tryd.func30, by kernel_rfl, by kernel_rfl⟩
theorem ent31 : Ent Tryd.prog 31 := ⟨Tryd.f31, Tryd.func31, by kernel_rfl, by kernel_rfl⟩
theorem ent32 : Ent Tryd.prog 32 := ⟨Tryd.f32, Tryd.func32, by kernel_rfl, by kernel_rfl⟩
theorem ent33 : Ent Tryd.prog 33 := ⟨Tryd.f33, Tryd.func33, by kernel_rfl, by kernel_rfl⟩
theorem ent34 : Ent Tryd.prog 34 := ⟨Tryd.f34, Tryd.func34, by kernel_rfl, by kernel_rfl⟩
theorem ent35 : Ent Tryd.prog 35 := ⟨Tryd.f35, Tryd.func35, by kernel_rfl, by kernel_rfl⟩
theorem ent36 : Ent Tryd.prog 36 := ⟨Tryd.f36, Tryd.func36, by kernel_rfl, by kernel_rfl⟩
theorem ent37 : Ent Tryd.prog 37 := ⟨Tryd.f37, Tryd.func37, by kernel_rfl, by kernel_rfl⟩
theorem ent38 : Ent Tryd.prog 38 := ⟨Tryd.f38, Tryd.func38, by kernel_rfl, by kernel_rfl⟩
theorem ent39 : Ent Tryd.prog 39 := ⟨Tryd.f39, Tryd.func39, by kernel_rfl, by kernel_rfl⟩
theorem ent40 : Ent Tryd.prog 40 := ⟨Tryd.f40, Tryd.func40, by kernel_rfl, by kernel_rfl⟩
theorem ent41 : Ent Tryd.prog 41 := ⟨Tryd.f41, Tryd.func41, by kernel_rfl, by kernel_rfl⟩
theorem ent42 : Ent Tryd.prog 42 := ⟨Tryd.f42, Tryd.func42, by kernel_rfl, by kernel_rfl⟩
theorem ent43 : Ent Tryd.prog 43 := ⟨Tryd.f43, Tryd.func43, by kernel_rfl, by kernel_rfl⟩
theorem ent44 : Ent Tryd.prog 44 := ⟨Tryd.f44, Tryd.func44, by kernel_rfl, by kernel_rfl⟩
theorem ent45 : Ent Tryd.prog 45 := ⟨Tryd.f45, Tryd.func45, by kernel_rfl, by kernel_rfl⟩
theorem ent46 : Ent Tryd.prog 46 := ⟨Tryd.f46, Tryd.func46, by kernel_rfl, by kernel_rfl⟩
theorem ent47 : Ent Tryd.prog 47 := ⟨Tryd.f47, Tryd.func47, by kernel_rfl, by kernel_rfl⟩
theorem ent48 : Ent Tryd.prog 48 := ⟨Tryd.f48, Tryd.func48, by kernel_rfl, by kernel_rfl⟩
theorem ent52 : Ent Tryd.prog 52 := ⟨Tryd.f52, Tryd.func52, by kernel_rfl, by kernel_rfl⟩
theorem ent53 : Ent Tryd.prog 53 := ⟨Tryd.f53, Tryd.func53, by kernel_rfl, by kernel_rfl⟩
theorem ent54 : Ent Tryd.prog 54 := ⟨Tryd.f54, Tryd.func54, by kernel_rfl, by kernel_rfl⟩
theorem ent55 : Ent Tryd.prog 55 := ⟨Tryd.f55, Tryd.func55, by kernel_rfl, by kernel_rfl⟩
theorem ent56 : Ent Tryd.prog 56 := ⟨Tryd.f56, Tryd.func56, by kernel_rfl, by kernel_rfl⟩
theorem ent60 : Ent Tryd.prog 60 := ⟨Tryd.f60, Tryd.func60, by kernel_rfl, by kernel_rfl⟩
theorem ent61 : Ent Tryd.prog 61 := ⟨Tryd.f61, Tryd.func61, by kernel_rfl, by kernel_rfl⟩
theorem ent62 : Ent Tryd.prog 62 := ⟨Tryd.f62, Tryd.func62, by kernel_rfl, by kernel_rfl⟩
theorem ent64 : Ent Tryd.prog 64 := ⟨Tryd.f64, Tryd.func64, by kernel_rfl, by kernel_rfl⟩
theorem ent65 : Ent Tryd.prog 65 := ⟨Tryd.f65, Tryd.func65, by kernel_rfl, by kernel_rfl⟩
theorem ent66 : Ent Tryd.prog 66 := ⟨Tryd.f66, Tryd.func66, by kernel_rfl, by kernel_rfl⟩
theorem ent67 : Ent Tryd.prog 67 := ⟨Tryd.f67, Tryd.func67, by kernel_rfl, by kernel_rfl⟩
theorem ent68 : Ent Tryd.prog 68 := ⟨Tryd.f68, Tryd.func68, by kernel_rfl, by kernel_rfl⟩
theorem ent69 : Ent Tryd.prog 69 := ⟨Tryd.f69, Tryd.func69, by kernel_rfl, by kernel_rfl⟩
theorem ent70 : Ent Tryd.prog 70 := ⟨Tryd.f70, Tryd.func70, by kernel_rfl, by kernel_rfl⟩
theorem ent71 : Ent Tryd.prog 71 := ⟨Tryd.f71, Tryd.func71, by kernel_rfl, by kernel_rfl⟩
theorem ent72 : Ent Tryd.prog 72 := ⟨Tryd.f72, Tryd.func72, by kernel_rfl, by kernel_rfl⟩
theorem ent73 : Ent Tryd.prog 73 := ⟨Tryd.f73, Tryd.func73, by kernel_rfl, by kernel_rfl⟩
theorem ent76 : Ent Tryd.prog 76 := ⟨Tryd.f76, Tryd.func76, by kernel_rfl, by kernel_rfl⟩
theorem ent77 : Ent Tryd.prog 77 := ⟨Tryd.f77, Tryd.func77, by kernel_rfl, by kernel_rfl⟩
theorem ent78 : Ent Tryd.prog 78 := ⟨Tryd.f78, Tryd.func78, by kernel_rfl, by kernel_rfl⟩
theorem ent79 : Ent Tryd.prog 79 := ⟨Tryd.f79, Tryd.func79, by kernel_rfl, by kernel_rfl⟩
theorem ent80 : Ent Tryd.prog 80 := ⟨Tryd.f80, Tryd.func80, by kernel_rfl, by kernel_rfl⟩
theorem ent81 : Ent Tryd.prog 81 := ⟨Tryd.f81, Tryd.func81, by kernel_rfl, by kernel_rfl⟩
theorem ent86 : Ent Tryd.prog 86 := ⟨Tryd.f86, Tryd.func86, by kernel_rfl, by kernel_rfl⟩
theorem ent87 : Ent Tryd.prog 87 := ⟨Tryd.f87, Tryd.func87, by kernel_rfl, by kernel_rfl⟩
theorem ent88 : Ent Tryd.prog 88 := ⟨Tryd.f88, Tryd.func88, by kernel_rfl, by kernel_rfl⟩
theorem ent89 : Ent Tryd.prog 89 := ⟨Tryd.f89, Tryd.func89, by kernel_rfl, by kernel_rfl⟩
theorem ent92 : Ent Tryd.prog 92 := ⟨Tryd.f92, Tryd.func92, by kernel_rfl, by kernel_rfl⟩
theorem ent93 : Ent Tryd.prog 93 := ⟨Tryd.f93, Tryd.func93, by kernel_rfl, by kernel_rfl⟩
end Go.Proofs.YtpmgdmbcdohgcaaDoor
/- Plain Lean: what the program's layer 20 computes, as functions of numbers and lists (my own text; no program in sight). -/
namespace Go.Fy
structure Xid where
  boot : Int
  peer : Int
  num : Int
  deriving DecidableEq
structure Note where
  kind : Int
  part : Int
  xid : Xid
  stage : Int
  index : Int
  total : Int
  sum : Int
  data : List UInt8
  deriving DecidableEq
/-- Strings in a row. -/
def strAt (l : List (List UInt8)) (j : Nat) : AV := .str (l.getD j [])
structure Stage where
  part : Int
  stage : Int
  total : Int
  xid : Xid
  pieces : List (List UInt8)
  deriving DecidableEq
namespace Sp
def within (n lo hi : Int) : Bool := decide (lo ≤ n ∧ n ≤ hi)
def goodXid (x : Xid) : Bool := within x.boot 1 2147483647 && within x.peer 1 2147483647 && within x.num 1 2147483647
def goodPart (p : Int) : Bool := within p 0 7
def goodStage (s : Int) : Bool := decide (s = 1) || decide (s = 2)
def goodLen (n index total : Int) : Bool := if index = total - 1 then within n 1 128 else decide (n = 128)
def staged (k : Int) : Bool := decide (k = 1) || decide (k = 7) || decide (k = 2) || decide (k = 3)
def pieces (n : Note) : Bool :=
  if n.kind = 1 then within n.total 1 32 && within n.index 0 (n.total - 1) && goodLen n.data.length n.index n.total
  else if n.kind = 7 then within n.total 1 32 && within n.index 0 (n.total - 1) && decide (n.data = [])
  else decide (n.total = 0) && decide (n.index = 0) && decide (n.data = [])
/-- The number of the error: 0 none. -/
def check (n : Note) : Nat :=
  if within n.kind 1 7 = false then 7
  else if (if staged n.kind then goodStage n.stage else decide (n.stage = 0)) = false ∨ goodPart n.part = false ∨ goodXid n.xid = false ∨ pieces n = false ∨ (n.sum ≠ 0 ∧ n.kind ≠ 2) then 4 else 0
def zero : Note := ⟨0, 0, ⟨0, 0, 0⟩, 0, 0, 0, 0, []⟩
/-- The note that answers another, and the number of the error. -/
def answer (n : Note) (kind sum : Int) : Note × Nat :=
  if check n ≠ 0 then (zero, check n)
  else if kind ≠ 7 ∧ kind ≠ 2 ∧ kind ≠ 3 ∧ kind ≠ 5 then (zero, 7)
  else if n.kind ≠ (if kind = 5 then 4 else 1) ∨ (sum ≠ 0 ∧ kind ≠ 2) then (zero, 12)
  else (⟨kind, n.part, n.xid, n.stage, if kind = 7 then n.index else 0, if kind = 7 then n.total else 0, sum, []⟩, 0)
def chunk (n : Note) : Nat := if check n ≠ 0 then check n else if n.kind ≠ 1 then 7 else 0
def zeroS : Stage := ⟨0, 0, 0, ⟨0, 0, 0⟩, []⟩
def begin_ (n : Note) : Stage × Nat :=
  if chunk n ≠ 0 then (zeroS, chunk n) else (⟨n.part, n.stage, n.total, n.xid, (List.replicate n.total.toNat []).set n.index.toNat n.data⟩, 0)
def goodS (s : Stage) : Bool :=
  goodPart s.part && goodXid s.xid && goodStage s.stage && within s.total 1 32 && decide ((s.pieces.length : Int) = s.total) &&
  (List.range s.pieces.length).all fun i => decide (s.pieces.getD i [] = []) || goodLen (s.pieces.getD i []).length i s.total
end Sp
/-- The error of a number. -/
def errD (c : Nat) : ErrD := if c = 0 then .nil else .code c
theorem errD_nil (c : Nat) : (errD c).isNil = decide (c = 0) := by unfold errD; split <;> simp [ErrD.isNil, *]
theorem w64 {n : Int} (h : -9223372036854775808 ≤ n ∧ n ≤ 9223372036854775807) : IntKind.i64.wrap n = n := by rw [IntKind.wrap_i64]; omega
theorem wu32 {n : Int} (h : 0 ≤ n ∧ n ≤ 4294967295) : IntKind.u32.wrap n = n := by rw [IntKind.wrap_u32]; omega
namespace Sp
end Sp
namespace Sp
def add (s : Stage) (n : Note) : Stage × Bool × Nat :=
  if goodS s = false then (zeroS, false, 9)
  else if chunk n ≠ 0 then (zeroS, false, chunk n)
  else if n.part ≠ s.part ∨ n.xid ≠ s.xid ∨ n.stage ≠ s.stage ∨ n.total ≠ s.total then (zeroS, false, 10)
  else if s.pieces.getD n.index.toNat [] ≠ [] ∧ s.pieces.getD n.index.toNat [] ≠ n.data then (zeroS, false, 14)
  else ({ s with pieces := s.pieces.set n.index.toNat n.data }, decide (s.pieces.getD n.index.toNat [] = []), 0)
def missing (s : Stage) : List Int × Nat :=
  if goodS s = false then ([], 9) else (((List.range s.pieces.length).filter fun j => decide (s.pieces.getD j [] = [])).map fun (j : Nat) => (j : Int), 0)
end Sp
namespace Sp
end Sp
structure Recv where
  on : Bool
  stage : Stage
  deriving DecidableEq
namespace Sp
def goodR (r : Recv) : Bool :=
  if r.on = false then decide (r.stage.part = 0) && decide (r.stage.stage = 0) && decide (r.stage.total = 0) && decide (r.stage.xid = ⟨0, 0, 0⟩) && decide (r.stage.pieces.length = 0)
  else goodS r.stage && (List.range r.stage.pieces.length).any fun j => !decide (r.stage.pieces.getD j [] = [])
end Sp
namespace Sp
def zeroR : Recv := ⟨false, zeroS⟩
/-- What a piece that comes makes of a stage. -/
def come (r : Recv) (n : Note) : Stage × Nat :=
  if r.on = true ∧ r.stage.part = n.part ∧ r.stage.xid = n.xid ∧ r.stage.stage = n.stage ∧ r.stage.total = n.total then ((add r.stage n).1, (add r.stage n).2.2) else begin_ n
def take (r : Recv) (n : Note) : Recv × Note × Nat :=
  if goodR r = false then (zeroR, zero, 9)
  else if check n ≠ 0 then (zeroR, zero, check n)
  else if n.kind ≠ 1 then (zeroR, zero, 7)
  else if (come r n).2 ≠ 0 then (zeroR, zero, (come r n).2)
  else (⟨true, (come r n).1⟩, (answer n 7 0).1, (answer n 7 0).2)
end Sp
namespace Sp
/-- The k-th piece of an image. -/
def pieceOf (im : List UInt8) (k : Nat) : List UInt8 := (im.drop (128 * k)).take 128
def cutNote (p : Int) (x : Xid) (st : Int) (im : List UInt8) (k : Nat) (j : Nat) (tot : Int) : Note := ⟨1, p, x, st, j, tot, 0, pieceOf im k⟩
def total (im : List UInt8) : Nat := (im.length + 127) / 128
def notes (p : Int) (x : Xid) (st : Int) (im : List UInt8) : List Note := (List.range (total im)).map fun j => cutNote p x st im j j (total im)
def cut (p : Int) (x : Xid) (st : Int) (im : List UInt8) : List Note × Nat :=
  if (goodPart p && goodXid x && goodStage st) = false then ([], 12) else if within im.length 1 4096 = false then ([], 11) else (notes p x st im, 0)
theorem pieceOf_length (im : List UInt8) (k : Nat) : (pieceOf im k).length = min 128 (im.length - 128 * k) := by simp [pieceOf]
theorem notes_length (p : Int) (x : Xid) (st : Int) (im : List UInt8) : (notes p x st im).length = total im := by simp [notes]
theorem notes_get (p : Int) (x : Xid) (st : Int) (im : List UInt8) (j : Nat) (hj : j < total im) (z : Note) : (notes p x st im).getD j z = cutNote p x st im j j (total im) := by
  simp [notes, List.getD_eq_getElem?_getD, hj]
end Sp
namespace Sp
def whole (s : Stage) : List UInt8 × Bool × Nat :=
  if goodS s = false then ([], false, 9) else if (List.range s.pieces.length).any (fun j => decide (s.pieces.getD j [] = [])) then ([], false, 0) else (s.pieces.flatten, true, 0)
end Sp
end Go.Fy
/- Layer 20's small functions: what each answers (walks over this dump). -/
namespace Go.Proofs.YtpmgdmbcdohgcaaDoor
attribute [local irreducible] Tryd.prog
open Go.Fy
set_option linter.unusedSimpArgs false
noncomputable abbrev V (ea : Nat → Addr) (cds : List Nat) (gl : Nat → Option AV) : Env := { P := Tryd.prog, eaddr := ea, tSent := 187, tAt := 111, codes := cds, glob := gl }
section
variable {ea : Nat → Addr} {cds : List Nat} {gl : Nat → Option AV}
end
end Go.Proofs.YtpmgdmbcdohgcaaDoor
