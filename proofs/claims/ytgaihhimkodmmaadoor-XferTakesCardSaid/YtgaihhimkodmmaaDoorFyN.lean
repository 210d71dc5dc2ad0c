/- The engine, 14: more operations: literals of structs and rows, make, bytes of a string, comparisons (my own text; any program). -/
import Derived.Test.YtgaihhimkodmmaaDoorFyM
import Derived.Laws.StructEq
import Derived.Laws.IdiomStrings
import Derived.Laws.MakeOwn
import Derived.WalkSpells
set_option linter.unusedSimpArgs false
namespace Go.Fy
open Go.RowKit

/-! ### Zero values -/
mutual
/-- Closed: these cells lay this value, in any memory. -/
def fit : AV → List Value → Bool
  | .bool b, [.bool c] => b == c
  | .int k n, [.int l m] => decide (k = l) && decide (n = m)
  | .str s, [.string t] => decide (t.data.toList = s)
  | .err .nil, [.nilIface] => true
  | .sl _ true 0 _, [.slice none 0 0] => true
  | .val (.pointer none), [.pointer none] => true
  | .val (.map none), [.map none] => true
  | .val .nilFunc, [.nilFunc] => true
  | .agg l, cs => fitL l cs
  | .arr e n f, cs => decide (cs.length = n * e) && (List.range n).all fun j => fit (f j) ((cs.drop (j * e)).take e) && decide (((cs.drop (j * e)).take e).length = e)
  | _, _ => false
def fitL : List AV → List Value → Bool
  | [], cs => cs.isEmpty
  | x :: l, cs => fit x (cs.take x.sz) && fitL l (cs.drop x.sz)
end

mutual
theorem fit_rel : ∀ (x : AV) (cs : List Value), fit x cs = true → ∀ E : RE, Rel E x cs
  | .agg l, cs, h, E => by simp only [fit] at h; simp only [Rel]; exact fitL_rel l cs h E
  | .arr e n f, cs, h, E => by
    simp only [fit, Bool.and_eq_true, decide_eq_true_eq, List.all_eq_true, List.mem_range] at h
    simp only [Rel]
    exact ⟨h.1, fun j hj => ⟨fit_rel (f j) _ (h.2 j hj).1 _, (h.2 j hj).2⟩⟩
  | .bool b, cs, h, E => by
    unfold fit at h; split at h <;> simp_all [Rel]
  | .int k n, cs, h, E => by
    unfold fit at h; split at h <;> simp_all [Rel]
  | .str s, cs, h, E => by
    unfold fit at h; split at h <;> simp_all [Rel]
    rename_i heq; subst h; obtain ⟨rfl, -⟩ := heq; rfl
  | .val s, cs, h, E => by
    unfold fit at h; split at h <;> simp_all [Rel, Value.oneCell']
  | .err e, cs, h, E => by
    unfold fit at h; split at h <;> simp_all [Rel, ErrRel]
  | .sl a b n f, cs, h, E => by
    unfold fit at h; split at h <;> simp_all [Rel]
    first
      | exact ⟨none, 0, ⟨rfl, rfl⟩, rfl, by simp, by simp⟩
      | (refine ⟨none, 0, ?_⟩; simp; done)
      | (refine ⟨none, ⟨0, ?_⟩, ?_⟩ <;> simp; done)
  | .top, cs, h, E => by unfold fit at h; cases h
  | .tup _, cs, h, E => by unfold fit at h; cases h
  | .gd _ _, cs, h, E => by unfold fit at h; cases h
  | .fptr _, cs, h, E => by unfold fit at h; cases h
  | .ptr _ _ _, cs, h, E => by unfold fit at h; cases h
  | .osl _ _ _ _ _, cs, h, E => by unfold fit at h; cases h
  | .fn _ _, cs, h, E => by unfold fit at h; cases h
theorem fitL_rel : ∀ (l : List AV) (cs : List Value), fitL l cs = true → ∀ E : RE, RelL E l cs
  | [], cs, h, E => by simp only [fitL, List.isEmpty_iff] at h; simp only [RelL]; exact h
  | x :: l, cs, h, E => by
    simp only [fitL, Bool.and_eq_true] at h
    simp only [RelL]
    exact ⟨_, _, (List.take_append_drop x.sz cs).symm, fit_rel x _ h.1 E, fitL_rel l _ h.2 E⟩
end

def zeroB (P : Program) (t : TypeId) (x : AV) : Bool :=
  match P.info? t with
  | some i => match i.zero with
    | some z => decide (z.cells.size = i.size) && fit x z.cells.toList
    | none => false
  | none => false
theorem zero_of {P : Program} {t : TypeId} {x : AV} (h : zeroB P t x = true) : Zero P t x := by
  unfold zeroB at h
  split at h
  · rename_i i hi
    split at h
    · rename_i z hz
      simp only [Bool.and_eq_true, decide_eq_true_eq] at h
      exact ⟨i, z, hi, hz, h.1, fun E => fit_rel x _ h.2 E⟩
    · cases h
  · cases h

/-! ### Literals of structs -/
def bldOf (P : Program) (t : TypeId) : Option (List (Nat × Nat)) :=
  match P.underlying t with
  | some (.struct fs) => fs.toList.mapM fun f => (P.info? f.type).map fun i => (f.offset, i.size)
  | _ => none

theorem fill_foldl (off : Nat) : ∀ (ds : List Value) (j : Nat) (cs : Array Value), off + j + ds.length ≤ cs.size →
    ((ds.zipIdx j).foldl (fun (cs : Array Value) (x : Value × Nat) => match x with | (c, j) => cs.setIfInBounds (off + j) c) cs).toList = splice cs.toList (off + j) ds
  | [], j, cs, _ => by simp [splice]
  | v :: r, j, cs, h => by
    simp only [List.zipIdx_cons, List.foldl_cons]
    simp only [List.length_cons] at h
    rw [fill_foldl off r (j + 1) _ (by simp; omega)]
    apply List.ext_getElem?
    intro k
    rw [splice_getElem? (by simp; omega), splice_getElem? (by simp; omega)]
    simp only [Array.toList_setIfInBounds, List.length_cons]
    by_cases h2 : off + (j + 1) ≤ k ∧ k < off + (j + 1) + r.length
    · rw [if_pos h2, if_pos (by omega), show k - (off + j) = (k - (off + (j + 1))) + 1 by omega, List.getElem?_cons_succ]
    · rw [if_neg h2]
      by_cases h3 : k = off + j
      · subst h3; rw [if_pos (by omega), Nat.sub_self, List.getElem?_cons_zero, List.getElem?_set_self (by simp; omega)]
      · rw [if_neg (by omega), List.getElem?_set_ne (by omega)]

theorem fill_step (place : Nat → Option (Nat × Nat)) (cells : Array Value) (i : Nat) (v : Value) (rest : List (Nat × Value)) {off size : Nat} (hp : place i = some (off, size)) (hs : v.cells.size = size) (hle : off + size ≤ cells.size) :
    Instr.fill place cells ((i, v) :: rest) = Instr.fill place (splice cells.toList off v.cells.toList).toArray rest := by
  rw [Instr.fill]
  simp only [hp]
  rw [if_neg (by simp; omega)]
  congr 1
  have := fill_foldl off v.cells.toList 0 cells (by simp; omega)
  apply Array.ext'
  simp only [Nat.add_zero] at this
  rw [← this]
  simp only [← Array.foldl_toList, Array.toList_zipIdx]

def bldB (ρ : Operand → AV) (pl : List (Nat × Nat)) : List (Nat × Operand) → List AV → Bool
  | [], _ => true
  | (k, x) :: r, l => (match l[k]?, pl[k]? with
    | some y, some (off, sz) => (ρ x).layable && (ρ x).sz == y.sz && sz == y.sz && off == AV.szL (l.take k)
    | _, _ => false) && bldB ρ pl r (l.set k (ρ x))
def bldL (ρ : Operand → AV) : List (Nat × Operand) → List AV → List AV
  | [], l => l
  | (k, x) :: r, l => bldL ρ r (l.set k (ρ x))

theorem fill_rel {E : RE} {ρ : Operand → AV} {ε : Operand → Value} (pl : List (Nat × Nat)) : ∀ (parts : List (Nat × Operand)) (l : List AV) (cs : Array Value), (∀ p, p ∈ parts → RelV E (ρ p.2) (ε p.2)) → RelL E l cs.toList →
    bldB ρ pl parts l = true → ∃ cs', Instr.fill (fun x => pl.toArray[x]?) cs (parts.map fun p => (p.1, ε p.2)) = some cs' ∧ RelL E (bldL ρ parts l) cs'.toList
  | [], l, cs, _, h, _ => ⟨cs, by simp [Instr.fill], h⟩
  | (k, x) :: r, l, cs, hp, h, hb => by
    simp only [bldB, Bool.and_eq_true] at hb
    obtain ⟨hb1, hb2⟩ := hb
    split at hb1
    · rename_i y off sz hy hpl
      simp only [Bool.and_eq_true, beq_iff_eq] at hb1
      obtain ⟨⟨⟨b1, b2⟩, b3⟩, b4⟩ := hb1
      have hv := (hp (k, x) (by simp)).cells b1
      have hvl := Rel.length _ _ hv
      obtain ⟨g1, g2⟩ := RelL.get l cs.toList k y h hy
      simp only [Array.length_toList] at hvl g2
      have hset := RelL.set l cs.toList k y (ρ x) (ε x).cells.toList h hy hv b2
      rw [List.map_cons, fill_step (off := off) (size := sz) _ _ _ _ _ (by simpa using hpl) (by show (ε x).cells.size = sz; omega) (by omega)]
      obtain ⟨cs', h1, h2⟩ := fill_rel pl r (l.set k (ρ x)) (splice cs.toList off (ε x).cells.toList).toArray (fun p hp' => hp p (by simp [hp'])) (by rw [b4]; simpa using hset) hb2
      exact ⟨cs', h1, by simpa [bldL] using h2⟩
    · cases hb1

theorem mapM_places {P : Program} {w : World} : ∀ (fs : List Field) (pl : List (Nat × Nat)), (fs.mapM fun f => (P.info? f.type).map fun i => (f.offset, i.size)) = some pl →
    (fs.mapM fun f => (do let n ← Go.sizeOf f.type; pure (f.offset, n) : Sem (Nat × Nat))).run P w = .ok pl w
  | [], pl, h => by simp at h; subst h; simp
  | f :: fs, pl, h => by
    rw [List.mapM_cons] at h
    cases hi : P.info? f.type with
    | none => simp [hi] at h
    | some i =>
      cases hr : (fs.mapM fun f => (P.info? f.type).map fun i => (f.offset, i.size)) with
      | none => simp [hi, hr] at h
      | some pl' =>
        simp [hi, hr] at h
        subst h
        rw [List.mapM_cons]
        have ih := mapM_places (w := w) fs pl' hr
        have hs : (Go.sizeOf f.type).run P w = .ok i.size w := by simp [Go.sizeOf, typeInfo, hi]
        simp only [Sem.run_bind, hs, Result.andThen, Sem.run_pure, ih]

section
variable {V : Env} {o : Oper} {ρ : Operand → AV} {η : Nat → Option AV}

theorem opp_build {t : TypeId} {parts : Array (Nat × Operand)} {zs : List AV} {pl : List (Nat × Nat)} (ho : o.op = .build t parts) (hz : Zero V.P t (.agg zs)) (hp : bldOf V.P t = some pl) (hb : bldB ρ pl parts.toList zs = true) (vs : List AV)
    (hvs : bldL ρ parts.toList zs = vs) : OpP V o ρ η (.agg vs) :=
  opp_val fun E ε hV _ h _ => by
    obtain ⟨i, z, hi, hv, hs, hr⟩ := hz
    have hr' := hr E
    simp only [Rel] at hr'
    obtain ⟨cs', h1, h2⟩ := fill_rel (E := E) (ε := ε) pl parts.toList zs z.cells (fun p hp' => h p.2 (by
      simp only [ho, Op.operands, List.mem_toArray]
      exact List.mem_map.2 ⟨p, hp', rfl⟩)) hr' hb
    refine ⟨.agg cs', ?_, by simp only [RelV]; exact ⟨cs', rfl, by rw [← hvs]; exact h2⟩⟩
    unfold bldOf at hp
    split at hp
    · rename_i fs hu
      have hm : (fs.mapM fun f => (do let n ← Go.sizeOf f.type; pure (f.offset, n) : Sem (Nat × Nat))).run V.P E.w = .ok pl.toArray E.w := by
        have e : fs = fs.toList.toArray := by simp
        rw [e, List.mapM_toArray]
        simp only [Sem.run_map, mapM_places fs.toList pl hp, Result.andThen]
      have hzv : (zeroValue t).run V.P E.w = .ok z E.w := by simp [zeroValue, typeInfo, hi, hv, Result.andThen]
      have hmap : (parts.map fun (p : Nat × Operand) => (p.1, ε p.2)).toList = parts.toList.map fun p => (p.1, ε p.2) := by simp
      simp only [execOp, ho, Instr.build, Sem.run_bind, hzv, Result.andThen, run_underlying hu, hm]
      rw [hmap, h1]
      simp only [Sem.run_pure]
    · cases hp

theorem relC_map {E : RE} (ρ : Operand → AV) (ε : Operand → Value) : ∀ l : List Operand, (∀ x ∈ l, RelV E (ρ x) (ε x)) → (l.map ρ).all AV.one = true → (l.map ρ).all AV.layable = true → RelC E (l.map ρ) (l.map ε)
  | [], _, _, _ => by simp [RelC]
  | x :: l, h, h1, h2 => by
    simp only [List.map_cons, List.all_cons, Bool.and_eq_true] at h1 h2
    simp only [List.map_cons, RelC]
    refine ⟨_, _, rfl, (h x (by simp)).toRel h1.1 ?_, relC_map ρ ε l (fun y hy => h y (by simp [hy])) h1.2 h2.2⟩
    intro e; rw [e] at h2; simp [AV.layable] at h2

theorem opp_makeFunc {f : FuncId} {cs : Array Operand} {vs : List AV} (ho : o.op = .makeFunc (.func f) #[] cs) (hv : cs.toList.map ρ = vs) (hc : vs.all AV.one = true) (ht : vs.all AV.layable = true) : OpP V o ρ η (.fn f vs) :=
  opp_val fun E ε hV _ h _ => by
    subst hv
    refine ⟨.func (.func f) #[] (cs.map ε), by simp [execOp, ho, Instr.makeFunc, Result.andThen], ?_⟩
    simp only [RelV, Rel, List.cons.injEq, and_true]
    refine ⟨_, rfl, ?_⟩
    rw [Array.toList_map]
    refine relC_map ρ ε cs.toList (fun x hx => h x ?_) hc ht
    have : x ∈ cs := by simpa using hx
    simp [ho, Op.operands, this]

/-! ### Comparisons -/
theorem opp_slNil {op : BinOp} {t e u : TypeId} {x y : Operand} {z z' : Nat} {nn : Bool} {n : Nat} {f g : Nat → AV} {r : Bool} (ho : o.op = .binOp op t x y u) (hx : ρ x = .sl z nn n f) (hy : ρ y = .sl z' true 0 g)
    (hu : V.P.underlying t = some (.slice e)) (hop : (op = .eql ∧ r = nn) ∨ (op = .neq ∧ r = !nn)) : OpP V o ρ η (.bool r) :=
  opp_val fun E ε hV _ h _ => by
    have h1 := h x (by simp [ho, Op.operands])
    have h2 := h y (by simp [ho, Op.operands])
    rw [hx] at h1; rw [hy] at h2
    simp only [RelV, Rel, List.cons.injEq, and_true] at h1 h2
    obtain ⟨a, cap, h1, -, hnn, -⟩ := h1
    obtain ⟨b, cap', h2, -, hb, -⟩ := h2
    have hb' : b = none := by
      cases b with
      | none => rfl
      | some _ => cases hb
    subst hb'
    refine ⟨.bool r, ?_, by simp [RelV]⟩
    have hg : (eqGuard op t x y (.slice a n cap) (.slice none 0 cap')).run V.P E.w = .ok () E.w := by
      rcases hop with ⟨rfl, rfl⟩ | ⟨rfl, rfl⟩ <;> rfl
    simp only [execOp, ho, h1, h2, Sem.run_bind, hg, Result.andThen]
    rcases hop with ⟨rfl, rfl⟩ | ⟨rfl, rfl⟩
    · simp [Lib.run_eql_slice_nil E.w t e a n cap 0 cap' hu, hnn, Result.andThen]
    · simp [run_neq_slice_nil_any E.w t e a n cap 0 cap' hu, hnn, Result.andThen]
theorem opp_oslNil {op : BinOp} {t e u : TypeId} {x y : Operand} {i z of n c z' : Nat} {g : Nat → AV} {r : Bool} (ho : o.op = .binOp op t x y u) (hx : ρ x = .osl i z of n c) (hy : ρ y = .sl z' true 0 g)
    (hu : V.P.underlying t = some (.slice e)) (hop : (op = .eql ∧ r = false) ∨ (op = .neq ∧ r = true)) : OpP V o ρ η (.bool r) :=
  opp_val fun E ε hV _ h _ => by
    have h1 := h x (by simp [ho, Op.operands])
    have h2 := h y (by simp [ho, Op.operands])
    rw [hx] at h1; rw [hy] at h2
    simp only [RelV, Rel, List.cons.injEq, and_true] at h1 h2
    obtain ⟨-, -, a, cap, h1, -⟩ := h1
    obtain ⟨b, cap', h2, -, hb, -⟩ := h2
    have hb' : b = none := by
      cases b with
      | none => rfl
      | some _ => cases hb
    subst hb'
    refine ⟨.bool r, ?_, by simp [RelV]⟩
    have hg : ∀ a', (eqGuard op t x y (.slice a' n cap) (.slice none 0 cap')).run V.P E.w = .ok () E.w := fun a' => by
      rcases hop with ⟨rfl, rfl⟩ | ⟨rfl, rfl⟩ <;> rfl
    simp only [execOp, ho, h1, h2, Sem.run_bind, hg, Result.andThen]
    rcases hop with ⟨rfl, rfl⟩ | ⟨rfl, rfl⟩
    · simp [Lib.run_eql_slice_nil E.w t e _ n cap 0 cap' hu, Result.andThen]
    · simp [run_neq_slice_nil_any E.w t e _ n cap 0 cap' hu, Result.andThen]

mutual
/-- Values of a type, compared. -/
inductive EqT (P : Program) : TypeId → AV → AV → Bool → Prop
  | int {t : TypeId} {k k' : IntKind} {a b : Int} (h : P.underlying t = some (.int k')) : EqT P t (.int k a) (.int k b) (decide (a = b))
  | bool {t : TypeId} {a b : Bool} (h : P.underlying t = some .bool) : EqT P t (.bool a) (.bool b) (a == b)
  | str {t : TypeId} {a b : List UInt8} (h : P.underlying t = some .string) : EqT P t (.str a) (.str b) (decide (a = b))
  | agg {t : TypeId} {xs ys : List AV} {r : Bool} (h : P.underlying t = some (.struct (P.fieldsOf t))) (hp : P.stoodInHeld t = false) (hl : EqL P xs ys (P.fieldsOf t).toList 0 r) : EqT P t (.agg xs) (.agg ys) r
inductive EqL (P : Program) : List AV → List AV → List Field → Nat → Bool → Prop
  | nil {xs ys : List AV} {k : Nat} : EqL P xs ys [] k true
  | cons {xs ys : List AV} {f : Field} {fs : List Field} {k : Nat} {x y : AV} {r q : Bool} (hx : xs[k]? = some x) (hy : ys[k]? = some y) (hn : f.name ≠ "_") (ox : f.offset = AV.szL (xs.take k)) (oy : f.offset = AV.szL (ys.take k))
      (tx : tyOf P f.type = some (x.isAgg, x.sz)) (ty : tyOf P f.type = some (y.isAgg, y.sz)) (h : EqT P f.type x y r) (hl : EqL P xs ys fs (k + 1) q) : EqL P xs ys (f :: fs) k (r && q)
end

theorem part_run {E : RE} {P : Program} {w : World} {xs : List AV} {cs : Array Value} {k : Nat} {x : AV} {t : TypeId} {off : Nat} (h : RelL E xs cs.toList) (hx : xs[k]? = some x) (ho : off = AV.szL (xs.take k)) (ht : tyOf P t = some (x.isAgg, x.sz)) :
    ∃ v, (part t cs off).run P w = .ok v w ∧ RelV E x v := by
  obtain ⟨g1, g2⟩ := RelL.get xs cs.toList k x h hx
  obtain ⟨t1, t2⟩ := tyOf_spec ht
  subst ho
  simp only [Array.length_toList] at g2
  cases ha : x.isAgg with
  | true =>
    refine ⟨.agg (cs.extract (AV.szL (xs.take k)) (AV.szL (xs.take k) + x.sz)), ?_, ?_⟩
    · rw [ha] at t1
      simp only [part, Sem.run_bind, t1, t2, Result.andThen, if_true, Sem.run_pure]
    · have := g1.toV' ha
      have e : (List.take x.sz (List.drop (AV.szL (List.take k xs)) cs.toList)).toArray = cs.extract (AV.szL (List.take k xs)) (AV.szL (List.take k xs) + x.sz) := by
        apply Array.ext'
        simp [List.extract_eq_take_drop]
      rwa [e] at this
  | false =>
    obtain ⟨h1, v, h2⟩ := g1.one_of ha
    rw [h2] at g1
    refine ⟨v, ?_, g1.toV h1⟩
    have e : cs[AV.szL (xs.take k)]? = some v := by
      have hsz : 0 < x.sz := by have := Rel.length _ _ g1; simp at this; omega
      have : (List.take x.sz (List.drop (AV.szL (List.take k xs)) cs.toList))[0]? = some v := by rw [h2]; rfl
      rw [List.getElem?_take_of_lt hsz, List.getElem?_drop] at this
      simpa using this
    rw [ha] at t1
    simp only [part, Sem.run_bind, t1, Result.andThen, Bool.false_eq_true, if_false, e, Sem.run_pure]

mutual
/-- How deep a value's struct is. -/
def AV.dep : AV → Nat
  | .agg l => AV.depL l + 1
  | _ => 1
def AV.depL : List AV → Nat
  | [] => 0
  | x :: l => max x.dep (AV.depL l)
end
theorem AV.dep_mem : ∀ (l : List AV) (k : Nat) (x : AV), l[k]? = some x → x.dep ≤ AV.depL l
  | [], _, _, h => by simp at h
  | y :: l, 0, x, h => by simp at h; subst h; simp only [AV.depL]; omega
  | y :: l, k + 1, x, h => by have := AV.dep_mem l k x (by simpa using h); simp only [AV.depL]; omega

mutual
theorem eqT_run {E : RE} {P : Program} (w : World) : ∀ {t : TypeId} {x y : AV} {r : Bool}, EqT P t x y r → ∀ (d : Nat) (u v : Value), x.dep ≤ d → RelV E x u → RelV E y v → (Op.equalIn d t u v).run P w = .ok r w
  | _, _, _, _, .int (k := k) (a := a) (b := b) h, d, u, v, hd, hu, hv => by
    simp only [RelV, AV.dep] at hu hv hd
    subst hu; subst hv
    obtain ⟨d, rfl⟩ : ∃ e, d = e + 1 := ⟨d - 1, by omega⟩
    rw [run_equalIn_int w d _ k _ a b h]
    by_cases e : a = b <;> simp [e]
  | _, _, _, _, .bool (a := a) (b := b) h, d, u, v, hd, hu, hv => by
    simp only [RelV, AV.dep] at hu hv hd
    subst hu; subst hv
    obtain ⟨d, rfl⟩ : ∃ e, d = e + 1 := ⟨d - 1, by omega⟩
    rw [run_equalIn_bool' w d _ a b h]
  | t, _, _, _, .str (a := a) (b := b) h, d, u, v, hd, hu, hv => by
    simp only [RelV, Rel, List.cons.injEq, and_true, AV.dep] at hu hv hd
    subst hu; subst hv
    obtain ⟨d, rfl⟩ : ∃ e, d = e + 1 := ⟨d - 1, by omega⟩
    have : (Op.equalIn (d + 1) t (.string ⟨a.toArray⟩) (.string ⟨b.toArray⟩)).run P w = .ok ((⟨a.toArray⟩ : ByteArray) == ⟨b.toArray⟩) w := by
      simp [Op.equalIn, run_underlying h]
    rw [this]
    congr 1
    rw [beq_toListBytes, ByteArray.toList_eq, ByteArray.toList_eq]
    rw [Bool.eq_iff_iff]; simp
  | _, _, _, _, .agg (xs := xs) (ys := ys) h hp hl, d, u, v, hd, hu, hv => by
    simp only [RelV, AV.dep] at hu hv hd
    obtain ⟨cx, rfl, hx⟩ := hu
    obtain ⟨cy, rfl, hy⟩ := hv
    obtain ⟨d, rfl⟩ : ∃ e, d = e + 1 := ⟨d - 1, by omega⟩
    rw [run_equalIn_agg w d _ cx cy h hp]
    exact eqL_run w hl d cx cy (by omega) hx hy
theorem eqL_run {E : RE} {P : Program} (w : World) : ∀ {xs ys : List AV} {fs : List Field} {k : Nat} {r : Bool}, EqL P xs ys fs k r → ∀ (d : Nat) (cx cy : Array Value), AV.depL xs ≤ d → RelL E xs cx.toList → RelL E ys cy.toList →
    (Op.eqFields d cx cy fs).run P w = .ok r w
  | _, _, _, _, _, .nil, d, cx, cy, _, _, _ => by simp [Op.eqFields]
  | _, _, _, _, _, .cons (f := f) (fs := fs) (r := r) (q := q) hx hy hn ox oy tx ty h hl, d, cx, cy, hd, kx, ky => by
    obtain ⟨u, hu, ru⟩ := part_run (w := w) kx hx ox tx
    obtain ⟨v, hv, rv⟩ := part_run (w := w) ky hy oy ty
    have h1 := eqT_run w h d u v (Nat.le_trans (AV.dep_mem _ _ _ hx) hd) ru rv
    rw [Op.eqFields, if_pos hn]
    simp only [Sem.run_bind, hu, hv, h1, Result.andThen]
    cases r with
    | false => simp
    | true => simpa using eqL_run w hl d cx cy hd kx ky
end

theorem opp_eqAgg {op : BinOp} {t u : TypeId} {x y : Operand} {xs ys : List AV} {q r : Bool} (ho : o.op = .binOp op t x y u) (hx : ρ x = .agg xs) (hy : ρ y = .agg ys) (hq : EqT V.P t (.agg xs) (.agg ys) q) (hg : V.P.eqGuardType V.P.depth t = false)
    (hd : Nat.ble (AV.depL xs) 9000 = true) (hop : (op = .eql ∧ r = q) ∨ (op = .neq ∧ r = !q)) : OpP V o ρ η (.bool r) :=
  opp_val fun E ε hV _ h _ => by
    have h1 := h x (by simp [ho, Op.operands])
    have h2 := h y (by simp [ho, Op.operands])
    rw [hx] at h1; rw [hy] at h2
    have h3 := eqT_run (P := V.P) E.w hq 10000 (ε x) (ε y) (by simp only [AV.dep]; have := Nat.le_of_ble_eq_true hd; omega) h1 h2
    simp only [RelV] at h1 h2
    obtain ⟨cx, h1, -⟩ := h1
    obtain ⟨cy, h2, -⟩ := h2
    refine ⟨.bool r, ?_, by simp [RelV]⟩
    rw [h1, h2] at h3
    simp only [execOp, ho, h1, h2, Sem.run_bind, run_eqGuard_agg E.w op t x y cx cy hg, Result.andThen]
    rcases hop with ⟨rfl, rfl⟩ | ⟨rfl, rfl⟩
    · simp only [run_eql_struct, h3, Result.andThen, Sem.run_map, Sem.run_pure]
    · simp only [run_neq_struct, h3, Result.andThen, Sem.run_map, Sem.run_pure]
end
end Go.Fy
