/- The engine, 3: operations that leave memory alone (my own text; any program). -/
import Derived.Test.YtgaihhimkodmmaaDoorFyB
import Derived.Laws.Strings
import Derived.Laws.Slices
import Derived.IntWalk
set_option linter.unusedSimpArgs false
namespace Go.Fy
open Go.RowKit

/-! ### Closed facts on types -/
def aggDesc : TypeDesc → Bool
  | .struct _ | .array _ _ => true
  | _ => false
def tyOf (P : Program) (t : TypeId) : Option (Bool × Nat) :=
  match P.underlying t, P.info? t with
  | some d, some i => some (aggDesc d, i.size)
  | _, _ => none
def fldOf (P : Program) (t : TypeId) (k : Nat) : Option (Nat × Nat × Bool) :=
  match P.underlying t with
  | some (.struct fs) => match fs[k]? with
    | some f => match P.underlying f.type, P.info? f.type with
      | some d, some i => some (f.offset, i.size, aggDesc d)
      | _, _ => none
    | none => none
  | _ => none
/-- A slice type's elements: their type, their cells. -/
def elOf (P : Program) (t : TypeId) : Option (TypeId × Nat) :=
  match P.underlying t with
  | some (.slice e) => match P.info? e with
    | some i => some (e, i.size)
    | none => none
  | _ => none
def arrOf (P : Program) (t : TypeId) : Option (Nat × Nat × Bool) :=
  match P.underlying t with
  | some (.array n e) => match P.underlying e, P.info? e with
    | some d, some i => some (n, i.size, aggDesc d)
    | _, _ => none
  | _ => none

theorem tyOf_spec {P : Program} {t : TypeId} {b : Bool} {n : Nat} (h : tyOf P t = some (b, n)) :
    (∀ w, (isAgg t).run P w = .ok b w) ∧ (∀ w, (sizeOf t).run P w = .ok n w) := by
  unfold tyOf at h
  split at h
  · rename_i d i h1 h2
    simp only [Option.some.injEq, Prod.mk.injEq] at h
    obtain ⟨rfl, rfl⟩ := h
    refine ⟨fun w => ?_, fun w => ?_⟩
    · unfold isAgg
      simp only [Sem.run_bind, run_underlying h1, Result.andThen]
      cases d <;> rfl
    · simp [sizeOf, typeInfo, h2]
  · cases h

section
variable {V : Env} {o : Oper} {ρ : Operand → AV} {η : Nat → Option AV}

theorem opp_val {v : AV}
    (h : ∀ (E : RE) (ε : Operand → Value), E.V = V → EnvOK E → (∀ x, x ∈ o.op.operands → RelV E (ρ x) (ε x)) → (∀ i y, η i = some y → i ∈ E.nm ∧ Blk E (E.σ i) y) →
    ∃ u, (execOp ε o).run V.P E.w = .ok (.value u) E.w ∧ RelV E v u) : OpP V o ρ η v :=
  fun E ε h1 h2 h3 h4 => let ⟨u, h5, h6⟩ := h E ε h1 h2 h3 h4; ⟨.value u, h5, .inl ⟨u, rfl, h6⟩⟩

theorem opp_move (x : Operand) (ho : o.op = .move x) : OpP V o ρ η (ρ x) :=
  opp_val fun E ε _ _ h _ => ⟨ε x, by simp [execOp, ho], h x (by simp [ho, Op.operands])⟩
theorem opp_assign (x : Operand) (ho : o.op = .assign x) : OpP V o ρ η (ρ x) :=
  opp_val fun E ε _ _ h _ => ⟨ε x, by simp [execOp, ho], h x (by simp [ho, Op.operands])⟩

theorem opp_mv {x : Operand} {v : AV} (ho : o.op = .move x) (hx : ρ x = v) : OpP V o ρ η v := hx ▸ opp_move x ho
theorem opp_as {x : Operand} {v : AV} (ho : o.op = .assign x) (hx : ρ x = v) : OpP V o ρ η v := hx ▸ opp_assign x ho

theorem opp_pick {c a b : Operand} {t x y : Bool} (ho : o.op = .pick c a b) (hc : ρ c = .bool t) (ha : ρ a = .bool x) (hb : ρ b = .bool y) : OpP V o ρ η (.bool (cond t x y)) :=
  opp_val fun E ε _ _ h _ => by
    have h1 := h c (by simp [ho, Op.operands])
    have h2 := h a (by simp [ho, Op.operands])
    have h3 := h b (by simp [ho, Op.operands])
    rw [hc] at h1; rw [ha] at h2; rw [hb] at h3
    simp only [RelV] at h1 h2 h3
    refine ⟨.bool (cond t x y), ?_, by simp [RelV]⟩
    simp only [execOp, ho, h1, h2, h3]
    cases t <;> rfl

theorem opp_not {t : TypeId} {x : Operand} {b : Bool} (ho : o.op = .unOp .not t x) (hx : ρ x = .bool b) : OpP V o ρ η (.bool (!b)) :=
  opp_val fun E ε _ _ h _ => by
    have h1 := h x (by simp [ho, Op.operands])
    rw [hx] at h1; simp only [RelV] at h1
    exact ⟨.bool (!b), by simp [execOp, ho, h1, Op.unary], by simp [RelV]⟩

theorem eqGuard_int (P : Program) (w : World) (op : BinOp) (t : TypeId) (x y : Operand) (k l : IntKind) (a b : Int) : (eqGuard op t x y (.int k a) (.int l b)).run P w = .ok () w := by
  unfold eqGuard; split <;> rfl

/-- Integer arithmetic: the value as the caller would have it. -/
theorem opp_arith {op : BinOp} {t u : TypeId} {x y : Operand} {k : IntKind} {a b n : Int} (ho : o.op = .binOp op t x y u) (hx : ρ x = .int k a) (hy : ρ y = .int k b)
    (hop : (op = .add ∧ k.wrap (a + b) = n) ∨ (op = .sub ∧ k.wrap (a - b) = n) ∨ (op = .mul ∧ k.wrap (a * b) = n) ∨
      (op = .quo ∧ b ≠ 0 ∧ k.wrap (a.tdiv b) = n) ∨ (op = .rem ∧ b ≠ 0 ∧ a.tmod b = n) ∨
      (op = .and ∧ k.wrap (BitVec.ofInt k.bits a &&& BitVec.ofInt k.bits b).toNat = n) ∨ (op = .or ∧ k.wrap (BitVec.ofInt k.bits a ||| BitVec.ofInt k.bits b).toNat = n) ∨
      (op = .xor ∧ k.wrap (BitVec.ofInt k.bits a ^^^ BitVec.ofInt k.bits b).toNat = n) ∨ (op = .andNot ∧ k.wrap (BitVec.ofInt k.bits a &&& ~~~ BitVec.ofInt k.bits b).toNat = n)) :
    OpP V o ρ η (.int k n) :=
  opp_val fun E ε _ _ h _ => by
    have h1 := h x (by simp [ho, Op.operands])
    have h2 := h y (by simp [ho, Op.operands])
    rw [hx] at h1; rw [hy] at h2
    simp only [RelV] at h1 h2
    refine ⟨.int k n, ?_, by simp [RelV]⟩
    simp only [execOp, ho, h1, h2, Sem.run_bind, eqGuard_int, Result.andThen]
    rcases hop with ⟨rfl, rfl⟩ | ⟨rfl, rfl⟩ | ⟨rfl, rfl⟩ | ⟨rfl, hb, rfl⟩ | ⟨rfl, hb, rfl⟩ | ⟨rfl, rfl⟩ | ⟨rfl, rfl⟩ | ⟨rfl, rfl⟩ | ⟨rfl, rfl⟩ <;>
      simp [binOp, Op.intArith, Op.intDiv, Op.intBits, Result.andThen, *]

theorem opp_shift {op : BinOp} {t u : TypeId} {x y : Operand} {k l : IntKind} {a b n : Int} (ho : o.op = .binOp op t x y u) (hx : ρ x = .int k a) (hy : ρ y = .int l b) (hb : 0 ≤ b)
    (hop : (op = .shl ∧ k.wrap (a * 2 ^ (min b.toNat k.bits)) = n) ∨ (op = .shr ∧ a.fdiv (2 ^ (min b.toNat k.bits)) = n)) : OpP V o ρ η (.int k n) :=
  opp_val fun E ε _ _ h _ => by
    have h1 := h x (by simp [ho, Op.operands])
    have h2 := h y (by simp [ho, Op.operands])
    rw [hx] at h1; rw [hy] at h2
    simp only [RelV] at h1 h2
    refine ⟨.int k n, ?_, by simp [RelV]⟩
    simp only [execOp, ho, h1, h2, Sem.run_bind, eqGuard_int, Result.andThen]
    rcases hop with ⟨rfl, rfl⟩ | ⟨rfl, rfl⟩ <;> simp [binOp, Op.shift, Result.andThen, Int.not_lt.2 hb]

def cmpI : BinOp → Int → Int → Bool
  | .eql, a, b => decide (a = b)
  | .neq, a, b => !decide (a = b)
  | .lss, a, b => decide (a < b)
  | .leq, a, b => decide (a ≤ b)
  | .gtr, a, b => decide (b < a)
  | .geq, a, b => decide (b ≤ a)
  | _, _, _ => false
def isCmp : BinOp → Bool
  | .eql | .neq | .lss | .leq | .gtr | .geq => true
  | _ => false

theorem opp_cmp {op : BinOp} {t u : TypeId} {x y : Operand} {k : IntKind} {a b : Int} (ho : o.op = .binOp op t x y u) (hx : ρ x = .int k a) (hy : ρ y = .int k b) (hop : isCmp op = true) :
    OpP V o ρ η (.bool (cmpI op a b)) :=
  opp_val fun E ε _ _ h _ => by
    have h1 := h x (by simp [ho, Op.operands])
    have h2 := h y (by simp [ho, Op.operands])
    rw [hx] at h1; rw [hy] at h2
    simp only [RelV] at h1 h2
    refine ⟨.bool (cmpI op a b), ?_, by simp [RelV]⟩
    simp only [execOp, ho, h1, h2, Sem.run_bind, eqGuard_int, Result.andThen]
    cases op <;> simp [isCmp] at hop <;> simp [binOp, Op.intCmp, Result.andThen, cmpI] <;> rfl

theorem opp_convInt {s d : TypeId} {x : Operand} {k l : IntKind} {a n : Int} (ho : o.op = .convert s d x) (hx : ρ x = .int k a) (hs : (V.P.underlying s).isSome = true)
    (hd : V.P.underlying d = some (.int l)) (hn : l.wrap a = n) : OpP V o ρ η (.int l n) :=
  opp_val fun E ε _ _ h _ => by
    have h1 := h x (by simp [ho, Op.operands])
    rw [hx] at h1; simp only [RelV] at h1
    refine ⟨.int l n, ?_, by simp [RelV]⟩
    obtain ⟨ds, hs⟩ := Option.isSome_iff_exists.1 hs
    simp only [execOp, ho, h1, convert, Sem.run_bind, run_underlying hs, run_underlying hd, Result.andThen]
    cases ds <;> simp [Conv.intToInt, hn, Result.andThen]

/-! ### Strings -/
theorem eqGuard_str (P : Program) (w : World) (op : BinOp) (t : TypeId) (x y : Operand) (a b : ByteArray) : (eqGuard op t x y (.string a) (.string b)).run P w = .ok () w := by
  unfold eqGuard; split <;> rfl

theorem opp_strEq {op : BinOp} {t u : TypeId} {x y : Operand} {a b : List UInt8} {r : Bool} (ho : o.op = .binOp op t x y u) (hx : ρ x = .str a) (hy : ρ y = .str b)
    (hop : (op = .eql ∧ r = decide (a = b)) ∨ (op = .neq ∧ r = !decide (a = b))) : OpP V o ρ η (.bool r) :=
  opp_val fun E ε _ _ h _ => by
    have h1 := h x (by simp [ho, Op.operands])
    have h2 := h y (by simp [ho, Op.operands])
    rw [hx] at h1; rw [hy] at h2
    simp only [RelV, Rel, List.cons.injEq, and_true] at h1 h2
    refine ⟨.bool r, ?_, by simp [RelV]⟩
    simp only [execOp, ho, h1, h2, Sem.run_bind, eqGuard_str, Result.andThen]
    rcases hop with ⟨rfl, rfl⟩ | ⟨rfl, rfl⟩ <;> simp [binOp, Op.stringOp, Result.andThen] <;> (rw [Bool.eq_iff_iff]; simp)

theorem opp_concat {t u : TypeId} {x y : Operand} {a b : List UInt8} (ho : o.op = .binOp .add t x y u) (hx : ρ x = .str a) (hy : ρ y = .str b)
    (hle : a.length + b.length ≤ 9223372036854775807) :
    OpP V o ρ η (.str (a ++ b)) :=
  opp_val fun E ε _ _ h _ => by
    have h1 := h x (by simp [ho, Op.operands])
    have h2 := h y (by simp [ho, Op.operands])
    rw [hx] at h1; rw [hy] at h2
    simp only [RelV, Rel, List.cons.injEq, and_true] at h1 h2
    refine ⟨.string ⟨(a ++ b).toArray⟩, ?_, by simp [RelV, Rel]⟩
    simp only [execOp, ho, h1, h2, Sem.run_bind, eqGuard_str, Result.andThen]
    have hs : ¬ ((((ByteArray.mk a.toArray).size + (ByteArray.mk b.toArray).size : Nat) : Int) > IntKind.i64.max) := by
      simp only [ByteArray.size, List.size_toArray, IntKind.max, IntKind.signed, IntKind.bits]
      omega
    simp only [binOp, Op.stringOp, if_neg hs, Sem.run_bind, Result.andThen, Sem.run_pure]
    congr 3
    try (apply ByteArray.ext; simp)

/-- The length of a string. -/
theorem opp_lenStr {x : Operand} {t : TypeId} {s : List UInt8} (ho : o.op = .call { callee := .builtin .len, args := #[x], argTypes := #[t] }) (hx : ρ x = .str s)
    (ht : V.P.underlying t = some .string) :
    OpP V o ρ η (.int .i64 s.length) :=
  opp_val fun E ε _ _ h _ => by
    have h1 := h x (by simp [ho, Op.operands, Call.operands])
    rw [hx] at h1
    simp only [RelV, Rel, List.cons.injEq, and_true] at h1
    refine ⟨.int .i64 s.length, ?_, by simp [RelV]⟩
    simp only [execOp, ho, resolve, invoke, builtin, Builtin.len_, Sem.run_bind, Sem.run_pure, Result.andThen, Array.map, List.map_toArray, List.map_cons, List.map_nil, h1]
    simp [run_underlying ht, Result.andThen, goInt, h1]
    try rfl

/-- The length of a slice. -/
theorem opp_lenSl {x : Operand} {t e : TypeId} {z : Nat} {nn : Bool} {n : Nat} {f : Nat → AV} (ho : o.op = .call { callee := .builtin .len, args := #[x], argTypes := #[t] })
    (hx : ρ x = .sl z nn n f) (ht : V.P.underlying t = some (.slice e)) : OpP V o ρ η (.int .i64 n) :=
  opp_val fun E ε _ _ h _ => by
    have h1 := h x (by simp [ho, Op.operands, Call.operands])
    rw [hx] at h1
    simp only [RelV, Rel] at h1
    obtain ⟨a, cap, h1, -⟩ := h1
    simp only [List.cons.injEq, and_true] at h1
    refine ⟨.int .i64 n, ?_, by simp [RelV]⟩
    simp [execOp, ho, h1, resolve, invoke, builtin, Builtin.len_, Result.andThen, run_underlying ht, goInt]

theorem opp_lenOsl {x : Operand} {t e : TypeId} {i z of n c : Nat} (ho : o.op = .call { callee := .builtin .len, args := #[x], argTypes := #[t] }) (hx : ρ x = .osl i z of n c)
    (ht : V.P.underlying t = some (.slice e)) : OpP V o ρ η (.int .i64 n) :=
  opp_val fun E ε _ _ h _ => by
    have h1 := h x (by simp [ho, Op.operands, Call.operands])
    rw [hx] at h1
    simp only [RelV, Rel] at h1
    obtain ⟨-, -, a, c', h1, -⟩ := h1
    simp only [List.cons.injEq, and_true] at h1
    refine ⟨.int .i64 n, ?_, by simp [RelV]⟩
    simp [execOp, ho, h1, resolve, invoke, builtin, Builtin.len_, Result.andThen, run_underlying ht, goInt]

theorem asIntOf_run (P : Program) (w : World) (k : IntKind) (n : Int) : (asIntOf (.int k n)).run P w = .ok (k, n) w := rfl

theorem opp_indexStr {x i : Operand} {t : TypeId} {s : List UInt8} {k : IntKind} {j : Int} (ho : o.op = .index t x i) (hx : ρ x = .str s) (hi : ρ i = .int k j)
    (ht : V.P.underlying t = some .string) (h0 : 0 ≤ j) (hl : j < s.length) : OpP V o ρ η (.int .u8 ((s.getD j.toNat 0).toNat : Int)) :=
  opp_val fun E ε _ _ h _ => by
    have h1 := h x (by simp [ho, Op.operands])
    have h2 := h i (by simp [ho, Op.operands])
    rw [hx] at h1; rw [hi] at h2
    simp only [RelV, Rel, List.cons.injEq, and_true] at h1 h2
    refine ⟨.int .u8 ((s.getD j.toNat 0).toNat : Int), ?_, by simp [RelV]⟩
    have hlt : j.toNat < s.length := by omega
    have hb : (ByteArray.mk s.toArray)[j.toNat]? = some (s[j.toNat]) := by
      rw [getElem?_pos (ByteArray.mk s.toArray) j.toNat (by simpa [ByteArray.size] using hlt)]
      rfl
    simp [execOp, ho, h1, h2, Instr.index, asIntOf_run, run_underlying ht, Result.andThen, h0, hb, List.getElem?_eq_getElem hlt]

/-- s[l:h] of a string; either bound may be missing. -/
def bound (d : Int) : Option AV → Option Int
  | none => some d
  | some (.int _ n) => some n
  | _ => none

theorem sliceBounds_run {P : Program} {w : World} (b : Bool) (len cap : Nat) (lo hi : Option Value) (l h : Int) (hlo : lo = none ∧ l = 0 ∨ ∃ k, lo = some (.int k l)) (hhi : hi = none ∧ h = len ∨ ∃ k, hi = some (.int k h))
    (h0 : 0 ≤ l) (h1 : l ≤ h) (h2 : h ≤ cap) : (Instr.sliceBounds b len cap lo hi none).run P w = .ok (l.toNat, h.toNat, cap) w := by
  have h3 : 0 ≤ h := by omega
  have h4 : l ≤ ((h.toNat : Nat) : Int) := by omega
  rcases hhi with ⟨rfl, e⟩ | ⟨k, rfl⟩ <;> rcases hlo with ⟨rfl, e'⟩ | ⟨k', rfl⟩
  · subst e; subst e'; simp [Instr.sliceBounds, Result.andThen]
  · subst e; simp only [Int.toNat_natCast] at h4; simp [Instr.sliceBounds, run_sliceBound _ _ _ _ _ h0 h4, Result.andThen]
  · subst e'; simp [Instr.sliceBounds, run_sliceBound _ _ _ _ _ h3 h2, Result.andThen]
  · simp [Instr.sliceBounds, run_sliceBound _ _ _ _ _ h3 h2, run_sliceBound _ _ _ _ _ h0 h4, Result.andThen]

theorem opp_sliceStr {x : Operand} {lo hi : Option Operand} {t : TypeId} {s : List UInt8} {l h : Int} (ho : o.op = .slice t x lo hi none) (hx : ρ x = .str s)
    (hlo : bound 0 (lo.map ρ) = some l) (hhi : bound s.length (hi.map ρ) = some h) (ht : V.P.underlying t = some .string) (h0 : 0 ≤ l) (h1 : l ≤ h) (h2 : h ≤ s.length) : OpP V o ρ η (.str ((s.take h.toNat).drop l.toNat)) :=
  opp_val fun E ε _ _ hr _ => by
    have e1 := hr x (by simp [ho, Op.operands])
    rw [hx] at e1
    simp only [RelV, Rel, List.cons.injEq, and_true] at e1
    have e2 : lo.map ε = none ∧ l = 0 ∨ ∃ k, lo.map ε = some (.int k l) := by
      cases lo with
      | none => simp [bound] at hlo; left; exact ⟨rfl, hlo.symm⟩
      | some y =>
        have e := hr y (by simp [ho, Op.operands])
        simp only [Option.map_some] at hlo ⊢
        cases hy : ρ y <;> simp only [hy, bound] at hlo <;> first | (cases hlo; done) | skip
        rw [hy] at e; simp only [RelV] at e
        right; simp only [Option.some.injEq] at hlo; subst hlo; exact ⟨_, by rw [e]⟩
    have e3 : hi.map ε = none ∧ h = s.length ∨ ∃ k, hi.map ε = some (.int k h) := by
      cases hi with
      | none => simp [bound] at hhi; left; exact ⟨rfl, hhi.symm⟩
      | some y =>
        have e := hr y (by simp [ho, Op.operands])
        simp only [Option.map_some] at hhi ⊢
        cases hy : ρ y <;> simp only [hy, bound] at hhi <;> first | (cases hhi; done) | skip
        rw [hy] at e; simp only [RelV] at e
        right; simp only [Option.some.injEq] at hhi; subst hhi; exact ⟨_, by rw [e]⟩
    refine ⟨.string ((ByteArray.mk s.toArray).extract l.toNat h.toNat), ?_, ?_⟩
    · have hs : (ByteArray.mk s.toArray).size = s.length := by simp [ByteArray.size]
      simp only [execOp, ho, e1, Option.map_none, Instr.sliceAt, Instr.slice, Sem.run_bind, run_underlying ht, Result.andThen, Option.isSome_none, if_false, Bool.false_eq_true, Sem.run_pure, hs,
        sliceBounds_run false s.length s.length _ _ l h e2 e3 h0 h1 h2]
    · simp only [RelV, Rel, List.cons.injEq, and_true, Value.string.injEq]
      apply ByteArray.ext
      simp [ByteArray.data_extract, List.drop_take]
end
end Go.Fy
