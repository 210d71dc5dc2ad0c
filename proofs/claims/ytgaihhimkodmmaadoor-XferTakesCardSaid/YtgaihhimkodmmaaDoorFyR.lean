/- The engine, 18: more operations (my own text; any program). -/
import Derived.Test.YtgaihhimkodmmaaDoorFyQ
import Derived.Laws.Small
set_option linter.unusedSimpArgs false
namespace Go.Fy
open Go.RowKit
section
variable {V : Env} {o : Oper} {ρ : Operand → AV} {η : Nat → Option AV}

theorem eqGuard_bool (P : Program) (w : World) (op : BinOp) (t : TypeId) (x y : Operand) (a b : Bool) : (eqGuard op t x y (.bool a) (.bool b)).run P w = .ok () w := by
  unfold eqGuard; split <;> rfl
theorem opp_boolEq {op : BinOp} {t u : TypeId} {x y : Operand} {a b r : Bool} (ho : o.op = .binOp op t x y u) (hx : ρ x = .bool a) (hy : ρ y = .bool b) (hu : V.P.underlying t = some .bool)
    (hop : (op = .eql ∧ r = (a == b)) ∨ (op = .neq ∧ r = !(a == b))) : OpP V o ρ η (.bool r) :=
  opp_val fun E ε _ _ h _ => by
    have h1 := h x (by simp [ho, Op.operands])
    have h2 := h y (by simp [ho, Op.operands])
    rw [hx] at h1; rw [hy] at h2
    simp only [RelV] at h1 h2
    refine ⟨.bool r, ?_, by simp [RelV]⟩
    have h3 : (Op.equalIn 10000 t (.bool a) (.bool b)).run V.P E.w = .ok (a == b) E.w := run_equalIn_bool' E.w 9999 t a b hu
    simp only [execOp, ho, h1, h2, Sem.run_bind, eqGuard_bool, Result.andThen]
    rcases hop with ⟨rfl, rfl⟩ | ⟨rfl, rfl⟩
    · simp only [binOp]; simp [Op.equal, Op.maxDepth, h3, Result.andThen]
    · simp only [binOp]; simp [Op.equal, Op.maxDepth, h3, Result.andThen]

theorem opp_min {x y : Operand} {k : IntKind} {a b : Int} {ts : Array TypeId} (ho : o.op = .call { callee := .builtin .min, args := #[x, y], argTypes := ts }) (hx : ρ x = .int k a) (hy : ρ y = .int k b) : OpP V o ρ η (.int k (if b < a then b else a)) :=
  opp_val fun E ε _ _ h _ => by
    have h1 := h x (by simp [ho, Op.operands, Call.operands])
    have h2 := h y (by simp [ho, Op.operands, Call.operands])
    rw [hx] at h1; rw [hy] at h2
    simp only [RelV] at h1 h2
    refine ⟨.int k (if b < a then b else a), ?_, by simp [RelV]⟩
    simp [execOp, ho, h1, h2, resolve, invoke, builtin, Builtin.min_, Builtin.min2, Result.andThen]
end
end Go.Fy
