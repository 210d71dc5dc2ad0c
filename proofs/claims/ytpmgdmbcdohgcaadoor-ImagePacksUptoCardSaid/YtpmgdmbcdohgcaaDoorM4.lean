/- My own texts, packed: KRx. -/
import Derived.Test.YtpmgdmbcdohgcaaDoorM3
/- Errors with a place in Go's library and in package api: errors.Is, errors.As, api.Place (walks over this dump, by the kit's words). -/
namespace Go.Proofs.YtpmgdmbcdohgcaaDoor
open Go.RowKit Go.Extern.Stop Go.Stop Go.Extern
set_option linter.unusedSimpArgs false
set_option linter.unusedVariables false
theorem atTypeOf (v : Value) (w : World) : (ReflectliteType.typeOf #[.iface 111 v]).run Tryd.prog w = .ok (.iface 149 (.agg #[.pointer (some ⟨21, 111, none⟩)])) w := by kernel_rfl
theorem atAssignable (w : World) : (ReflectliteType.relation "AssignableTo" ReflectliteType.assignableTo #[.agg #[.pointer (some ⟨21, 111, none⟩)], .iface 149 (.agg #[.pointer (some ⟨21, 111, none⟩)])]).run Tryd.prog w = .ok (.bool true) w := by kernel_rfl
theorem atValueOf (e : Addr) (w : World) : (ReflectliteValue.unpack (.iface 111 (.pointer (some e)))).run Tryd.prog w
    = .ok (.agg #[.pointer (some ⟨21, 111, none⟩), .pointer (some ⟨w.heap.size, 0, none⟩), .int .u64 150]) (w.alloc (.cells #[.pointer (some e)] 111)) := by kernel_rfl
theorem aaElemOf (w : World) : (Rtype.elem? 136).run Tryd.prog w = .ok (some 111) w := by kernel_rfl
theorem atMk (p : Addr) (w : World) : (ReflectliteValue.mk 111 p ReflectliteValue.flagAddr).run Tryd.prog w = .ok (.agg #[.pointer (some ⟨21, 111, none⟩), .pointer (some p), .int .u64 406]) w := by kernel_rfl
theorem aaElemV (a p : Addr) (W : World) (ha : W.cell? a = some (.pointer (some p))) :
    (ReflectliteValue.method (ReflectliteValue.valueError "reflectlite.Value.Elem" 0) ReflectliteValue.elem #[.agg #[.pointer (some ⟨21, 136, none⟩), .pointer (some a), .int .u64 150]]).run Tryd.prog W
      = .ok (.agg #[.pointer (some ⟨21, 111, none⟩), .pointer (some p), .int .u64 406]) W := by
  rw [rlm]
  simp only [Sem.run_bind, aaParts, Result.andThen]
  simp [ReflectliteValue.elem, loadVar, isAgg, underlying, Tryd.underlying136, ha, Result.andThen, aaElemOf, atMk]
theorem rls (v x : Value) : ReflectliteValue.set #[v, x] = (do
    let (some (dst, a, fl), some (src, b, _)) := (← ReflectliteValue.parts v, ← ReflectliteValue.parts x)
      | unsupported (.noEntry "extern/(internal/reflectlite.Value).Set.zeroValue")
    if fl / ReflectliteValue.flagAddr % 2 == 0 then unsupported (.noEntry "extern/(internal/reflectlite.Value).Set.unaddressable")
    let val ← loadVar src b
    if ← Rtype.directlyAssignable dst src then storeVar dst a val
    else if ← Rtype.implements dst src then
      if (← Rtype.kind src) == 20 then
        match val with
        | .nilIface => unsupported (.noEntry "extern/reflectlite: a nil value of one interface type handed on as a value of another")
        | _ => storeVar dst a val
      else storeVar dst a (.iface src val)
    else panicString ("reflectlite.Set: value of type " ++ (← Rtype.spelt src) ++ " is not assignable to type " ++ (← Rtype.spelt dst))
    pure (.tuple #[])) := rfl
theorem atPartsa (a : Addr) (w : World) : (ReflectliteValue.parts (.agg #[.pointer (some ⟨21, 111, none⟩), .pointer (some a), .int .u64 406])).run Tryd.prog w = .ok (some (111, a, 406)) w := by kernel_rfl
theorem atParts (a : Addr) (w : World) : (ReflectliteValue.parts (.agg #[.pointer (some ⟨21, 111, none⟩), .pointer (some a), .int .u64 150])).run Tryd.prog w = .ok (some (111, a, 150)) w := by kernel_rfl
theorem atDirect (w : World) : (Rtype.directlyAssignable 111 111).run Tryd.prog w = .ok true w := by kernel_rfl
/-- (Value).Set: the *p.E variable at 'ta' gets what the Value's own variable 'b' holds. -/
theorem atSet (ta b e : Addr) (old : Value) (W : World) (hb : W.cell? b = some (.pointer (some e))) (ht : W.cell? ta = some old) (hf : W.frozen? ta = false) :
    (ReflectliteValue.set #[.agg #[.pointer (some ⟨21, 111, none⟩), .pointer (some ta), .int .u64 406], .agg #[.pointer (some ⟨21, 111, none⟩), .pointer (some b), .int .u64 150]]).run Tryd.prog W
      = .ok (.tuple #[]) (W.setCell ta (.pointer (some e))) := by
  rw [rls]
  simp only [Sem.run_bind, atPartsa, atParts, Result.andThen]
  simp [ReflectliteValue.flagAddr, loadVar, isAgg, underlying, Tryd.underlying111, hb, Result.andThen, atDirect, storeVar, Value.cells, storeCells, Addr.add]
  rw [run_store Tryd.prog W ta _ _ (by rfl)]
  simp [ht, hf]
set_option maxHeartbeats 4000000 in
theorem as_hit (e t : Addr) (old : Value) (w : World) (hg : w.cell? ⟨20, 0, none⟩ = some (.iface 149 (.agg #[.pointer (some ⟨21, 35, none⟩)]))) (ht0 : w.cell? t = some old) (hf0 : w.frozen? t = false) :
    Calls Tryd.prog 70 #[.iface 111 (.pointer (some e)), .iface 136 (.pointer (some t))] w fun ev w' => ev = .returned (.bool true) ∧ w' = ((((w.alloc (.cells #[.pointer (some t)] 136)).alloc (.cells #[.pointer (some ⟨21, 136, none⟩), .pointer (some ⟨w.heap.size, 0, none⟩), .int .u64 150] 166)).alloc (.cells #[.pointer (some ⟨21, 136, none⟩), .pointer (some ⟨w.heap.size, 0, none⟩), .int .u64 150] 166)).alloc (.cells #[.pointer (some e)] 111)).setCell t (.pointer (some e)) := by
  have h6 := @run_callFunc_extern Tryd.prog 82 _ (fun args => ReflectliteValue.unpack (args.getD 0 (.tuple #[]))) Tryd.func82 (by kernel_rfl) (by kernel_rfl) (by kernel_rfl) (by kernel_rfl)
  have h7 := @run_callFunc_extern Tryd.prog 83 _ (ReflectliteValue.methodAny (ReflectliteValue.valueError "reflectlite.Value.Type" 0) (fun t _ _ _ => ReflectliteType.toType t)) Tryd.func83 (by kernel_rfl) (by kernel_rfl) (by kernel_rfl) (by kernel_rfl)
  have h8 := @run_callFunc_extern Tryd.prog 84 _ (ReflectliteValue.method (ReflectliteValue.valueError "reflectlite.Value.IsNil" 0) ReflectliteValue.isNil) Tryd.func84 (by kernel_rfl) (by kernel_rfl) (by kernel_rfl) (by kernel_rfl)
  have h27 := @run_callFunc_extern Tryd.prog 108 _ (ReflectliteType.abiMethod fun t => do pure (.int .u8 (← Rtype.kind t))) Tryd.func108 (by kernel_rfl) (by kernel_rfl) (by kernel_rfl) (by kernel_rfl)
  have h37 := @run_callFunc_extern Tryd.prog 118 _ (ReflectliteType.method ReflectliteType.elem) Tryd.func118 (by kernel_rfl) (by kernel_rfl) (by kernel_rfl) (by kernel_rfl)
  have h38 := @run_callFunc_extern Tryd.prog 119 _ (ReflectliteType.relation "Implements" ReflectliteType.implements_) Tryd.func119 (by kernel_rfl) (by kernel_rfl) (by kernel_rfl) (by kernel_rfl)
  have h10 := @run_callFunc_extern Tryd.prog 57 _ ReflectliteType.typeOf Tryd.func57 (by kernel_rfl) (by kernel_rfl) (by kernel_rfl) (by kernel_rfl)
  have h35 := @run_callFunc_extern Tryd.prog 116 _ (ReflectliteType.relation "AssignableTo" ReflectliteType.assignableTo) Tryd.func116 (by kernel_rfl) (by kernel_rfl) (by kernel_rfl) (by kernel_rfl)
  have h11 := @run_callFunc_extern Tryd.prog 90 _ (ReflectliteValue.method (ReflectliteValue.valueError "reflectlite.Value.Elem" 0) ReflectliteValue.elem) Tryd.func90 (by kernel_rfl) (by kernel_rfl) (by kernel_rfl) (by kernel_rfl)
  have h12 := @run_callFunc_extern Tryd.prog 91 _ ReflectliteValue.set Tryd.func91 (by kernel_rfl) (by kernel_rfl) (by kernel_rfl) (by kernel_rfl)
  have tO := atTypeOf
  have mA := rtAssignableTo
  have a25 := atAssignable
  have v25 := atValueOf
  have f6 := aaValueOf
  have f7 := aaType
  have mK := rtKind
  have mE := rtElem
  have mI := rtImplements
  have k27 := aaKind
  have k25 := a1Kind
  have e27 := aaElem
  have i25 := a1Implements
  have n8 := aaIsNil ⟨w.heap.size, 0, none⟩ t ((w.alloc (.cells #[.pointer (some t)] 136)).alloc (.cells #[.pointer (some ⟨21, 136, none⟩), .pointer (some ⟨w.heap.size, 0, none⟩), .int .u64 150] 166)) (by simp)
  have hlt : 20 < w.heap.size := by
    rcases Nat.lt_or_ge 20 w.heap.size with h | h
    · exact h
    · simp [World.cell?, Array.getElem?_eq_none h] at hg
  have hg2 : ((w.alloc (.cells #[.pointer (some t)] 136)).alloc (.cells #[.pointer (some ⟨21, 136, none⟩), .pointer (some ⟨w.heap.size, 0, none⟩), .int .u64 150] 166)).cell? ⟨20, 0, none⟩ = some (.iface 149 (.agg #[.pointer (some ⟨21, 35, none⟩)])) := by
    rw [World.cell?_alloc_lt _ _ ⟨20, 0, none⟩ (by simp; omega), World.cell?_alloc_lt _ _ ⟨20, 0, none⟩ hlt]; exact hg
  have htl : t.block < w.heap.size := by
    rcases Nat.lt_or_ge t.block w.heap.size with h | h
    · exact h
    · simp [World.cell?, Array.getElem?_eq_none h] at ht0
  have el := aaElemV ⟨w.heap.size, 0, none⟩ t (((w.alloc (.cells #[.pointer (some t)] 136)).alloc (.cells #[.pointer (some ⟨21, 136, none⟩), .pointer (some ⟨w.heap.size, 0, none⟩), .int .u64 150] 166)).alloc (.cells #[.pointer (some ⟨21, 136, none⟩), .pointer (some ⟨w.heap.size, 0, none⟩), .int .u64 150] 166)) (by rw [World.cell?_alloc_lt _ _ ⟨w.heap.size, 0, none⟩ (by simp; omega)]; simp)
  have st := atSet t ⟨w.heap.size + 1 + 1 + 1, 0, none⟩ e old ((((w.alloc (.cells #[.pointer (some t)] 136)).alloc (.cells #[.pointer (some ⟨21, 136, none⟩), .pointer (some ⟨w.heap.size, 0, none⟩), .int .u64 150] 166)).alloc (.cells #[.pointer (some ⟨21, 136, none⟩), .pointer (some ⟨w.heap.size, 0, none⟩), .int .u64 150] 166)).alloc (.cells #[.pointer (some e)] 111))
    (by rw [World.cell?_alloc_at _ _ _ _ (by simp)]; rfl)
    (by rw [World.cell?_alloc_lt _ _ t (by simp; omega), World.cell?_alloc_lt _ _ t (by simp; omega), World.cell?_alloc_lt _ _ t (by simp; omega), World.cell?_alloc_lt _ _ t htl]; exact ht0)
    (by rw [World.frozen?_alloc_old _ _ t (by simp; omega), World.frozen?_alloc_old _ _ t (by simp; omega), World.frozen?_alloc_old _ _ t (by simp; omega), World.frozen?_alloc_old _ _ t (Nat.ne_of_lt htl)]; exact hf0)
  go_enter Tryd.func70, Tryd.ntmps70
  go_wp2
  refine wp_loop_rounds 1 ?_
  rw [rounds_succ]
  go_wp2
  go_ret
  exact ⟨rfl, rfl⟩
end Go.Proofs.YtpmgdmbcdohgcaaDoor
