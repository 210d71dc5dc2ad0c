/- My own texts, packed: KRx. -/
import Derived.Test.YtpmgdmbcdohgcaaGreatDoorM3
/- Errors with a place in Go's library and in package api: errors.Is, errors.As, api.Place (walks over this dump, by the kit's words). -/
namespace Go.Proofs.YtpmgdmbcdohgcaaGreatDoor
open Go.RowKit Go.Extern.Stop Go.Stop Go.Extern
set_option linter.unusedSimpArgs false
set_option linter.unusedVariables false
theorem atTypeOf (v : Value) (w : World) : (ReflectliteType.typeOf #[.iface 196 v]).run Tryz.prog w = .ok (.iface 299 (.agg #[.pointer (some ⟨22, 196, none⟩)])) w := by kernel_rfl
theorem atAssignable (w : World) : (ReflectliteType.relation "AssignableTo" ReflectliteType.assignableTo #[.agg #[.pointer (some ⟨22, 196, none⟩)], .iface 299 (.agg #[.pointer (some ⟨22, 196, none⟩)])]).run Tryz.prog w = .ok (.bool true) w := by kernel_rfl
theorem atValueOf (e : Addr) (w : World) : (ReflectliteValue.unpack (.iface 196 (.pointer (some e)))).run Tryz.prog w
    = .ok (.agg #[.pointer (some ⟨22, 196, none⟩), .pointer (some ⟨w.heap.size, 0, none⟩), .int .u64 150]) (w.alloc (.cells #[.pointer (some e)] 196)) := by kernel_rfl
theorem aaElemOf (w : World) : (Rtype.elem? 198).run Tryz.prog w = .ok (some 196) w := by kernel_rfl
theorem atMk (p : Addr) (w : World) : (ReflectliteValue.mk 196 p ReflectliteValue.flagAddr).run Tryz.prog w = .ok (.agg #[.pointer (some ⟨22, 196, none⟩), .pointer (some p), .int .u64 406]) w := by kernel_rfl
theorem aaElemV (a p : Addr) (W : World) (ha : W.cell? a = some (.pointer (some p))) :
    (ReflectliteValue.method (ReflectliteValue.valueError "reflectlite.Value.Elem" 0) ReflectliteValue.elem #[.agg #[.pointer (some ⟨22, 198, none⟩), .pointer (some a), .int .u64 150]]).run Tryz.prog W
      = .ok (.agg #[.pointer (some ⟨22, 196, none⟩), .pointer (some p), .int .u64 406]) W := by
  rw [rlm]
  simp only [Sem.run_bind, aaParts, Result.andThen]
  simp [ReflectliteValue.elem, loadVar, isAgg, underlying, Tryz.underlying198, ha, Result.andThen, aaElemOf, atMk]
theorem rls (v x : Value) : ReflectliteValue.set #[v, x] = (do
    let (some (dst, a, fl), some (src, b, _)) := (← ReflectliteValue.parts v, ← ReflectliteValue.parts x)
      | unsupported (.noEntry "extern/(internal/reflectlite.Value).Set.zeroValue")
    if fl / ReflectliteValue.flagAddr % 2 == 0 then unsupported (.noEntry "extern/(internal/reflectlite.Value).Set.unaddressable")
    let val ← loadVar src b
    if ← Rtype.directlyAssignable dst src then storeVar dst a val
    else if ← Rtype.implements dst src then
      if (← Rtype.kind src) == 20 then
        match val with
        | .nilIface => unsupported (.noEntry "extern/reflectlite: a nil value of one interface type handed on as a value of another")
        | _ => storeVar dst a val
      else storeVar dst a (.iface src val)
    else panicString ("reflectlite.Set: value of type " ++ (← Rtype.spelt src) ++ " is not assignable to type " ++ (← Rtype.spelt dst))
    pure (.tuple #[])) := rfl
theorem atPartsa (a : Addr) (w : World) : (ReflectliteValue.parts (.agg #[.pointer (some ⟨22, 196, none⟩), .pointer (some a), .int .u64 406])).run Tryz.prog w = .ok (some (196, a, 406)) w := by kernel_rfl
theorem atParts (a : Addr) (w : World) : (ReflectliteValue.parts (.agg #[.pointer (some ⟨22, 196, none⟩), .pointer (some a), .int .u64 150])).run Tryz.prog w = .ok (some (196, a, 150)) w := by kernel_rfl
theorem atDirect (w : World) : (Rtype.directlyAssignable 196 196).run Tryz.prog w = .ok true w := by kernel_rfl
/-- (Value).Set: the *p.E variable at 'ta' gets what the Value's own variable 'b' holds. -/
theorem atSet (ta b e : Addr) (old : Value) (W : World) (hb : W.cell? b = some (.pointer (some e))) (ht : W.cell? ta = some old) (hf : W.frozen? ta = false) :
    (ReflectliteValue.set #[.agg #[.pointer (some ⟨22, 196, none⟩), .pointer (some ta), .int .u64 406], .agg #[.pointer (some ⟨22, 196, none⟩), .pointer (some b), .int .u64 150]]).run Tryz.prog W
      = .ok (.tuple #[]) (W.setCell ta (.pointer (some e))) := by
  rw [rls]
  simp only [Sem.run_bind, atPartsa, atParts, Result.andThen]
  simp [ReflectliteValue.flagAddr, loadVar, isAgg, underlying, Tryz.underlying196, hb, Result.andThen, atDirect, storeVar, Value.cells, storeCells, Addr.add]
  rw [run_store Tryz.prog W ta _ _ (by rfl)]
  simp [ht, hf]
set_option maxHeartbeats 4000000 in
theorem as_hit (e t : Addr) (old : Value) (w : World) (hg : w.cell? ⟨20, 0, none⟩ = some (.iface 299 (.agg #[.pointer (some ⟨22, 36, none⟩)]))) (ht0 : w.cell? t = some old) (hf0 : w.frozen? t = false) :
    Calls Tryz.prog 110 #[.iface 196 (.pointer (some e)), .iface 198 (.pointer (some t))] w fun ev w' => ev = .returned (.bool true) ∧ w' = ((((w.alloc (.cells #[.pointer (some t)] 198)).alloc (.cells #[.pointer (some ⟨22, 198, none⟩), .pointer (some ⟨w.heap.size, 0, none⟩), .int .u64 150] 262)).alloc (.cells #[.pointer (some ⟨22, 198, none⟩), .pointer (some ⟨w.heap.size, 0, none⟩), .int .u64 150] 262)).alloc (.cells #[.pointer (some e)] 196)).setCell t (.pointer (some e)) := by
  have h6 := @run_callFunc_extern Tryz.prog 170 _ (fun args => ReflectliteValue.unpack (args.getD 0 (.tuple #[]))) Tryz.func170 (by kernel_rfl) (by kernel_rfl) (by kernel_rfl) (by kernel_rfl)
  have h7 := @run_callFunc_extern Tryz.prog 171 _ (ReflectliteValue.methodAny (ReflectliteValue.valueError "reflectlite.Value.Type" 0) (fun t _ _ _ => ReflectliteType.toType t)) Tryz.func171 (by kernel_rfl) (by kernel_rfl) (by kernel_rfl) (by kernel_rfl)
  have h8 := @run_callFunc_extern Tryz.prog 172 _ (ReflectliteValue.method (ReflectliteValue.valueError "reflectlite.Value.IsNil" 0) ReflectliteValue.isNil) Tryz.func172 (by kernel_rfl) (by kernel_rfl) (by kernel_rfl) (by kernel_rfl)
  have h27 := @run_callFunc_extern Tryz.prog 278 _ (ReflectliteType.abiMethod fun t => do pure (.int .u8 (← Rtype.kind t))) Tryz.func278 (by kernel_rfl) (by kernel_rfl) (by kernel_rfl) (by kernel_rfl)
  have h37 := @run_callFunc_extern Tryz.prog 291 _ (ReflectliteType.method ReflectliteType.elem) Tryz.func291 (by kernel_rfl) (by kernel_rfl) (by kernel_rfl) (by kernel_rfl)
  have h38 := @run_callFunc_extern Tryz.prog 292 _ (ReflectliteType.relation "Implements" ReflectliteType.implements_) Tryz.func292 (by kernel_rfl) (by kernel_rfl) (by kernel_rfl) (by kernel_rfl)
  have h10 := @run_callFunc_extern Tryz.prog 161 _ ReflectliteType.typeOf Tryz.func161 (by kernel_rfl) (by kernel_rfl) (by kernel_rfl) (by kernel_rfl)
  have h35 := @run_callFunc_extern Tryz.prog 289 _ (ReflectliteType.relation "AssignableTo" ReflectliteType.assignableTo) Tryz.func289 (by kernel_rfl) (by kernel_rfl) (by kernel_rfl) (by kernel_rfl)
  have h11 := @run_callFunc_extern Tryz.prog 201 _ (ReflectliteValue.method (ReflectliteValue.valueError "reflectlite.Value.Elem" 0) ReflectliteValue.elem) Tryz.func201 (by kernel_rfl) (by kernel_rfl) (by kernel_rfl) (by kernel_rfl)
  have h12 := @run_callFunc_extern Tryz.prog 202 _ ReflectliteValue.set Tryz.func202 (by kernel_rfl) (by kernel_rfl) (by kernel_rfl) (by kernel_rfl)
  have tO := atTypeOf
  have mA := rtAssignableTo
  have a25 := atAssignable
  have v25 := atValueOf
  have f6 := aaValueOf
  have f7 := aaType
  have mK := rtKind
  have mE := rtElem
  have mI := rtImplements
  have k27 := aaKind
  have k25 := a1Kind
  have e27 := aaElem
  have i25 := a1Implements
  have n8 := aaIsNil ⟨w.heap.size, 0, none⟩ t ((w.alloc (.cells #[.pointer (some t)] 198)).alloc (.cells #[.pointer (some ⟨22, 198, none⟩), .pointer (some ⟨w.heap.size, 0, none⟩), .int .u64 150] 262)) (by simp)
  have hlt : 20 < w.heap.size := by
    rcases Nat.lt_or_ge 20 w.heap.size with h | h
    · exact h
    · simp [World.cell?, Array.getElem?_eq_none h] at hg
  have hg2 : ((w.alloc (.cells #[.pointer (some t)] 198)).alloc (.cells #[.pointer (some ⟨22, 198, none⟩), .pointer (some ⟨w.heap.size, 0, none⟩), .int .u64 150] 262)).cell? ⟨20, 0, none⟩ = some (.iface 299 (.agg #[.pointer (some ⟨22, 36, none⟩)])) := by
    rw [World.cell?_alloc_lt _ _ ⟨20, 0, none⟩ (by simp; omega), World.cell?_alloc_lt _ _ ⟨20, 0, none⟩ hlt]; exact hg
  have htl : t.block < w.heap.size := by
    rcases Nat.lt_or_ge t.block w.heap.size with h | h
    · exact h
    · simp [World.cell?, Array.getElem?_eq_none h] at ht0
  have el := aaElemV ⟨w.heap.size, 0, none⟩ t (((w.alloc (.cells #[.pointer (some t)] 198)).alloc (.cells #[.pointer (some ⟨22, 198, none⟩), .pointer (some ⟨w.heap.size, 0, none⟩), .int .u64 150] 262)).alloc (.cells #[.pointer (some ⟨22, 198, none⟩), .pointer (some ⟨w.heap.size, 0, none⟩), .int .u64 150] 262)) (by rw [World.cell?_alloc_lt _ _ ⟨w.heap.size, 0, none⟩ (by simp; omega)]; simp)
  have st := atSet t ⟨w.heap.size + 1 + 1 + 1, 0, none⟩ e old ((((w.alloc (.cells #[.pointer (some t)] 198)).alloc (.cells #[.pointer (some ⟨22, 198, none⟩), .pointer (some ⟨w.heap.size, 0, none⟩), .int .u64 150] 262)).alloc (.cells #[.pointer (some ⟨22, 198, none⟩), .pointer (some ⟨w.heap.size, 0, none⟩), .int .u64 150] 262)).alloc (.cells #[.pointer (some e)] 196))
    (by rw [World.cell?_alloc_at _ _ _ _ (by simp)]; rfl)
    (by rw [World.cell?_alloc_lt _ _ t (by simp; omega), World.cell?_alloc_lt _ _ t (by simp; omega), World.cell?_alloc_lt _ _ t (by simp; omega), World.cell?_alloc_lt _ _ t htl]; exact ht0)
    (by rw [World.frozen?_alloc_old _ _ t (by simp; omega), World.frozen?_alloc_old _ _ t (by simp; omega), World.frozen?_alloc_old _ _ t (by simp; omega), World.frozen?_alloc_old _ _ t (Nat.ne_of_lt htl)]; exact hf0)
  go_enter Tryz.func110, Tryz.ntmps110
  go_wp2
  refine wp_loop_rounds 1 ?_
  rw [rounds_succ]
  go_wp2
  go_ret
  exact ⟨rfl, rfl⟩
end Go.Proofs.YtpmgdmbcdohgcaaGreatDoor
