/- My own texts, packed: KJx. -/
import Derived.Test.YtpmgdmbcdohgcaaDoorM2
import Derived.WalkKit
import Derived.LaidEql
import Derived.Stop.Asserts
import Derived.RowKitTokens
/- Go's library: errors.Is, errors.As at sentinels; the numbers and places of errors (walks over this dump, by the kit's words). -/
namespace Go.Proofs.YtpmgdmbcdohgcaaDoor
open Go.RowKit Go.Extern.Stop Go.Stop Go.Extern
set_option linter.unusedSimpArgs false
set_option linter.unusedVariables false
theorem esTypeOf (v : Value) (w : World) : (ReflectliteType.typeOf #[.iface 187 v]).run Tryd.prog w = .ok (.iface 149 (.agg #[.pointer (some ⟨21, 187, none⟩)])) w := by kernel_rfl
theorem esComparable (w : World) : ((ReflectliteType.method fun t => do Rtype.noPackHeld "Comparable" t; (fun a => Value.bool a.comparable) <$> typeInfo t) #[.agg #[.pointer (some ⟨21, 187, none⟩)]]).run Tryd.prog w = .ok (.bool true) w := by kernel_rfl
theorem esMethodComparable (v : Value) (w : World) : (Go.method 320 149 v "Comparable").run Tryd.prog w = .ok (117, v) w := by kernel_rfl
theorem esComp : (Tryd.prog.info? 187).map (·.comparable) = some true := by kernel_rfl
theorem esSize : (Tryd.prog.info? 208).map (·.size) = some 1 := by kernel_rfl
theorem esNoIs (v : Value) (xT : TypeId) (w : World) : (Instr.typeAssert (.iface 187 v) xT 151 true).run Tryd.prog w = .ok (.tuple #[.nilIface, .bool false]) w := run_typeAssert_lacksB Tryd.underlying151 (by kernel_rfl) (by kernel_rfl) v xT w
theorem esNoAs (v : Value) (xT : TypeId) (w : World) : (Instr.typeAssert (.iface 187 v) xT 180 true).run Tryd.prog w = .ok (.tuple #[.nilIface, .bool false]) w := run_typeAssert_lacksB Tryd.underlying180 (by kernel_rfl) (by kernel_rfl) v xT w
theorem esNoUnwrap (v : Value) (xT : TypeId) (w : World) : (Instr.typeAssert (.iface 187 v) xT 154 true).run Tryd.prog w = .ok (.tuple #[.nilIface, .bool false]) w := run_typeAssert_lacksB Tryd.underlying154 (by kernel_rfl) (by kernel_rfl) v xT w
theorem esNoUnwraps (v : Value) (xT : TypeId) (w : World) : (Instr.typeAssert (.iface 187 v) xT 155 true).run Tryd.prog w = .ok (.tuple #[.nilIface, .bool false]) w := run_typeAssert_lacksB Tryd.underlying155 (by kernel_rfl) (by kernel_rfl) v xT w
/-- errors.Is(x, x). -/
theorem is_same (a : Addr) (w : World) : Calls Tryd.prog 27 #[.iface 187 (.pointer (some a)), .iface 187 (.pointer (some a))] w fun e w' => e = .returned (.bool true) ∧ w' = w := by
  obtain ⟨i, hi, hcmp⟩ := Option.map_eq_some_iff.1 esComp
  obtain ⟨j, hj, hjs⟩ := Option.map_eq_some_iff.1 esSize
  have h8 := @run_callFunc_extern Tryd.prog 57 _ ReflectliteType.typeOf Tryd.func57 (by kernel_rfl) (by kernel_rfl) (by kernel_rfl) (by kernel_rfl)
  have h32 := @run_callFunc_extern Tryd.prog 117 _ (ReflectliteType.method fun t => do Rtype.noPackHeld "Comparable" t; pure (.bool (← typeInfo t).comparable)) Tryd.func117 (by kernel_rfl) (by kernel_rfl) (by kernel_rfl) (by kernel_rfl)
  have tT := esTypeOf
  have cT := esComparable
  have mR := esMethodComparable
  have heq := run_eql_iface_ptr_same (P := Tryd.prog) w a Tryd.underlying35 Tryd.underlying187 hi hcmp hj
  go_enter Tryd.func27, Tryd.ntmps27
  go_wp2
  refine wp_loop_rounds 1 ?_
  rw [rounds_succ]
  go_wp2
  go_ret
  exact ⟨rfl, rfl⟩
/-- errors.Is(x, y), two different sentinels. -/
theorem is_other (a b : Addr) (ca cb : Array Value) (ta tb : TypeId) (w : World) (hne : a ≠ b) (ha : w.heap[a.block]? = some (.cells ca ta (0, 0))) (hb : w.heap[b.block]? = some (.cells cb tb (0, 0))) :
    Calls Tryd.prog 27 #[.iface 187 (.pointer (some a)), .iface 187 (.pointer (some b))] w fun e w' => e = .returned (.bool false) ∧ w' = w := by
  obtain ⟨i, hi, hcmp⟩ := Option.map_eq_some_iff.1 esComp
  obtain ⟨j, hj, hjs⟩ := Option.map_eq_some_iff.1 esSize
  have h8 := @run_callFunc_extern Tryd.prog 57 _ ReflectliteType.typeOf Tryd.func57 (by kernel_rfl) (by kernel_rfl) (by kernel_rfl) (by kernel_rfl)
  have h32 := @run_callFunc_extern Tryd.prog 117 _ (ReflectliteType.method fun t => do Rtype.noPackHeld "Comparable" t; pure (.bool (← typeInfo t).comparable)) Tryd.func117 (by kernel_rfl) (by kernel_rfl) (by kernel_rfl) (by kernel_rfl)
  have tT := esTypeOf
  have cT := esComparable
  have mR := esMethodComparable
  have nE := esNoIs
  have uE := esNoUnwrap
  have vE := esNoUnwraps
  have heq := run_eql_iface_ptr_other (P := Tryd.prog) w Tryd.underlying35 Tryd.underlying187 hi hcmp hj (by rw [hjs]; decide) hne ha hb
  go_enter Tryd.func27, Tryd.ntmps27
  go_wp2
  refine wp_loop_rounds 1 ?_
  rw [rounds_succ]
  go_wp2
  go_ret
  exact ⟨rfl, rfl⟩
/-! errors.As at a target **api.At. -/
theorem aaValueOf (t : Addr) (w : World) : (ReflectliteValue.unpack (.iface 136 (.pointer (some t)))).run Tryd.prog w = .ok (.agg #[.pointer (some ⟨21, 136, none⟩), .pointer (some ⟨w.heap.size, 0, none⟩), .int .u64 150]) (w.alloc (.cells #[.pointer (some t)] 136)) := by kernel_rfl
theorem aaType (a : Addr) (w : World) : (ReflectliteValue.methodAny (ReflectliteValue.valueError "reflectlite.Value.Type" 0) (fun t _ _ _ => ReflectliteType.toType t) #[.agg #[.pointer (some ⟨21, 136, none⟩), .pointer (some a), .int .u64 150]]).run Tryd.prog w = .ok (.iface 149 (.agg #[.pointer (some ⟨21, 136, none⟩)])) w := by kernel_rfl
theorem rtKind (h : Value) (w : World) : (Go.method 320 149 (.agg #[h]) "Kind").run Tryd.prog w = .ok (108, h) w := by kernel_rfl
theorem aaKind (w : World) : ((ReflectliteType.abiMethod fun t => (fun a : Nat => Value.int IntKind.u8 (a : Int)) <$> Rtype.kind t) #[.pointer (some ⟨21, 136, none⟩)]).run Tryd.prog w = .ok (.int .u8 22) w := by kernel_rfl
theorem a1Kind (w : World) : ((ReflectliteType.abiMethod fun t => (fun a : Nat => Value.int IntKind.u8 (a : Int)) <$> Rtype.kind t) #[.pointer (some ⟨21, 111, none⟩)]).run Tryd.prog w = .ok (.int .u8 22) w := by kernel_rfl
theorem rlm (z : Sem Value) (f : TypeId → Addr → Nat → Nat → Sem Value) (v : Value) :
    ReflectliteValue.method z f #[v] = (do match ← ReflectliteValue.parts v with | none => z | some (t, a, fl) => f t a fl (fl % 32)) := rfl
theorem aaParts (a : Addr) (w : World) : (ReflectliteValue.parts (.agg #[.pointer (some ⟨21, 136, none⟩), .pointer (some a), .int .u64 150])).run Tryd.prog w = .ok (some (136, a, 150)) w := by kernel_rfl
theorem aaIsNil (a p : Addr) (W : World) (ha : W.cell? a = some (.pointer (some p))) :
    (ReflectliteValue.method (ReflectliteValue.valueError "reflectlite.Value.IsNil" 0) ReflectliteValue.isNil #[.agg #[.pointer (some ⟨21, 136, none⟩), .pointer (some a), .int .u64 150]]).run Tryd.prog W = .ok (.bool false) W := by
  rw [rlm]
  simp only [Sem.run_bind, aaParts, Result.andThen]
  simp [ReflectliteValue.isNil, loadVar, isAgg, underlying, Tryd.underlying136, ha, Result.andThen]
theorem rtElem (h : Value) (w : World) : (Go.method 320 149 (.agg #[h]) "Elem").run Tryd.prog w = .ok (118, .agg #[h]) w := by kernel_rfl
theorem rtImplements (h : Value) (w : World) : (Go.method 320 149 (.agg #[h]) "Implements").run Tryd.prog w = .ok (119, .agg #[h]) w := by kernel_rfl
theorem rtAssignableTo (h : Value) (w : World) : (Go.method 320 149 (.agg #[h]) "AssignableTo").run Tryd.prog w = .ok (116, .agg #[h]) w := by kernel_rfl
theorem aaElem (w : World) : (ReflectliteType.method ReflectliteType.elem #[.agg #[.pointer (some ⟨21, 136, none⟩)]]).run Tryd.prog w = .ok (.iface 149 (.agg #[.pointer (some ⟨21, 111, none⟩)])) w := by kernel_rfl
theorem a1Implements (w : World) : (ReflectliteType.relation "Implements" ReflectliteType.implements_ #[.agg #[.pointer (some ⟨21, 111, none⟩)], .iface 149 (.agg #[.pointer (some ⟨21, 35, none⟩)])]).run Tryd.prog w = .ok (.bool true) w := by kernel_rfl
theorem esAssignable (w : World) : (ReflectliteType.relation "AssignableTo" ReflectliteType.assignableTo #[.agg #[.pointer (some ⟨21, 187, none⟩)], .iface 149 (.agg #[.pointer (some ⟨21, 111, none⟩)])]).run Tryd.prog w = .ok (.bool false) w := by kernel_rfl
theorem as_nil (t : Value) (w : World) : Calls Tryd.prog 70 #[.nilIface, t] w fun e w' => e = .returned (.bool false) ∧ w' = w := by
  go_enter Tryd.func70, Tryd.ntmps70
  go_wp2
  go_ret
  exact ⟨rfl, rfl⟩
set_option maxHeartbeats 4000000 in
theorem as_miss (b t : Addr) (old : Value) (w : World) (hg : w.cell? ⟨20, 0, none⟩ = some (.iface 149 (.agg #[.pointer (some ⟨21, 35, none⟩)]))) (ht0 : w.cell? t = some old) :
    Calls Tryd.prog 70 #[.iface 187 (.pointer (some b)), .iface 136 (.pointer (some t))] w fun ev w' => ev = .returned (.bool false) ∧ w' = ((w.alloc (.cells #[.pointer (some t)] 136)).alloc (.cells #[.pointer (some ⟨21, 136, none⟩), .pointer (some ⟨w.heap.size, 0, none⟩), .int .u64 150] 166)).alloc (.cells #[.pointer (some ⟨21, 136, none⟩), .pointer (some ⟨w.heap.size, 0, none⟩), .int .u64 150] 166) := by
  have h6 := @run_callFunc_extern Tryd.prog 82 _ (fun args => ReflectliteValue.unpack (args.getD 0 (.tuple #[]))) Tryd.func82 (by kernel_rfl) (by kernel_rfl) (by kernel_rfl) (by kernel_rfl)
  have h7 := @run_callFunc_extern Tryd.prog 83 _ (ReflectliteValue.methodAny (ReflectliteValue.valueError "reflectlite.Value.Type" 0) (fun t _ _ _ => ReflectliteType.toType t)) Tryd.func83 (by kernel_rfl) (by kernel_rfl) (by kernel_rfl) (by kernel_rfl)
  have h8 := @run_callFunc_extern Tryd.prog 84 _ (ReflectliteValue.method (ReflectliteValue.valueError "reflectlite.Value.IsNil" 0) ReflectliteValue.isNil) Tryd.func84 (by kernel_rfl) (by kernel_rfl) (by kernel_rfl) (by kernel_rfl)
  have h27 := @run_callFunc_extern Tryd.prog 108 _ (ReflectliteType.abiMethod fun t => do pure (.int .u8 (← Rtype.kind t))) Tryd.func108 (by kernel_rfl) (by kernel_rfl) (by kernel_rfl) (by kernel_rfl)
  have h37 := @run_callFunc_extern Tryd.prog 118 _ (ReflectliteType.method ReflectliteType.elem) Tryd.func118 (by kernel_rfl) (by kernel_rfl) (by kernel_rfl) (by kernel_rfl)
  have h38 := @run_callFunc_extern Tryd.prog 119 _ (ReflectliteType.relation "Implements" ReflectliteType.implements_) Tryd.func119 (by kernel_rfl) (by kernel_rfl) (by kernel_rfl) (by kernel_rfl)
  have h10 := @run_callFunc_extern Tryd.prog 57 _ ReflectliteType.typeOf Tryd.func57 (by kernel_rfl) (by kernel_rfl) (by kernel_rfl) (by kernel_rfl)
  have h35 := @run_callFunc_extern Tryd.prog 116 _ (ReflectliteType.relation "AssignableTo" ReflectliteType.assignableTo) Tryd.func116 (by kernel_rfl) (by kernel_rfl) (by kernel_rfl) (by kernel_rfl)
  have tO := esTypeOf
  have mA := rtAssignableTo
  have a25 := esAssignable
  have f6 := aaValueOf
  have f7 := aaType
  have mK := rtKind
  have mE := rtElem
  have mI := rtImplements
  have k27 := aaKind
  have k25 := a1Kind
  have e27 := aaElem
  have i25 := a1Implements
  have nE := esNoAs
  have uE := esNoUnwrap
  have vE := esNoUnwraps
  have n8 := aaIsNil ⟨w.heap.size, 0, none⟩ t ((w.alloc (.cells #[.pointer (some t)] 136)).alloc (.cells #[.pointer (some ⟨21, 136, none⟩), .pointer (some ⟨w.heap.size, 0, none⟩), .int .u64 150] 166)) (by simp)
  have hlt : 20 < w.heap.size := by
    rcases Nat.lt_or_ge 20 w.heap.size with h | h
    · exact h
    · simp [World.cell?, Array.getElem?_eq_none h] at hg
  have hg2 : ((w.alloc (.cells #[.pointer (some t)] 136)).alloc (.cells #[.pointer (some ⟨21, 136, none⟩), .pointer (some ⟨w.heap.size, 0, none⟩), .int .u64 150] 166)).cell? ⟨20, 0, none⟩ = some (.iface 149 (.agg #[.pointer (some ⟨21, 35, none⟩)])) := by
    rw [World.cell?_alloc_lt _ _ ⟨20, 0, none⟩ (by simp; omega), World.cell?_alloc_lt _ _ ⟨20, 0, none⟩ hlt]; exact hg
  go_enter Tryd.func70, Tryd.ntmps70
  go_wp2
  refine wp_loop_rounds 1 ?_
  rw [rounds_succ]
  go_wp2
  go_ret
  exact ⟨rfl, rfl⟩
theorem place_nil (w : World) : Calls Tryd.prog 43 #[.nilIface] w fun e w' => e = .returned (.int .i64 (-1)) ∧ w' = w.alloc (.cells #[.pointer none] 111) := by
  go_enter Tryd.func43, Tryd.ntmps43
  go_wp2_with (go_at_call 70; refine (as_nil _ _).mono ?_; rintro e w' ⟨rfl, rfl⟩)
  go_ret
  exact ⟨rfl, rfl⟩
set_option maxHeartbeats 4000000 in
theorem place_sent (b : Addr) (w : World) (hg : w.cell? ⟨20, 0, none⟩ = some (.iface 149 (.agg #[.pointer (some ⟨21, 35, none⟩)]))) :
    Calls Tryd.prog 43 #[.iface 187 (.pointer (some b))] w fun e w' => e = .returned (.int .i64 (-1)) ∧ w' = ((((w.alloc (.cells #[.pointer none] 111)).alloc (.cells #[.pointer (some ⟨w.heap.size, 0, none⟩)] 136)).alloc (.cells #[.pointer (some ⟨21, 136, none⟩), .pointer (some ⟨w.heap.size + 1, 0, none⟩), .int .u64 150] 166)).alloc (.cells #[.pointer (some ⟨21, 136, none⟩), .pointer (some ⟨w.heap.size + 1, 0, none⟩), .int .u64 150] 166)) := by
  have hlt : 20 < w.heap.size := by
    rcases Nat.lt_or_ge 20 w.heap.size with h | h
    · exact h
    · simp [World.cell?, Array.getElem?_eq_none h] at hg
  have hgA : (w.alloc (.cells #[.pointer none] 111)).cell? ⟨20, 0, none⟩ = some (.iface 149 (.agg #[.pointer (some ⟨21, 35, none⟩)])) := by
    rw [World.cell?_alloc_lt _ _ ⟨20, 0, none⟩ hlt]; exact hg
  have htA : (w.alloc (.cells #[.pointer none] 111)).cell? ⟨w.heap.size, 0, none⟩ = some (.pointer none) := by simp
  go_enter Tryd.func43, Tryd.ntmps43
  go_wp2_with (go_at_call 70; refine (as_miss b ⟨w.heap.size, 0, none⟩ (.pointer none) _ hgA htA).mono ?_; rintro e w' ⟨rfl, rfl⟩)
  go_ret
  exact ⟨rfl, rfl⟩
open Go.Fy
/-- The sentinels of package api, and errors' own variable, as a row lists them. -/
structure Sents (cds : List Nat) (gl : Nat → Option AV) : Prop where
  hG2 : gl 2 = some (.err (.code 1))
  hG3 : gl 3 = some (.err (.code 2))
  hG4 : gl 4 = some (.err (.code 3))
  hG1 : gl 1 = some (.err (.code 4))
  hG0 : gl 0 = some (.err (.code 5))
  hG5 : gl 5 = some (.err (.code 6))
  hG6 : gl 6 = some (.err (.code 7))
  hG7 : gl 7 = some (.err (.code 8))
  hG8 : gl 8 = some (.err (.code 9))
  hG9 : gl 9 = some (.err (.code 10))
  hG10 : gl 10 = some (.err (.code 11))
  hG11 : gl 11 = some (.err (.code 12))
  hG12 : gl 12 = some (.err (.code 13))
  hG13 : gl 13 = some (.err (.code 14))
  hG14 : gl 14 = some (.err (.code 15))
  hG15 : gl 15 = some (.err (.code 16))
  hG16 : gl 16 = some (.err (.code 17))
  hG17 : gl 17 = some (.err (.code 18))
  hG18 : gl 18 = some (.err (.code 19))
  hG19 : gl 19 = some (.err (.code 20))
  hT : gl 20 = some (.val (.iface 149 (.agg #[.pointer (some ⟨21, 35, none⟩)])))
  all : ∀ d, 1 ≤ d → d ≤ 20 → d ∈ cds
section
variable {ea : Nat → Addr} {cds : List Nat} {gl : Nat → Option AV}
theorem c27 (c d : Nat) (hc : c ∈ cds) (hd : d ∈ cds) : APure (V ea cds gl) 27 [.err (.code c), .err (.code d)] false (.bool (decide (c = d))) := by
  refine apure_of_calls fun E vals hV hE _ hvals => ?_
  obtain ⟨V', w, σ, nm, G⟩ := E
  dsimp only at hV; subst hV
  have hv : vals = #[.iface 187 (.pointer (some (ea c))), .iface 187 (.pointer (some (ea d)))] := by
    match vals, hvals with
    | ⟨l⟩, hvals =>
      simp only [RelT, RelV, Rel, ErrRel] at hvals
      obtain ⟨_, _, rfl, rfl, _, _, rfl, rfl, rfl⟩ := hvals
      rfl
  subst hv
  by_cases e : c = d
  · subst e
    refine (is_same (ea c) w).mono fun ev w' ⟨h1, h2⟩ => ?_
    subst h2
    exact ⟨_, h1, fun E' => by simp [RelV], Below.refl _ _⟩
  · obtain ⟨ca, ta, h1⟩ := hE.cold c hc
    obtain ⟨cb, tb, h2⟩ := hE.cold d hd
    refine (is_other (ea c) (ea d) ca cb ta tb w (fun h => e (hE.inj c d hc hd h)) h1 h2).mono fun ev w' ⟨h3, h4⟩ => ?_
    subst h4
    exact ⟨_, h3, fun E' => by simp [RelV, e], Below.refl _ _⟩
theorem c43 (c : Nat) (hc : c ≤ 20) (hS : Sents cds gl) : APure (V ea cds gl) 43 [.err (errD c)] false (.int .i64 (-1)) := by
  refine apure_of_calls fun E vals hV hE _ hvals => ?_
  obtain ⟨V', w, σ, nm, G⟩ := E
  dsimp only at hV; subst hV
  obtain ⟨-, ds, hd1, hd2⟩ := hE.glob _ _ hS.hT
  have hg : w.cell? ⟨20, 0, none⟩ = some (.iface 149 (.agg #[.pointer (some ⟨21, 35, none⟩)])) := by
    simp only [Rel] at hd2
    obtain ⟨rfl, -⟩ := hd2
    exact hd1 0 _ rfl
  have hv : vals = #[if c = 0 then .nilIface else .iface 187 (.pointer (some (ea c)))] := by
    match vals, hvals with
    | ⟨l⟩, hvals =>
      simp only [RelT, RelV, Rel] at hvals
      obtain ⟨_, _, rfl, h2, rfl⟩ := hvals
      unfold errD at h2
      split at h2
      · simp only [ErrRel] at h2; subst h2; rw [if_pos (by assumption)]
      · simp only [ErrRel] at h2; subst h2; rw [if_neg (by assumption)]
  subst hv
  by_cases e : c = 0
  · rw [if_pos e]
    refine (place_nil w).mono fun ev w' ⟨h1, h2⟩ => ?_
    subst h2
    exact ⟨_, h1, fun E' => by simp [RelV], (Below.refl _ _).alloc (Nat.le_refl _) _⟩
  · rw [if_neg e]
    refine (place_sent (ea c) w hg).mono fun ev w' ⟨h1, h2⟩ => ?_
    subst h2
    exact ⟨_, h1, fun E' => by simp [RelV], ((((Below.refl _ _).alloc (Nat.le_refl _) _).alloc (by simp) _).alloc (by simp; omega) _).alloc (by simp; omega) _⟩
end
end Go.Proofs.YtpmgdmbcdohgcaaDoor
