/- My own texts, packed: KJx. -/
import Derived.Test.YtpmgdmbcdohgcaaGreatDoorM2
import Derived.WalkKit
import Derived.LaidEql
import Derived.Stop.Asserts
import Derived.RowKitTokens
/- Go's library: errors.Is, errors.As at sentinels; the numbers and places of errors (walks over this dump, by the kit's words). -/
namespace Go.Proofs.YtpmgdmbcdohgcaaGreatDoor
open Go.RowKit Go.Extern.Stop Go.Stop Go.Extern
set_option linter.unusedSimpArgs false
set_option linter.unusedVariables false
theorem esTypeOf (v : Value) (w : World) : (ReflectliteType.typeOf #[.iface 348 v]).run Tryz.prog w = .ok (.iface 299 (.agg #[.pointer (some ⟨22, 348, none⟩)])) w := by kernel_rfl
theorem esComparable (w : World) : ((ReflectliteType.method fun t => do Rtype.noPackHeld "Comparable" t; (fun a => Value.bool a.comparable) <$> typeInfo t) #[.agg #[.pointer (some ⟨22, 348, none⟩)]]).run Tryz.prog w = .ok (.bool true) w := by kernel_rfl
theorem esMethodComparable (v : Value) (w : World) : (Go.method 481 299 v "Comparable").run Tryz.prog w = .ok (290, v) w := by kernel_rfl
theorem esComp : (Tryz.prog.info? 348).map (·.comparable) = some true := by kernel_rfl
theorem esSize : (Tryz.prog.info? 369).map (·.size) = some 1 := by kernel_rfl
theorem esNoIs (v : Value) (xT : TypeId) (w : World) : (Instr.typeAssert (.iface 348 v) xT 301 true).run Tryz.prog w = .ok (.tuple #[.nilIface, .bool false]) w := run_typeAssert_lacksB Tryz.underlying301 (by kernel_rfl) (by kernel_rfl) v xT w
theorem esNoAs (v : Value) (xT : TypeId) (w : World) : (Instr.typeAssert (.iface 348 v) xT 311 true).run Tryz.prog w = .ok (.tuple #[.nilIface, .bool false]) w := run_typeAssert_lacksB Tryz.underlying311 (by kernel_rfl) (by kernel_rfl) v xT w
theorem esNoUnwrap (v : Value) (xT : TypeId) (w : World) : (Instr.typeAssert (.iface 348 v) xT 304 true).run Tryz.prog w = .ok (.tuple #[.nilIface, .bool false]) w := run_typeAssert_lacksB Tryz.underlying304 (by kernel_rfl) (by kernel_rfl) v xT w
theorem esNoUnwraps (v : Value) (xT : TypeId) (w : World) : (Instr.typeAssert (.iface 348 v) xT 306 true).run Tryz.prog w = .ok (.tuple #[.nilIface, .bool false]) w := run_typeAssert_lacksB Tryz.underlying306 (by kernel_rfl) (by kernel_rfl) v xT w
/-- errors.Is(x, x). -/
theorem is_same (a : Addr) (w : World) : Calls Tryz.prog 92 #[.iface 348 (.pointer (some a)), .iface 348 (.pointer (some a))] w fun e w' => e = .returned (.bool true) ∧ w' = w := by
  obtain ⟨i, hi, hcmp⟩ := Option.map_eq_some_iff.1 esComp
  obtain ⟨j, hj, hjs⟩ := Option.map_eq_some_iff.1 esSize
  have h8 := @run_callFunc_extern Tryz.prog 161 _ ReflectliteType.typeOf Tryz.func161 (by kernel_rfl) (by kernel_rfl) (by kernel_rfl) (by kernel_rfl)
  have h32 := @run_callFunc_extern Tryz.prog 290 _ (ReflectliteType.method fun t => do Rtype.noPackHeld "Comparable" t; pure (.bool (← typeInfo t).comparable)) Tryz.func290 (by kernel_rfl) (by kernel_rfl) (by kernel_rfl) (by kernel_rfl)
  have tT := esTypeOf
  have cT := esComparable
  have mR := esMethodComparable
  have heq := run_eql_iface_ptr_same (P := Tryz.prog) w a Tryz.underlying36 Tryz.underlying348 hi hcmp hj
  go_enter Tryz.func92, Tryz.ntmps92
  go_wp2
  refine wp_loop_rounds 1 ?_
  rw [rounds_succ]
  go_wp2
  go_ret
  exact ⟨rfl, rfl⟩
/-- errors.Is(x, y), two different sentinels. -/
theorem is_other (a b : Addr) (ca cb : Array Value) (ta tb : TypeId) (w : World) (hne : a ≠ b) (ha : w.heap[a.block]? = some (.cells ca ta (0, 0))) (hb : w.heap[b.block]? = some (.cells cb tb (0, 0))) :
    Calls Tryz.prog 92 #[.iface 348 (.pointer (some a)), .iface 348 (.pointer (some b))] w fun e w' => e = .returned (.bool false) ∧ w' = w := by
  obtain ⟨i, hi, hcmp⟩ := Option.map_eq_some_iff.1 esComp
  obtain ⟨j, hj, hjs⟩ := Option.map_eq_some_iff.1 esSize
  have h8 := @run_callFunc_extern Tryz.prog 161 _ ReflectliteType.typeOf Tryz.func161 (by kernel_rfl) (by kernel_rfl) (by kernel_rfl) (by kernel_rfl)
  have h32 := @run_callFunc_extern Tryz.prog 290 _ (ReflectliteType.method fun t => do Rtype.noPackHeld "Comparable" t; pure (.bool (← typeInfo t).comparable)) Tryz.func290 (by kernel_rfl) (by kernel_rfl) (by kernel_rfl) (by kernel_rfl)
  have tT := esTypeOf
  have cT := esComparable
  have mR := esMethodComparable
  have nE := esNoIs
  have uE := esNoUnwrap
  have vE := esNoUnwraps
  have heq := run_eql_iface_ptr_other (P := Tryz.prog) w Tryz.underlying36 Tryz.underlying348 hi hcmp hj (by rw [hjs]; decide) hne ha hb
  go_enter Tryz.func92, Tryz.ntmps92
  go_wp2
  refine wp_loop_rounds 1 ?_
  rw [rounds_succ]
  go_wp2
  go_ret
  exact ⟨rfl, rfl⟩
/-! errors.As at a target **api.At. -/
theorem aaValueOf (t : Addr) (w : World) : (ReflectliteValue.unpack (.iface 198 (.pointer (some t)))).run Tryz.prog w = .ok (.agg #[.pointer (some ⟨22, 198, none⟩), .pointer (some ⟨w.heap.size, 0, none⟩), .int .u64 150]) (w.alloc (.cells #[.pointer (some t)] 198)) := by kernel_rfl
theorem aaType (a : Addr) (w : World) : (ReflectliteValue.methodAny (ReflectliteValue.valueError "reflectlite.Value.Type" 0) (fun t _ _ _ => ReflectliteType.toType t) #[.agg #[.pointer (some ⟨22, 198, none⟩), .pointer (some a), .int .u64 150]]).run Tryz.prog w = .ok (.iface 299 (.agg #[.pointer (some ⟨22, 198, none⟩)])) w := by kernel_rfl
theorem rtKind (h : Value) (w : World) : (Go.method 481 299 (.agg #[h]) "Kind").run Tryz.prog w = .ok (278, h) w := by kernel_rfl
theorem aaKind (w : World) : ((ReflectliteType.abiMethod fun t => (fun a : Nat => Value.int IntKind.u8 (a : Int)) <$> Rtype.kind t) #[.pointer (some ⟨22, 198, none⟩)]).run Tryz.prog w = .ok (.int .u8 22) w := by kernel_rfl
theorem a1Kind (w : World) : ((ReflectliteType.abiMethod fun t => (fun a : Nat => Value.int IntKind.u8 (a : Int)) <$> Rtype.kind t) #[.pointer (some ⟨22, 196, none⟩)]).run Tryz.prog w = .ok (.int .u8 22) w := by kernel_rfl
theorem rlm (z : Sem Value) (f : TypeId → Addr → Nat → Nat → Sem Value) (v : Value) :
    ReflectliteValue.method z f #[v] = (do match ← ReflectliteValue.parts v with | none => z | some (t, a, fl) => f t a fl (fl % 32)) := rfl
theorem aaParts (a : Addr) (w : World) : (ReflectliteValue.parts (.agg #[.pointer (some ⟨22, 198, none⟩), .pointer (some a), .int .u64 150])).run Tryz.prog w = .ok (some (198, a, 150)) w := by kernel_rfl
theorem aaIsNil (a p : Addr) (W : World) (ha : W.cell? a = some (.pointer (some p))) :
    (ReflectliteValue.method (ReflectliteValue.valueError "reflectlite.Value.IsNil" 0) ReflectliteValue.isNil #[.agg #[.pointer (some ⟨22, 198, none⟩), .pointer (some a), .int .u64 150]]).run Tryz.prog W = .ok (.bool false) W := by
  rw [rlm]
  simp only [Sem.run_bind, aaParts, Result.andThen]
  simp [ReflectliteValue.isNil, loadVar, isAgg, underlying, Tryz.underlying198, ha, Result.andThen]
theorem rtElem (h : Value) (w : World) : (Go.method 481 299 (.agg #[h]) "Elem").run Tryz.prog w = .ok (291, .agg #[h]) w := by kernel_rfl
theorem rtImplements (h : Value) (w : World) : (Go.method 481 299 (.agg #[h]) "Implements").run Tryz.prog w = .ok (292, .agg #[h]) w := by kernel_rfl
theorem rtAssignableTo (h : Value) (w : World) : (Go.method 481 299 (.agg #[h]) "AssignableTo").run Tryz.prog w = .ok (289, .agg #[h]) w := by kernel_rfl
theorem aaElem (w : World) : (ReflectliteType.method ReflectliteType.elem #[.agg #[.pointer (some ⟨22, 198, none⟩)]]).run Tryz.prog w = .ok (.iface 299 (.agg #[.pointer (some ⟨22, 196, none⟩)])) w := by kernel_rfl
theorem a1Implements (w : World) : (ReflectliteType.relation "Implements" ReflectliteType.implements_ #[.agg #[.pointer (some ⟨22, 196, none⟩)], .iface 299 (.agg #[.pointer (some ⟨22, 36, none⟩)])]).run Tryz.prog w = .ok (.bool true) w := by kernel_rfl
theorem esAssignable (w : World) : (ReflectliteType.relation "AssignableTo" ReflectliteType.assignableTo #[.agg #[.pointer (some ⟨22, 348, none⟩)], .iface 299 (.agg #[.pointer (some ⟨22, 196, none⟩)])]).run Tryz.prog w = .ok (.bool false) w := by kernel_rfl
theorem as_nil (t : Value) (w : World) : Calls Tryz.prog 110 #[.nilIface, t] w fun e w' => e = .returned (.bool false) ∧ w' = w := by
  go_enter Tryz.func110, Tryz.ntmps110
  go_wp2
  go_ret
  exact ⟨rfl, rfl⟩
set_option maxHeartbeats 4000000 in
theorem as_miss (b t : Addr) (old : Value) (w : World) (hg : w.cell? ⟨20, 0, none⟩ = some (.iface 299 (.agg #[.pointer (some ⟨22, 36, none⟩)]))) (ht0 : w.cell? t = some old) :
    Calls Tryz.prog 110 #[.iface 348 (.pointer (some b)), .iface 198 (.pointer (some t))] w fun ev w' => ev = .returned (.bool false) ∧ w' = ((w.alloc (.cells #[.pointer (some t)] 198)).alloc (.cells #[.pointer (some ⟨22, 198, none⟩), .pointer (some ⟨w.heap.size, 0, none⟩), .int .u64 150] 262)).alloc (.cells #[.pointer (some ⟨22, 198, none⟩), .pointer (some ⟨w.heap.size, 0, none⟩), .int .u64 150] 262) := by
  have h6 := @run_callFunc_extern Tryz.prog 170 _ (fun args => ReflectliteValue.unpack (args.getD 0 (.tuple #[]))) Tryz.func170 (by kernel_rfl) (by kernel_rfl) (by kernel_rfl) (by kernel_rfl)
  have h7 := @run_callFunc_extern Tryz.prog 171 _ (ReflectliteValue.methodAny (ReflectliteValue.valueError "reflectlite.Value.Type" 0) (fun t _ _ _ => ReflectliteType.toType t)) Tryz.func171 (by kernel_rfl) (by kernel_rfl) (by kernel_rfl) (by kernel_rfl)
  have h8 := @run_callFunc_extern Tryz.prog 172 _ (ReflectliteValue.method (ReflectliteValue.valueError "reflectlite.Value.IsNil" 0) ReflectliteValue.isNil) Tryz.func172 (by kernel_rfl) (by kernel_rfl) (by kernel_rfl) (by kernel_rfl)
  have h27 := @run_callFunc_extern Tryz.prog 278 _ (ReflectliteType.abiMethod fun t => do pure (.int .u8 (← Rtype.kind t))) Tryz.func278 (by kernel_rfl) (by kernel_rfl) (by kernel_rfl) (by kernel_rfl)
  have h37 := @run_callFunc_extern Tryz.prog 291 _ (ReflectliteType.method ReflectliteType.elem) Tryz.func291 (by kernel_rfl) (by kernel_rfl) (by kernel_rfl) (by kernel_rfl)
  have h38 := @run_callFunc_extern Tryz.prog 292 _ (ReflectliteType.relation "Implements" ReflectliteType.implements_) Tryz.func292 (by kernel_rfl) (by kernel_rfl) (by kernel_rfl) (by kernel_rfl)
  have h10 := @run_callFunc_extern Tryz.prog 161 _ ReflectliteType.typeOf Tryz.func161 (by kernel_rfl) (by kernel_rfl) (by kernel_rfl) (by kernel_rfl)
  have h35 := @run_callFunc_extern Tryz.prog 289 _ (ReflectliteType.relation "AssignableTo" ReflectliteType.assignableTo) Tryz.func289 (by kernel_rfl) (by kernel_rfl) (by kernel_rfl) (by kernel_rfl)
  have tO := esTypeOf
  have mA := rtAssignableTo
  have a25 := esAssignable
  have f6 := aaValueOf
  have f7 := aaType
  have mK := rtKind
  have mE := rtElem
  have mI := rtImplements
  have k27 := aaKind
  have k25 := a1Kind
  have e27 := aaElem
  have i25 := a1Implements
  have nE := esNoAs
  have uE := esNoUnwrap
  have vE := esNoUnwraps
  have n8 := aaIsNil ⟨w.heap.size, 0, none⟩ t ((w.alloc (.cells #[.pointer (some t)] 198)).alloc (.cells #[.pointer (some ⟨22, 198, none⟩), .pointer (some ⟨w.heap.size, 0, none⟩), .int .u64 150] 262)) (by simp)
  have hlt : 20 < w.heap.size := by
    rcases Nat.lt_or_ge 20 w.heap.size with h | h
    · exact h
    · simp [World.cell?, Array.getElem?_eq_none h] at hg
  have hg2 : ((w.alloc (.cells #[.pointer (some t)] 198)).alloc (.cells #[.pointer (some ⟨22, 198, none⟩), .pointer (some ⟨w.heap.size, 0, none⟩), .int .u64 150] 262)).cell? ⟨20, 0, none⟩ = some (.iface 299 (.agg #[.pointer (some ⟨22, 36, none⟩)])) := by
    rw [World.cell?_alloc_lt _ _ ⟨20, 0, none⟩ (by simp; omega), World.cell?_alloc_lt _ _ ⟨20, 0, none⟩ hlt]; exact hg
  go_enter Tryz.func110, Tryz.ntmps110
  go_wp2
  refine wp_loop_rounds 1 ?_
  rw [rounds_succ]
  go_wp2
  go_ret
  exact ⟨rfl, rfl⟩
theorem place_nil (w : World) : Calls Tryz.prog 39 #[.nilIface] w fun e w' => e = .returned (.int .i64 (-1)) ∧ w' = w.alloc (.cells #[.pointer none] 196) := by
  go_enter Tryz.func39, Tryz.ntmps39
  go_wp2_with (go_at_call 110; refine (as_nil _ _).mono ?_; rintro e w' ⟨rfl, rfl⟩)
  go_ret
  exact ⟨rfl, rfl⟩
set_option maxHeartbeats 4000000 in
theorem place_sent (b : Addr) (w : World) (hg : w.cell? ⟨20, 0, none⟩ = some (.iface 299 (.agg #[.pointer (some ⟨22, 36, none⟩)]))) :
    Calls Tryz.prog 39 #[.iface 348 (.pointer (some b))] w fun e w' => e = .returned (.int .i64 (-1)) ∧ w' = ((((w.alloc (.cells #[.pointer none] 196)).alloc (.cells #[.pointer (some ⟨w.heap.size, 0, none⟩)] 198)).alloc (.cells #[.pointer (some ⟨22, 198, none⟩), .pointer (some ⟨w.heap.size + 1, 0, none⟩), .int .u64 150] 262)).alloc (.cells #[.pointer (some ⟨22, 198, none⟩), .pointer (some ⟨w.heap.size + 1, 0, none⟩), .int .u64 150] 262)) := by
  have hlt : 20 < w.heap.size := by
    rcases Nat.lt_or_ge 20 w.heap.size with h | h
    · exact h
    · simp [World.cell?, Array.getElem?_eq_none h] at hg
  have hgA : (w.alloc (.cells #[.pointer none] 196)).cell? ⟨20, 0, none⟩ = some (.iface 299 (.agg #[.pointer (some ⟨22, 36, none⟩)])) := by
    rw [World.cell?_alloc_lt _ _ ⟨20, 0, none⟩ hlt]; exact hg
  have htA : (w.alloc (.cells #[.pointer none] 196)).cell? ⟨w.heap.size, 0, none⟩ = some (.pointer none) := by simp
  go_enter Tryz.func39, Tryz.ntmps39
  go_wp2_with (go_at_call 110; refine (as_miss b ⟨w.heap.size, 0, none⟩ (.pointer none) _ hgA htA).mono ?_; rintro e w' ⟨rfl, rfl⟩)
  go_ret
  exact ⟨rfl, rfl⟩
open Go.Fy
/-- The sentinels of package api, and errors' own variable, as a row lists them. -/
structure Sents (cds : List Nat) (gl : Nat → Option AV) : Prop where
  hG1 : gl 1 = some (.err (.code 1))
  hG7 : gl 7 = some (.err (.code 2))
  hG3 : gl 3 = some (.err (.code 3))
  hG8 : gl 8 = some (.err (.code 4))
  hG5 : gl 5 = some (.err (.code 5))
  hG2 : gl 2 = some (.err (.code 6))
  hG4 : gl 4 = some (.err (.code 7))
  hG6 : gl 6 = some (.err (.code 8))
  hG9 : gl 9 = some (.err (.code 9))
  hG10 : gl 10 = some (.err (.code 10))
  hG0 : gl 0 = some (.err (.code 11))
  hG11 : gl 11 = some (.err (.code 12))
  hG12 : gl 12 = some (.err (.code 13))
  hG13 : gl 13 = some (.err (.code 14))
  hG14 : gl 14 = some (.err (.code 15))
  hG15 : gl 15 = some (.err (.code 16))
  hG16 : gl 16 = some (.err (.code 17))
  hG17 : gl 17 = some (.err (.code 18))
  hG18 : gl 18 = some (.err (.code 19))
  hG19 : gl 19 = some (.err (.code 20))
  hT : gl 20 = some (.val (.iface 299 (.agg #[.pointer (some ⟨22, 36, none⟩)])))
  all : ∀ d, 1 ≤ d → d ≤ 20 → d ∈ cds
section
variable {ea : Nat → Addr} {cds : List Nat} {gl : Nat → Option AV}
theorem c92 (c d : Nat) (hc : c ∈ cds) (hd : d ∈ cds) : APure (V ea cds gl) 92 [.err (.code c), .err (.code d)] false (.bool (decide (c = d))) := by
  refine apure_of_calls fun E vals hV hE _ hvals => ?_
  obtain ⟨V', w, σ, nm, G⟩ := E
  dsimp only at hV; subst hV
  have hv : vals = #[.iface 348 (.pointer (some (ea c))), .iface 348 (.pointer (some (ea d)))] := by
    match vals, hvals with
    | ⟨l⟩, hvals =>
      simp only [RelT, RelV, Rel, ErrRel] at hvals
      obtain ⟨_, _, rfl, rfl, _, _, rfl, rfl, rfl⟩ := hvals
      rfl
  subst hv
  by_cases e : c = d
  · subst e
    refine (is_same (ea c) w).mono fun ev w' ⟨h1, h2⟩ => ?_
    subst h2
    exact ⟨_, h1, fun E' => by simp [RelV], Below.refl _ _⟩
  · obtain ⟨ca, ta, h1⟩ := hE.cold c hc
    obtain ⟨cb, tb, h2⟩ := hE.cold d hd
    refine (is_other (ea c) (ea d) ca cb ta tb w (fun h => e (hE.inj c d hc hd h)) h1 h2).mono fun ev w' ⟨h3, h4⟩ => ?_
    subst h4
    exact ⟨_, h3, fun E' => by simp [RelV, e], Below.refl _ _⟩
theorem c39 (c : Nat) (hc : c ≤ 20) (hS : Sents cds gl) : APure (V ea cds gl) 39 [.err (errD c)] false (.int .i64 (-1)) := by
  refine apure_of_calls fun E vals hV hE _ hvals => ?_
  obtain ⟨V', w, σ, nm, G⟩ := E
  dsimp only at hV; subst hV
  obtain ⟨-, ds, hd1, hd2⟩ := hE.glob _ _ hS.hT
  have hg : w.cell? ⟨20, 0, none⟩ = some (.iface 299 (.agg #[.pointer (some ⟨22, 36, none⟩)])) := by
    simp only [Rel] at hd2
    obtain ⟨rfl, -⟩ := hd2
    exact hd1 0 _ rfl
  have hv : vals = #[if c = 0 then .nilIface else .iface 348 (.pointer (some (ea c)))] := by
    match vals, hvals with
    | ⟨l⟩, hvals =>
      simp only [RelT, RelV, Rel] at hvals
      obtain ⟨_, _, rfl, h2, rfl⟩ := hvals
      unfold errD at h2
      split at h2
      · simp only [ErrRel] at h2; subst h2; rw [if_pos (by assumption)]
      · simp only [ErrRel] at h2; subst h2; rw [if_neg (by assumption)]
  subst hv
  by_cases e : c = 0
  · rw [if_pos e]
    refine (place_nil w).mono fun ev w' ⟨h1, h2⟩ => ?_
    subst h2
    exact ⟨_, h1, fun E' => by simp [RelV], (Below.refl _ _).alloc (Nat.le_refl _) _⟩
  · rw [if_neg e]
    refine (place_sent (ea c) w hg).mono fun ev w' ⟨h1, h2⟩ => ?_
    subst h2
    exact ⟨_, h1, fun E' => by simp [RelV], ((((Below.refl _ _).alloc (Nat.le_refl _) _).alloc (by simp) _).alloc (by simp; omega) _).alloc (by simp; omega) _⟩
end
end Go.Proofs.YtpmgdmbcdohgcaaGreatDoor
