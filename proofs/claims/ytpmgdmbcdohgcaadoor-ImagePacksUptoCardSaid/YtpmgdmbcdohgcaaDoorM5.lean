/- My own texts, packed: KR2x. -/
import Derived.Test.YtpmgdmbcdohgcaaDoorM4
/- Errors with a place in Go's library and in package api: errors.Is, errors.As told shortly, api.Place (walks over this dump, by the kit's words). -/
namespace Go.Proofs.YtpmgdmbcdohgcaaDoor
open Go.RowKit Go.Extern.Stop Go.Stop Go.Extern
set_option linter.unusedSimpArgs false
set_option linter.unusedVariables false
theorem atNoIs (v : Value) (xT : TypeId) (w : World) : (Instr.typeAssert (.iface 111 v) xT 151 true).run Tryd.prog w = .ok (.tuple #[.nilIface, .bool false]) w := run_typeAssert_lacksB Tryd.underlying151 (by kernel_rfl) (by kernel_rfl) v xT w
theorem atUnwrap (v : Value) (xT : TypeId) (w : World) : (Instr.typeAssert (.iface 111 v) xT 154 true).run Tryd.prog w = .ok (.tuple #[.iface 111 v, .bool true]) w := run_typeAssert_hasB Tryd.underlying154 (by kernel_rfl) v xT w
theorem atMUnwrap (v : Value) (w : World) : (Go.method 320 111 v "Unwrap").run Tryd.prog w = .ok (114, v) w := by kernel_rfl
set_option maxRecDepth 100000 in
/-- errors.Is(x with a place, x). -/
theorem is_at_same (b o : Nat) (c : Addr) (w : World) (hu : w.cell? ⟨b, o + 1, none⟩ = some (.iface 187 (.pointer (some c)))) :
    Calls Tryd.prog 27 #[.iface 111 (.pointer (some ⟨b, o, none⟩)), .iface 187 (.pointer (some c))] w fun e w' => e = .returned (.bool true) ∧ w' = w := by
  obtain ⟨i, hi, hcmp⟩ := Option.map_eq_some_iff.1 esComp
  obtain ⟨j, hj, hjs⟩ := Option.map_eq_some_iff.1 esSize
  have h8 := @run_callFunc_extern Tryd.prog 57 _ ReflectliteType.typeOf Tryd.func57 (by kernel_rfl) (by kernel_rfl) (by kernel_rfl) (by kernel_rfl)
  have h32 := @run_callFunc_extern Tryd.prog 117 _ (ReflectliteType.method fun t => do Rtype.noPackHeld "Comparable" t; pure (.bool (← typeInfo t).comparable)) Tryd.func117 (by kernel_rfl) (by kernel_rfl) (by kernel_rfl) (by kernel_rfl)
  have tT := esTypeOf
  have cT := esComparable
  have mR := esMethodComparable
  have nA := atNoIs
  have uA := atUnwrap
  have mU := atMUnwrap
  have hty := run_eql_iface_types (P := Tryd.prog) 111 187 (.pointer (some ⟨b, o, none⟩)) (.pointer (some c)) Tryd.underlying35 (by decide) w
  have heq := run_eql_iface_ptr_same (P := Tryd.prog) w c Tryd.underlying35 Tryd.underlying187 hi hcmp hj
  go_enter Tryd.func27, Tryd.ntmps27
  go_wp2
  refine wp_loop_rounds 2 ?_
  rw [rounds_succ]
  go_wp2
  rw [rounds_succ]
  go_wp2
  go_ret
  exact ⟨rfl, rfl⟩
set_option maxRecDepth 100000 in
/-- errors.Is(x with a place, y). -/
theorem is_at_other (b o : Nat) (c d : Addr) (ca cb : Array Value) (ta tb : TypeId) (w : World) (hne : c ≠ d) (ha : w.heap[c.block]? = some (.cells ca ta (0, 0))) (hb : w.heap[d.block]? = some (.cells cb tb (0, 0))) (hu : w.cell? ⟨b, o + 1, none⟩ = some (.iface 187 (.pointer (some c)))) :
    Calls Tryd.prog 27 #[.iface 111 (.pointer (some ⟨b, o, none⟩)), .iface 187 (.pointer (some d))] w fun e w' => e = .returned (.bool false) ∧ w' = w := by
  obtain ⟨i, hi, hcmp⟩ := Option.map_eq_some_iff.1 esComp
  obtain ⟨j, hj, hjs⟩ := Option.map_eq_some_iff.1 esSize
  have h8 := @run_callFunc_extern Tryd.prog 57 _ ReflectliteType.typeOf Tryd.func57 (by kernel_rfl) (by kernel_rfl) (by kernel_rfl) (by kernel_rfl)
  have h32 := @run_callFunc_extern Tryd.prog 117 _ (ReflectliteType.method fun t => do Rtype.noPackHeld "Comparable" t; pure (.bool (← typeInfo t).comparable)) Tryd.func117 (by kernel_rfl) (by kernel_rfl) (by kernel_rfl) (by kernel_rfl)
  have tT := esTypeOf
  have cT := esComparable
  have mR := esMethodComparable
  have nA := atNoIs
  have uA := atUnwrap
  have mU := atMUnwrap
  have hty := run_eql_iface_types (P := Tryd.prog) 111 187 (.pointer (some ⟨b, o, none⟩)) (.pointer (some d)) Tryd.underlying35 (by decide) w
  have heq := run_eql_iface_ptr_other (P := Tryd.prog) w Tryd.underlying35 Tryd.underlying187 hi hcmp hj (by rw [hjs]; decide) hne ha hb
  have nE := esNoIs
  have uE := esNoUnwrap
  have vE := esNoUnwraps
  go_enter Tryd.func27, Tryd.ntmps27
  go_wp2
  refine wp_loop_rounds 2 ?_
  rw [rounds_succ]
  go_wp2
  rw [rounds_succ]
  go_wp2
  go_ret
  exact ⟨rfl, rfl⟩
/-- errors.As of an error with a place, told shortly. -/
theorem as_hit2 (e t : Addr) (old : Value) (w : World) (hg : w.cell? ⟨20, 0, none⟩ = some (.iface 149 (.agg #[.pointer (some ⟨21, 35, none⟩)]))) (ht0 : w.cell? t = some old) (hf0 : w.frozen? t = false) :
    Calls Tryd.prog 70 #[.iface 111 (.pointer (some e)), .iface 136 (.pointer (some t))] w fun ev w' => ev = .returned (.bool true) ∧ w'.cell? t = some (.pointer (some e)) ∧ Below t.block w w' ∧ w'.heap.size = w.heap.size + 4 := by
  have htl : t.block < w.heap.size := by
    rcases Nat.lt_or_ge t.block w.heap.size with h | h
    · exact h
    · simp [World.cell?, Array.getElem?_eq_none h] at ht0
  refine (as_hit e t old w hg ht0 hf0).mono fun ev w' ⟨h1, h2⟩ => ⟨h1, ?_, ?_, ?_⟩
  · subst h2
    refine World.cell?_setCell_same (u := old) _ _ _ ?_
    rw [World.cell?_alloc_lt _ _ t (by simp; omega), World.cell?_alloc_lt _ _ t (by simp; omega), World.cell?_alloc_lt _ _ t (by simp; omega), World.cell?_alloc_lt _ _ t htl]; exact ht0
  · subst h2
    exact (((((Below.refl _ _).alloc (by omega) _).alloc (by simp; omega) _).alloc (by simp; omega) _).alloc (by simp; omega) _).setCell (Nat.le_refl _) _
  · subst h2
    simp [World.setCell]
theorem place_at (e : Addr) (p : Int) (w : World) (hp : w.cell? e = some (.int .i64 p)) (hg : w.cell? ⟨20, 0, none⟩ = some (.iface 149 (.agg #[.pointer (some ⟨21, 35, none⟩)]))) :
    Calls Tryd.prog 43 #[.iface 111 (.pointer (some e))] w fun ev w' => ev = .returned (.int .i64 p) ∧ Below w.heap.size w w' := by
  have hlt : 20 < w.heap.size := by
    rcases Nat.lt_or_ge 20 w.heap.size with h | h
    · exact h
    · simp [World.cell?, Array.getElem?_eq_none h] at hg
  have hlp : e.block < w.heap.size := by
    rcases Nat.lt_or_ge e.block w.heap.size with h | h
    · exact h
    · simp [World.cell?, Array.getElem?_eq_none h] at hp
  have hgA : (w.alloc (.cells #[.pointer none] 111)).cell? ⟨20, 0, none⟩ = some (.iface 149 (.agg #[.pointer (some ⟨21, 35, none⟩)])) := by
    rw [World.cell?_alloc_lt _ _ ⟨20, 0, none⟩ hlt]; exact hg
  have htA : (w.alloc (.cells #[.pointer none] 111)).cell? ⟨w.heap.size, 0, none⟩ = some (.pointer none) := by simp
  have hfA : (w.alloc (.cells #[.pointer none] 111)).frozen? ⟨w.heap.size, 0, none⟩ = false := by simp
  have hsz : (w.alloc (.cells #[.pointer none] 111)).heap.size = w.heap.size + 1 := by simp
  have hpA : (w.alloc (.cells #[.pointer none] 111)).cell? e = some (.int .i64 p) := by
    rw [World.cell?_alloc_lt _ _ e hlp]; exact hp
  go_enter Tryd.func43, Tryd.ntmps43
  go_wp2_with (go_at_call 70; refine (as_hit2 e ⟨w.heap.size, 0, none⟩ (.pointer none) _ hgA htA hfA).mono ?_; rintro ev w' ⟨rfl, hc1, hb1, hs1⟩; have hc2 : w'.cell? e = some (.int .i64 p) := (hb1.cell hlp).trans hpA)
  go_ret
  exact ⟨rfl, ((Below.refl _ _).alloc (Nat.le_refl _) _).trans hb1⟩
open Go.Fy
section
variable {ea : Nat → Addr} {cds : List Nat} {gl : Nat → Option AV}
theorem at_vals {E : RE} {p : Int} {c : Nat} {v : Value} (hv : ErrRel E (.at p (.code c)) v) : ∃ b o, v = .iface E.V.tAt (.pointer (some ⟨b, o, none⟩)) ∧ E.G b ∧ E.w.cell? ⟨b, o, none⟩ = some (.int .i64 p) ∧ E.w.cell? ⟨b, o + 1, none⟩ = some (.iface E.V.tSent (.pointer (some (E.V.eaddr c)))) := by
  simp only [ErrRel] at hv
  obtain ⟨b, o, u, h1, h2, h3, h4, rfl⟩ := hv
  exact ⟨b, o, h1, h2, h3, h4⟩
theorem ca27 (p : Int) (c d : Nat) (hc : c ∈ cds) (hd : d ∈ cds) : APure (V ea cds gl) 27 [.err (.at p (.code c)), .err (.code d)] false (.bool (decide (c = d))) := by
  refine apure_of_calls fun E vals hV hE _ hvals => ?_
  obtain ⟨V', w, σ, nm, G⟩ := E
  dsimp only at hV; subst hV
  have hv : ∃ b o, vals = #[.iface 111 (.pointer (some ⟨b, o, none⟩)), .iface 187 (.pointer (some (ea d)))] ∧ w.cell? ⟨b, o + 1, none⟩ = some (.iface 187 (.pointer (some (ea c)))) := by
    match vals, hvals with
    | ⟨l⟩, hvals =>
      simp only [RelT, RelV, Rel] at hvals
      obtain ⟨v1, _, rfl, h1, v2, _, rfl, h2, rfl⟩ := hvals
      obtain ⟨b, o, rfl, -, -, h3⟩ := at_vals h1
      simp only [ErrRel] at h2
      subst h2
      exact ⟨b, o, rfl, h3⟩
  obtain ⟨b, o, rfl, hu⟩ := hv
  by_cases e : c = d
  · subst e
    refine (is_at_same b o (ea c) w hu).mono fun ev w' ⟨h1, h2⟩ => ?_
    subst h2
    exact ⟨_, h1, fun E' => by simp [RelV], Below.refl _ _⟩
  · obtain ⟨ca, ta, h1⟩ := hE.cold c hc
    obtain ⟨cb, tb, h2⟩ := hE.cold d hd
    refine (is_at_other b o (ea c) (ea d) ca cb ta tb w (fun h => e (hE.inj c d hc hd h)) h1 h2 hu).mono fun ev w' ⟨h3, h4⟩ => ?_
    subst h4
    exact ⟨_, h3, fun E' => by simp [RelV, e], Below.refl _ _⟩
theorem ca43 (p : Int) (c : Nat) (hc : c ≤ 20) (hS : Sents cds gl) : APure (V ea cds gl) 43 [.err (.at p (.code c))] false (.int .i64 p) := by
  refine apure_of_calls fun E vals hV hE _ hvals => ?_
  obtain ⟨V', w, σ, nm, G⟩ := E
  dsimp only at hV; subst hV
  obtain ⟨-, ds, hd1, hd2⟩ := hE.glob _ _ hS.hT
  have hg : w.cell? ⟨20, 0, none⟩ = some (.iface 149 (.agg #[.pointer (some ⟨21, 35, none⟩)])) := by
    simp only [Rel] at hd2
    obtain ⟨rfl, -⟩ := hd2
    exact hd1 0 _ rfl
  have hv : ∃ b o, vals = #[.iface 111 (.pointer (some ⟨b, o, none⟩))] ∧ w.cell? ⟨b, o, none⟩ = some (.int .i64 p) := by
    match vals, hvals with
    | ⟨l⟩, hvals =>
      simp only [RelT, RelV, Rel] at hvals
      obtain ⟨v1, _, rfl, h1, rfl⟩ := hvals
      obtain ⟨b, o, rfl, -, h2, h3⟩ := at_vals h1
      exact ⟨b, o, rfl, h2⟩
  obtain ⟨b, o, rfl, hp⟩ := hv
  refine (place_at ⟨b, o, none⟩ p w hp hg).mono fun ev w' ⟨h1, h2⟩ => ?_
  exact ⟨_, h1, fun E' => by simp [RelV], h2⟩
end
end Go.Proofs.YtpmgdmbcdohgcaaDoor
