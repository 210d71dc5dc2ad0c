/- The engine, 22: from the kit's contracts to mine (my own text; any program). -/
import Derived.Test.YtgaihhimkodmmaaDoorFyW
set_option linter.unusedSimpArgs false
namespace Go.Fy
open Go.RowKit
/-- A contract in the kit's words, of a function whose answer leads to no memory. -/
theorem apure_of_calls {V : Env} {f : FuncId} {args : List AV} {r : AV}
    (h : ∀ (E : RE) (vals : Array Value), E.V = V → EnvOK E → (∀ b, E.G b → b < E.w.heap.size) → RelT E args vals.toList → Calls V.P f vals E.w fun e w' => ∃ v, e = .returned v ∧ (∀ E' : RE, RelV E' r v) ∧ Below E.w.heap.size E.w w') : APure V f args false r := by
  intro w σ G Gall vals h1 h2 h3 h4 h5 h6 h7
  have hle : (⟨V, w, σ, [], G⟩ : RE).le ⟨V, w, σ, [], Gall⟩ := ⟨rfl, fun _ _ => rfl, fun _ h => h, fun b hb => h2 b hb, fun _ _ _ _ h => h, fun _ c t fr h => ⟨c, t, fr, h, rfl⟩⟩
  refine (h ⟨V, w, σ, [], Gall⟩ vals rfl (h4.le hle) h1 h7).mono fun e w' ⟨v, he, hv, hb⟩ => ?_
  refine ⟨v, r, [], [], σ, he, ⟨WkV.refl _, rfl, rfl⟩, ⟨hb.os, hb.tape, hb.output, hb.size, fun _ _ => rfl, fun _ h => h, fun i x hi => (by simp [getH] at hi), fun b hlt _ => hb.block b hlt, fun b c t fr hh => ⟨c, t, fr, ?_, rfl⟩⟩, fun i hi => (by simp [bnd] at hi), fun i j x y hi => (by simp [getH] at hi), fun i x hi => (by simp [getH] at hi), hv _⟩
  exact (hb.block b (Array.getElem?_eq_some_iff.1 hh).1).trans hh
theorem aview_osl0 {η : Nat → Option AV} {r : Nat → Nat} {i z n c m : Nat} {f : Nat → AV} (hi : η i = some (.arr z m f)) (hle : n ≤ m) : AView η [] r true (.osl i z 0 n c) (.sl z false n f) :=
  aview_osl hi (fun j hj => by cases hj) (by omega) f (fun j _ => by rw [Nat.zero_add])
theorem aview_wk {η : Nat → Option AV} {nm : List Nat} {r : Nat → Nat} {fr : Bool} {a a' : AV} (hn : a.noN = true) (h : Wk a a') : AView η nm r fr a a' := fun E E' v h1 h2 h3 h4 h5 hv =>
  h.v E' v (aview_noN (η := η) (r := r) (fr := fr) hn E E' v h1 h2 h3 h4 h5 hv)
end Go.Fy
