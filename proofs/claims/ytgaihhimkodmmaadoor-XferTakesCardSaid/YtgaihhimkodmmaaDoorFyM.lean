/- The engine, 13: freezing, loops and ends in the forms in which a program prints them (my own text; any program). -/
import Derived.Test.YtgaihhimkodmmaaDoorFyL
set_option linter.unusedSimpArgs false
namespace Go.Fy
open Go.RowKit

def ShF (η : Nat → Option AV) (live : Nat → Bool) (FS : List (Nat × AV)) : List (Nat × AV) → Prop
  | [] => True
  | (t, v) :: l => Shut η live false (getF FS t) v ∧ ShF η live FS l
def ShH (η : Nat → Option AV) (live : Nat → Bool) : List (Nat × Option AV) → Prop
  | [] => True
  | (_, none) :: l => ShH η live l
  | (i, some y) :: l => (∃ x, η i = some x ∧ Shut η live false x y ∧ (y = .top → x.one = true)) ∧ ShH η live l
theorem ShF.mem {η : Nat → Option AV} {live : Nat → Bool} {FS : List (Nat × AV)} : ∀ {L : List (Nat × AV)}, ShF η live FS L → ∀ t v, (t, v) ∈ L → Shut η live false (getF FS t) v
  | (t0, v0) :: L, h, t, v, hm => by
    simp only [ShF] at h
    rcases List.mem_cons.1 hm with e | e
    · simp only [Prod.mk.injEq] at e; obtain ⟨rfl, rfl⟩ := e; exact h.1
    · exact ShF.mem h.2 t v e
theorem ShH.mem {η : Nat → Option AV} {live : Nat → Bool} : ∀ {L : List (Nat × Option AV)}, ShH η live L → ∀ i y, (i, some y) ∈ L → ∃ x, η i = some x ∧ Shut η live false x y ∧ (y = .top → x.one = true)
  | (t0, none) :: L, h, t, v, hm => by
    simp only [ShH] at h
    rcases List.mem_cons.1 hm with e | e
    · simp at e
    · exact ShH.mem h t v e
  | (t0, some v0) :: L, h, t, v, hm => by
    simp only [ShH] at h
    rcases List.mem_cons.1 hm with e | e
    · simp only [Prod.mk.injEq, Option.some.injEq] at e; obtain ⟨rfl, rfl⟩ := e; exact h.1
    · exact ShH.mem h.2 t v e

theorem imp_sh {C : Ctx} {F : List (Nat × AV)} {H : List (Nat × Option AV)} {nm : List Nat} (L : List (Nat × AV)) (M : List (Nat × Option AV)) (hown : ∀ b, C.own0 b → ∃ j, j ∈ C.nm0 ∧ C.σ0 j = b)
    (hl0 : (C.nm0.all fun j => (getH (M ++ H) j).isSome) = true) (hF : ShF (getH H) (fun i => (getH (M ++ H) i).isSome) F L) (hH : ShH (getH H) (fun i => (getH (M ++ H) i).isSome) M) :
    St.imp C ⟨F, H, nm⟩ ⟨L ++ F, M ++ H, nm⟩ := by
  refine imp_shut hown (fun j hj => by have := List.all_eq_true.1 hl0 j hj; simpa [Option.isSome_iff_exists] using this) rfl (fun t => ?_) (fun i y hi => ?_)
  · show Shut (getH H) (fun i => (getH (M ++ H) i).isSome) false (getF F t) (getF (L ++ F) t)
    rw [getF_append]
    cases hk : keyIn L t with
    | true => exact hF.mem _ _ (getF_in hk)
    | false => exact .refl (fun h => by cases h)
  · have hi' : getH (M ++ H) i = some y := hi
    show ∃ x, getH H i = some x ∧ Shut (getH H) (fun i => (getH (M ++ H) i).isSome) false x y ∧ (y = .top → x.one = true)
    rw [getH_append'] at hi'
    cases hk : keyIn M i with
    | true =>
      rw [if_pos hk] at hi'
      have := getH_in hk
      rw [hi'] at this
      exact hH.mem _ _ this
    | false =>
      rw [hk, if_neg (by simp)] at hi'
      cases y with
      | top => exact ⟨.top, hi', .top, fun _ => rfl⟩
      | _ => exact ⟨_, hi', .refl (fun h => by cases h), fun h => by cases h⟩

theorem awp_sh {C : Ctx} {c : Code} {Q : Exit → St → Prop} {F : List (Nat × AV)} {H : List (Nat × Option AV)} {nm : List Nat} (L : List (Nat × AV)) (M : List (Nat × Option AV)) (hown : ∀ b, C.own0 b → ∃ j, j ∈ C.nm0 ∧ C.σ0 j = b)
    (hl0 : (C.nm0.all fun j => (getH (M ++ H) j).isSome) = true) (hF : ShF (getH H) (fun i => (getH (M ++ H) i).isSome) F L) (hH : ShH (getH H) (fun i => (getH (M ++ H) i).isSome) M)
    (k : AWP C c Q ⟨L ++ F, M ++ H, nm⟩) : AWP C c Q ⟨F, H, nm⟩ := AWP.imp (imp_sh L M hown hl0 hF hH) k

theorem al_imp {C : Ctx} {ops : Array Oper} {o : Oper} {r : List Oper} {K : St → Prop} {S S' : St} (h : S.imp C S') (k : AL C ops (o :: r) K S') : AL C ops (o :: r) K S := by
  intro hd a w hc
  exact k hd a w (h a w hc)

theorem al_sh {C : Ctx} {ops : Array Oper} {o : Oper} {r : List Oper} {K : St → Prop} {F : List (Nat × AV)} {H : List (Nat × Option AV)} {nm : List Nat} (L : List (Nat × AV)) (M : List (Nat × Option AV))
    (hown : ∀ b, C.own0 b → ∃ j, j ∈ C.nm0 ∧ C.σ0 j = b)
    (hl0 : (C.nm0.all fun j => (getH (M ++ H) j).isSome) = true) (hF : ShF (getH H) (fun i => (getH (M ++ H) i).isSome) F L) (hH : ShH (getH H) (fun i => (getH (M ++ H) i).isSome) M)
    (k : AL C ops (o :: r) K ⟨L ++ F, M ++ H, nm⟩) : AL C ops (o :: r) K ⟨F, H, nm⟩ := al_imp (imp_sh L M hown hl0 hF hH) k

/-- A loop. -/
theorem awp_loopI {C : Ctx} {c : Code} {Q : Exit → St → Prop} {F : List (Nat × AV)} {H : List (Nat × Option AV)} {nm : List Nat} {ι : Type} (P : ι → Prop) (L : ι → List (Nat × AV)) (M : ι → List (Nat × Option AV))
    (nm' : List Nat) (μ : ι → Nat) (i₀ : ι) (hP : P i₀) (h₀ : St.imp C ⟨F, H, nm⟩ ⟨L i₀ ++ F, M i₀ ++ H, nm'⟩)
    (round : ∀ i, P i → AWP C c (AThen (fun S' => ∃ j, (P j ∧ μ j < μ i) ∧ S'.imp C ⟨L j ++ F, M j ++ H, nm'⟩) Q) ⟨L i ++ F, M i ++ H, nm'⟩) : AWP C (.loop c) Q ⟨F, H, nm⟩ := by
  refine awp_loop (ι := {i : ι // P i}) (fun i => ⟨L i.1 ++ F, M i.1 ++ H, nm'⟩) (fun i => μ i.1) ⟨i₀, hP⟩ h₀ (fun i => ?_)
  refine AWP.mono (round i.1 i.2) fun e S hq => ?_
  cases e with
  | normal =>
    obtain ⟨j, ⟨h1, h2⟩, h3⟩ := hq
    exact ⟨⟨j, h1⟩, h3, h2⟩
  | _ => exact hq

/-- In the form in which a program prints it: the names of the loop's own ahead of the others. -/
theorem awp_loopK {C : Ctx} {c : Code} {Q : Exit → St → Prop} {F : List (Nat × AV)} {H : List (Nat × Option AV)} {nm : List Nat} {ι : Type} (P : ι → Prop) (L : ι → List (Nat × AV)) (M : ι → List (Nat × Option AV))
    (LN : List Nat) (μ : ι → Nat) (i₀ : ι) (hP : P i₀) (h₀ : St.imp C ⟨F, H, nm⟩ ⟨L i₀ ++ F, M i₀ ++ H, LN ++ nm⟩)
    (round : ∀ i, P i → AWP C c (AThen (fun S' => ∃ j, (P j ∧ μ j < μ i) ∧ S'.imp C ⟨L j ++ F, M j ++ H, LN ++ nm⟩) Q) ⟨L i ++ F, M i ++ H, LN ++ nm⟩) : AWP C (.loop c) Q ⟨F, H, nm⟩ :=
  awp_loopI P L M (LN ++ nm) μ i₀ hP h₀ round

/-- An end with own rows in it. -/
theorem Cv.shut {S : St} {nm : List Nat} {fr : Bool} {x y : AV} (hn : nm = []) (h : Shut (getH S.H) (fun _ => false) fr x y) (hy : y.noN = true) : Cv S nm fr x y := by
  intro E E' v h1 h2 h3 _ h5 hv
  have hsh : RE.shut (getH S.H) (fun _ => false) fr E ⟨E'.V, E'.w, E.σ, E.nm, E'.G⟩ := ⟨h1, h2, fun _ _ _ => rfl, fun _ _ hi => hi, h3, fun i z hi _ => h5 hn i z hi⟩
  have := h.relV hsh v hv
  exact cv_noN (S := ⟨[], [], []⟩) (nm := []) hy ⟨E'.V, E'.w, E.σ, E.nm, E'.G⟩ E' v rfl rfl (fun _ _ hb => hb) (fun i hi => by cases hi) (fun _ i y hi => by simp [getH] at hi) this

theorem aend1s {C : Ctx} {S : St} {fn : Func} {fr : Bool} {r0 r : AV} (h : ResL C S fn.results.toList [r0]) (hc : Shut (getH S.H) (fun _ => false) fr r0 r) (hy : r.noN = true) {Q : AV → List (Nat × Option AV) → List Nat → Prop} (hq : Q r [] []) : AEnd C fn [] fr Q S :=
  ⟨r0, r, [], res_one h, hq, fun _ => rfl, fun _ h => h, fun i x h => by simp [getH] at h, Cv.shut rfl hc hy⟩
theorem aends {C : Ctx} {S : St} {fn : Func} {fr : Bool} {l m : List AV} (h : ResL C S fn.results.toList l) (hn : l.length ≠ 1) (hc : ShutL (getH S.H) (fun _ => false) fr l m) (hy : AV.noNL m = true) {Q : AV → List (Nat × Option AV) → List Nat → Prop} (hq : Q (.tup m) [] []) :
    AEnd C fn [] fr Q S :=
  ⟨.tup l, .tup m, [], res_many h hn, hq, fun _ => rfl, fun _ h => h, fun i x h => by simp [getH] at h, Cv.shut rfl (.tup hc) hy⟩
end Go.Fy
