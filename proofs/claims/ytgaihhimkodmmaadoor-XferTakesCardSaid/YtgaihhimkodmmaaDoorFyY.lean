/- The engine, 24: what printed walks repeat: theorems with proofs that Lean finds where they are used (my own text; any program). -/
import Derived.Test.YtgaihhimkodmmaaDoorFyX
set_option linter.unusedVariables false
namespace Go.Fy
open Go.RowKit
/-- For the printed walks: a value as it is. -/
theorem wkv {p : Prop} (h : p := by (first | exact Or.inl rfl | exact Or.inr (And.intro rfl (WkV.refl _)) | exact Or.inr (And.intro rfl (WkV.of (by simp))) | exact Or.inr (And.intro rfl (WkV.of (by simp; omega))))) : p := h
/-- For the printed walks: what a guard asks (the guard's fact is called hg). -/
theorem gi {p : Prop} (h : p := by first | exact True.intro | exact And.intro hg True.intro | (refine And.intro ?_ True.intro; rw [hg]; rfl; done) | (refine And.intro ?_ True.intro; revert hg; simp; done) | (refine And.intro ?_ True.intro; simp_all; done)) : p := h
/-- For the printed walks: the same, behind a choice (called h0). -/
theorem g2 {p : Prop} (h : p := by first | exact True.intro | exact And.intro hg True.intro | (refine And.intro ?_ True.intro; rw [hg]; rfl; done) | (refine And.intro ?_ True.intro; revert h0 hg; simp; done) | (refine And.intro ?_ True.intro; simp_all; done)) : p := h
/-- For the printed walks: a value with no name left. -/
theorem shut {p : Prop} (h : p := by (repeat' (first | exact Shut.row0 rfl rfl (by omega) (by first | exact (fun _ _ _ => rfl) | exact (fun h => by cases h)) | exact Shut.row rfl rfl (by omega) (fun _ _ => rfl) (by first | exact (fun _ _ _ => rfl) | exact (fun h => by cases h)) | apply Shut.agg | apply Shut.fn | apply Shut.ptr | exact ShutL.nil | apply ShutL.cons | (intro h; cases h; done) | exact rfl | exact Shut.refl (by first | exact (fun _ => And.intro rfl rfl) | exact (fun h => by cases h))))) : p := h
/-- For the printed walks: a side remark. -/
theorem sfr {p : Prop} (h : p := by first | exact (fun _ => And.intro rfl rfl) | exact (fun h => by cases h)) : p := h
/-- For the printed walks: a row that stays. -/
theorem frow {p : Prop} (h : p := by first | exact (fun _ _ _ => rfl) | exact (fun h => by cases h)) : p := h
/-- For the printed walks: a bound. -/
theorem bi {p : Prop} (h : p := by first | exact True.intro | exact ⟨by omega, True.intro⟩) : p := h
/-- For the printed walks: a block that stays. -/
theorem fr2 {p : Prop} (h : p := by first | exact (fun _ => rfl) | exact (fun h => by cases h)) : p := h
/-- For the printed walks: cells. -/
theorem wkc {p : Prop} (h : p := by (first | exact WkC.refl _ | exact WkC.of (by simp) | exact WkC.arr (fun j hj => by simp; done))) : p := h
/-- For the printed walks: a value that says less. -/
theorem wkt {p : Prop} (h : p := by (repeat' (first | exact Wk.refl | exact Wk.sl0 | apply Wk.tup | apply Wk.agg | apply WkL.cons | exact WkL.nil | refine Wk.sl (fun _ _ => ?_)))) : p := h
end Go.Fy
