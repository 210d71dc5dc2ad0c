/- The engine, 17: comparisons of structs, reckoned (my own text; any program). -/
import Derived.Test.YtgaihhimkodmmaaDoorFyP
set_option linter.unusedSimpArgs false
namespace Go.Fy
open Go.RowKit

def eqVL (P : Program) (go : TypeId → AV → AV → Option Bool) (xs ys : List AV) : List Field → Nat → Option Bool
  | [], _ => some true
  | f :: fs, k => match xs[k]?, ys[k]? with
    | some x, some y =>
      bif decide (f.name ≠ "_") && (Nat.beq f.offset (AV.szL (xs.take k)) && (Nat.beq f.offset (AV.szL (ys.take k)) && (decide (tyOf P f.type = some (x.isAgg, x.sz)) && decide (tyOf P f.type = some (y.isAgg, y.sz))))) then
        match go f.type x y, eqVL P go xs ys fs (k + 1) with
        | some r, some q => some (r && q)
        | _, _ => none
      else none
    | _, _ => none

def eqV (P : Program) : Nat → TypeId → AV → AV → Option Bool
  | 0, _, _, _ => none
  | n + 1, t, x, y => match P.underlying t, x, y with
    | some (.int _), .int k a, .int k' b => bif decide (k = k') then some (decide (a = b)) else none
    | some .bool, .bool a, .bool b => some (a == b)
    | some .string, .str a, .str b => some (decide (a = b))
    | some (.struct fs), .agg xs, .agg ys => bif P.stoodInHeld t then none else eqVL P (eqV P n) xs ys fs.toList 0
    | _, _, _ => none

theorem eqVL_spec {P : Program} {go : TypeId → AV → AV → Option Bool} {xs ys : List AV} (hgo : ∀ t x y r, go t x y = some r → EqT P t x y r) : ∀ (fs : List Field) (k : Nat) (r : Bool), eqVL P go xs ys fs k = some r → EqL P xs ys fs k r
  | [], k, r, h => by simp only [eqVL, Option.some.injEq] at h; subst h; exact .nil
  | f :: fs, k, r, h => by
    unfold eqVL at h
    split at h
    · rename_i x y hx hy
      cases hc : (decide (f.name ≠ "_") && (Nat.beq f.offset (AV.szL (xs.take k)) && (Nat.beq f.offset (AV.szL (ys.take k)) && (decide (tyOf P f.type = some (x.isAgg, x.sz)) && decide (tyOf P f.type = some (y.isAgg, y.sz)))))) with
      | false => rw [hc] at h; cases h
      | true =>
        rw [hc] at h
        simp only [Bool.and_eq_true, decide_eq_true_eq] at hc
        obtain ⟨h1, h2, h3, h4, h5⟩ := hc
        simp only [cond_true] at h
        split at h
        · rename_i r1 q1 e1 e2
          simp only [Option.some.injEq] at h
          subst h
          exact .cons hx hy h1 (Nat.eq_of_beq_eq_true h2) (Nat.eq_of_beq_eq_true h3) h4 h5 (hgo _ _ _ _ e1) (eqVL_spec hgo fs (k + 1) q1 e2)
        · cases h
    · cases h

theorem eqV_spec {P : Program} : ∀ (n : Nat) (t : TypeId) (x y : AV) (r : Bool), eqV P n t x y = some r → EqT P t x y r
  | 0, _, _, _, _, h => by cases h
  | n + 1, t, x, y, r, h => by
    unfold eqV at h
    split at h
    · rename_i k0 k a k' b hu
      by_cases hk : k = k'
      · subst hk; simp only [decide_true, cond_true, Option.some.injEq] at h; subst h; exact .int hu
      · simp [hk] at h
    · rename_i a b hu; simp only [Option.some.injEq] at h; subst h; exact .bool hu
    · rename_i a b hu; simp only [Option.some.injEq] at h; subst h; exact .str hu
    · rename_i fs xs ys hu
      cases hs : P.stoodInHeld t with
      | true => rw [hs] at h; cases h
      | false =>
        rw [hs] at h
        simp only [cond_false] at h
        have e : P.fieldsOf t = fs := by simp [Program.fieldsOf, hu]
        exact .agg (by rw [e]; exact hu) hs (by rw [e]; exact eqVL_spec (fun t x y r => eqV_spec n t x y r) fs.toList 0 r h)
    · cases h

theorem Shut.row0 {η : Nat → Option AV} {live : Nat → Bool} {fr : Bool} {i z n c m : Nat} {f : Nat → AV} (hi : η i = some (.arr z m f)) (hl : live i = false) (hle : n ≤ m) (hf : fr = true → ∀ j, j < m → (f j).free = true) : Shut η live fr (.osl i z 0 n c) (.sl z false n f) :=
  .row hi hl (by omega) (fun j _ => by rw [Nat.zero_add]) hf
end Go.Fy
