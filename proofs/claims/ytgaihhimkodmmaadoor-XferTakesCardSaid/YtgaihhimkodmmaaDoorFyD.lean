/- The engine, 4: paths into what is laid; loads, addresses, slices (my own text; any program). -/
import Derived.Test.YtgaihhimkodmmaaDoorFyC
set_option linter.unusedSimpArgs false
namespace Go.Fy
open Go.RowKit

/-! ### Paths -/
def getP : List Nat → AV → Option AV
  | [], x => some x
  | k :: p, .agg l => match l[k]? with
    | some y => getP p y
    | none => none
  | k :: p, .arr _ _ f => getP p (f k)
  | _ :: _, _ => none
def inP : List Nat → AV → Prop
  | k :: p, .agg l => match l[k]? with
    | some y => inP p y
    | none => True
  | k :: p, .arr _ n f => k < n ∧ inP p (f k)
  | _, _ => True
def offP : List Nat → AV → Nat
  | k :: p, .agg l => match l[k]? with
    | some y => AV.szL (l.take k) + offP p y
    | none => 0
  | k :: p, .arr e _ f => k * e + offP p (f k)
  | _, _ => 0
/-- Does the path go through an array? -/
def thruA : List Nat → AV → Bool
  | k :: p, .agg l => match l[k]? with
    | some y => thruA p y
    | none => false
  | _ :: _, .arr _ _ _ => true
  | _, _ => false
def setP : List Nat → AV → AV → AV
  | [], _, y => y
  | k :: p, .agg l, y => match l[k]? with
    | some x => .agg (l.set k (setP p x y))
    | none => .agg l
  | k :: p, .arr e n f, y => .arr e n fun j => if j = k then setP p (f k) y else f j
  | _ :: _, x, _ => x

theorem take_drop_sub {α : Type} (cs : List α) (a s b t : Nat) (h : b + t ≤ s) : (((cs.drop a).take s).drop b).take t = (cs.drop (a + b)).take t := by
  rw [List.drop_take, List.take_take, List.drop_drop, Nat.min_eq_left (by omega)]

theorem RelL.get {E : RE} : ∀ (l : List AV) (cs : List Value) (k : Nat) (y : AV), RelL E l cs → l[k]? = some y →
    Rel E y ((cs.drop (AV.szL (l.take k))).take y.sz) ∧ AV.szL (l.take k) + y.sz ≤ cs.length
  | [], _, _, _, _, h => by simp at h
  | x :: l, cs, 0, y, h, hk => by
    simp only [RelL] at h
    obtain ⟨c, d, rfl, h1, h2⟩ := h
    simp at hk; subst hk
    have := Rel.length x c h1
    simp only [List.take_zero, AV.szL, List.drop_zero, Nat.zero_add, List.length_append]
    rw [← this, List.take_left' rfl]
    exact ⟨h1, by omega⟩
  | x :: l, cs, k + 1, y, h, hk => by
    simp only [RelL] at h
    obtain ⟨c, d, rfl, h1, h2⟩ := h
    obtain ⟨h3, h4⟩ := RelL.get l d k y h2 (by simpa using hk)
    have := Rel.length x c h1
    simp only [List.take_succ_cons, AV.szL, List.length_append]
    rw [← this, List.drop_length_add_append]
    exact ⟨h3, by omega⟩

theorem rel_getP {E : RE} : ∀ (p : List Nat) (t : AV) (cs : List Value) (x : AV), Rel E t cs → getP p t = some x → inP p t →
    Rel E x ((cs.drop (offP p t)).take x.sz) ∧ offP p t + x.sz ≤ cs.length
  | [], t, cs, x, h, hg, _ => by
    simp only [getP, Option.some.injEq] at hg
    subst hg
    have := Rel.length t cs h
    cases t <;> simp only [offP, List.drop_zero, Nat.zero_add, ← this, List.take_length] <;> exact ⟨h, Nat.le_refl _⟩
  | k :: p, .agg l, cs, x, h, hg, hi => by
    simp only [getP, inP, offP] at hg hi ⊢
    cases hk : l[k]? with
    | none => simp [hk] at hg
    | some y =>
      simp only [hk] at hg hi ⊢
      simp only [Rel] at h
      obtain ⟨h1, h2⟩ := RelL.get l cs k y h hk
      have hl := Rel.length y _ h1
      obtain ⟨h3, h4⟩ := rel_getP p y _ x h1 hg hi
      rw [hl] at h4
      rw [take_drop_sub _ _ _ _ _ h4] at h3
      exact ⟨h3, by omega⟩
  | k :: p, .arr e n f, cs, x, h, hg, hi => by
    simp only [getP, inP, offP] at hg hi ⊢
    simp only [Rel] at h
    obtain ⟨h1, h2⟩ := h.2 k hi.1
    obtain ⟨h3, h4⟩ := rel_getP p (f k) _ x (Rel.le E.bare_le _ _ h1) hg hi.2
    rw [h2] at h4
    rw [take_drop_sub _ _ _ _ _ h4] at h3
    refine ⟨h3, ?_⟩
    rw [List.length_take, List.length_drop] at h2
    have := Nat.mul_le_mul_right e (Nat.le_of_lt hi.1)
    omega
  | _ :: _, .top, _, _, _, h, _ | _ :: _, .bool _, _, _, _, h, _ | _ :: _, .int _ _, _, _, _, h, _ | _ :: _, .str _, _, _, _, h, _ | _ :: _, .val _, _, _, _, h, _ | _ :: _, .err _, _, _, _, h, _
  | _ :: _, .sl _ _ _ _, _, _, _, h, _ | _ :: _, .fptr _, _, _, _, h, _ | _ :: _, .ptr _ _ _, _, _, _, h, _ | _ :: _, .osl _ _ _ _ _, _, _, _, h, _ | _ :: _, .tup _, _, _, _, h, _
  | _ :: _, .fn _ _, _, _, _, h, _ | _ :: _, .gd _ _, _, _, _, h, _ => by simp [getP] at h

/-- Cells put in the place of cells. -/
def splice (cs : List Value) (a : Nat) (ds : List Value) : List Value := cs.take a ++ ds ++ cs.drop (a + ds.length)
theorem splice_length {cs ds : List Value} {a : Nat} (h : a + ds.length ≤ cs.length) : (splice cs a ds).length = cs.length := by
  simp only [splice, List.length_append, List.length_take, List.length_drop]; omega
theorem splice_append_left {c d ds : List Value} {a : Nat} (h : a + ds.length ≤ c.length) : splice (c ++ d) a ds = splice c a ds ++ d := by
  simp only [splice]
  rw [List.take_append_of_le_length (by omega), List.drop_append_of_le_length h, List.append_assoc, List.append_assoc, List.append_assoc]
theorem splice_append_right {c d ds : List Value} {a : Nat} : splice (c ++ d) (c.length + a) ds = c ++ splice d a ds := by
  simp only [splice]
  rw [show c.length + a + ds.length = c.length + (a + ds.length) by omega, List.take_length_add_append, List.drop_length_add_append, List.append_assoc, List.append_assoc, List.append_assoc]

theorem splice_getElem? {cs ds : List Value} {a j : Nat} (h : a + ds.length ≤ cs.length) : (splice cs a ds)[j]? = if a ≤ j ∧ j < a + ds.length then ds[j - a]? else cs[j]? := by
  simp only [splice]
  rw [List.append_assoc, List.getElem?_append]
  simp only [List.length_take, Nat.min_eq_left (show a ≤ cs.length by omega)]
  split
  · rename_i h1; rw [if_neg (by omega), List.getElem?_take_of_lt h1]
  · rename_i h1
    rw [List.getElem?_append]
    split
    · rw [if_pos (by omega)]
    · rw [if_neg (by omega), List.getElem?_drop]; congr 1; omega

theorem RelL.set {E : RE} : ∀ (l : List AV) (cs : List Value) (k : Nat) (y z : AV) (ds : List Value), RelL E l cs → l[k]? = some y → Rel E z ds → z.sz = y.sz →
    RelL E (l.set k z) (splice cs (AV.szL (l.take k)) ds)
  | [], _, _, _, _, _, _, h, _, _ => by simp at h
  | x :: l, cs, 0, y, z, ds, h, hk, hz, hs => by
    simp only [RelL] at h
    obtain ⟨c, d, rfl, h1, h2⟩ := h
    simp at hk; subst hk
    have e1 := Rel.length x c h1
    have e2 := Rel.length z ds hz
    simp only [List.take_zero, AV.szL, List.set_cons_zero, RelL]
    refine ⟨ds, d, ?_, hz, h2⟩
    simp only [splice, List.take_zero, List.nil_append, Nat.zero_add]
    rw [show ds.length = c.length by omega, List.drop_left' rfl]
  | x :: l, cs, k + 1, y, z, ds, h, hk, hz, hs => by
    simp only [RelL] at h
    obtain ⟨c, d, rfl, h1, h2⟩ := h
    have ih := RelL.set l d k y z ds h2 (by simpa using hk) hz hs
    have e1 := Rel.length x c h1
    simp only [List.take_succ_cons, AV.szL, List.set_cons_succ, RelL]
    exact ⟨c, _, by rw [← e1, splice_append_right], h1, ih⟩

theorem take_drop_splice_in {cs ds : List Value} {a s b : Nat} (hb : b + ds.length ≤ s) (ha : a + s ≤ cs.length) :
    ((splice cs (a + b) ds).drop a).take s = splice ((cs.drop a).take s) b ds := by
  apply List.ext_getElem?
  intro j
  have hl : ((cs.drop a).take s).length = s := by rw [List.length_take, List.length_drop]; omega
  rw [splice_getElem? (by omega)]
  by_cases hj : j < s
  · rw [List.getElem?_take_of_lt hj, List.getElem?_drop, splice_getElem? (by omega), List.getElem?_take_of_lt hj, List.getElem?_drop]
    by_cases hc : b ≤ j ∧ j < b + ds.length
    · rw [if_pos hc, if_pos (by omega)]; congr 1; omega
    · rw [if_neg hc, if_neg (by omega)]
  · rw [if_neg (by omega), List.getElem?_eq_none (by rw [List.length_take]; omega), List.getElem?_eq_none (by rw [hl]; omega)]

theorem take_drop_splice_out {cs ds : List Value} {a s b : Nat} (h : b + ds.length ≤ a ∨ a + s ≤ b) (hb : b + ds.length ≤ cs.length) :
    ((splice cs b ds).drop a).take s = (cs.drop a).take s := by
  apply List.ext_getElem?
  intro j
  by_cases hj : j < s
  · rw [List.getElem?_take_of_lt hj, List.getElem?_drop, splice_getElem? hb, List.getElem?_take_of_lt hj, List.getElem?_drop, if_neg (by omega)]
  · rw [List.getElem?_eq_none (by rw [List.length_take]; omega), List.getElem?_eq_none (by rw [List.length_take]; omega)]

theorem rel_setP {E : RE} : ∀ (p : List Nat) (t : AV) (cs : List Value) (x y : AV) (ds : List Value), Rel E t cs → getP p t = some x → inP p t → Rel E y ds → y.sz = x.sz → (thruA p t = true → y.noN = true) →
    Rel E (setP p t y) (splice cs (offP p t) ds)
  | [], t, cs, x, y, ds, h, hg, _, hy, hs, _ => by
    simp only [getP, Option.some.injEq] at hg
    subst hg
    have e1 := Rel.length t cs h
    have e2 := Rel.length y ds hy
    have : splice cs (offP [] t) ds = ds := by
      cases t <;> simp only [offP, splice, List.take_zero, List.nil_append, Nat.zero_add] <;> rw [List.drop_eq_nil_of_le (by omega), List.append_nil]
    rw [this]
    simpa only [setP] using hy
  | k :: p, .agg l, cs, x, y, ds, h, hg, hi, hy, hs, hn => by
    simp only [getP, inP, offP, setP, thruA] at hg hi hn ⊢
    cases hk : l[k]? with
    | none => simp [hk] at hg
    | some z =>
      simp only [hk] at hg hi hn ⊢
      simp only [Rel] at h ⊢
      obtain ⟨h1, h2⟩ := RelL.get l cs k z h hk
      have hl := Rel.length z _ h1
      have h3 := rel_setP p z _ x y ds h1 hg hi hy hs hn
      have h5 := (rel_getP p z _ x h1 hg hi).2
      have e2 := Rel.length y ds hy
      rw [hl] at h5
      have hlen := Rel.length _ _ h3
      rw [splice_length (by omega), hl] at hlen
      have h6 := RelL.set l cs k z (setP p z y) _ h hk h3 hlen.symm
      have : splice cs (AV.szL (l.take k)) (splice ((cs.drop (AV.szL (l.take k))).take z.sz) (offP p z) ds) = splice cs (AV.szL (l.take k) + offP p z) ds := by
        apply List.ext_getElem?
        intro j
        have hl2 : (splice ((cs.drop (AV.szL (l.take k))).take z.sz) (offP p z) ds).length = z.sz := by rw [splice_length (by omega), hl]
        rw [splice_getElem? (by omega), splice_getElem? (by omega), hl2]
        by_cases hj : AV.szL (l.take k) ≤ j ∧ j < AV.szL (l.take k) + z.sz
        · rw [if_pos hj, splice_getElem? (by omega)]
          by_cases hq : offP p z ≤ j - AV.szL (l.take k) ∧ j - AV.szL (l.take k) < offP p z + ds.length
          · rw [if_pos hq, if_pos (by omega)]; congr 1; omega
          · rw [if_neg hq, if_neg (by omega), List.getElem?_take_of_lt (by omega), List.getElem?_drop]; congr 1; omega
        · rw [if_neg hj, splice_getElem? (by omega), if_neg (by omega)]
      rwa [this] at h6
  | k :: p, .arr e n f, cs, x, y, ds, h, hg, hi, hy, hs, hn => by
    simp only [getP, inP, offP, setP, thruA] at hg hi hn ⊢
    simp only [Rel] at h ⊢
    obtain ⟨h1, h2⟩ := h.2 k hi.1
    have hy' := Rel.noN y ds (hn trivial) hy
    have h3 := rel_setP (E := E.bare) p (f k) _ x y ds h1 hg hi.2 hy' hs (fun _ => hn trivial)
    have h5 := (rel_getP p (f k) _ x h1 hg hi.2).2
    have e2 := Rel.length y ds hy
    rw [h2] at h5
    have hkn : k * e + e ≤ n * e := by
      have : (k + 1) * e ≤ n * e := Nat.mul_le_mul_right e hi.1
      rw [Nat.add_mul, Nat.one_mul] at this; exact this
    rw [splice_length (by rw [h.1]; omega)]
    refine ⟨h.1, fun j hj => ?_⟩
    have hjn : j * e + e ≤ n * e := by
      have : (j + 1) * e ≤ n * e := Nat.mul_le_mul_right e hj
      rw [Nat.add_mul, Nat.one_mul] at this; exact this
    by_cases hjk : j = k
    · subst hjk
      rw [if_pos rfl, take_drop_splice_in (by omega) (by rw [h.1]; omega)]
      exact ⟨h3, by rw [splice_length (by omega), h2]⟩
    · rw [if_neg hjk, take_drop_splice_out ?_ (by rw [h.1]; omega)]
      · exact h.2 j hj
      · rcases Nat.lt_or_gt_of_ne hjk with hlt | hgt
        · right
          have : (j + 1) * e ≤ k * e := Nat.mul_le_mul_right e hlt
          rw [Nat.add_mul, Nat.one_mul] at this; omega
        · left
          have : (k + 1) * e ≤ j * e := Nat.mul_le_mul_right e hgt
          rw [Nat.add_mul, Nat.one_mul] at this; omega
  | _ :: _, .top, _, _, _, _, _, h, _, _, _, _ | _ :: _, .bool _, _, _, _, _, _, h, _, _, _, _ | _ :: _, .int _ _, _, _, _, _, _, h, _, _, _, _ | _ :: _, .str _, _, _, _, _, _, h, _, _, _, _ | _ :: _, .val _, _, _, _, _, _, h, _, _, _, _
  | _ :: _, .err _, _, _, _, _, _, h, _, _, _, _ | _ :: _, .sl _ _ _ _, _, _, _, _, _, h, _, _, _, _ | _ :: _, .fptr _, _, _, _, _, _, h, _, _, _, _ | _ :: _, .ptr _ _ _, _, _, _, _, _, h, _, _, _, _
  | _ :: _, .osl _ _ _ _ _, _, _, _, _, _, h, _, _, _, _ | _ :: _, .tup _, _, _, _, _, _, h, _, _, _, _ | _ :: _, .fn _ _, _, _, _, _, _, h, _, _, _, _ | _ :: _, .gd _ _, _, _, _, _, _, h, _, _, _, _ => by simp [getP] at h

theorem Rel.arr_congr {E : RE} {e n : Nat} {f g : Nat → AV} {cs : List Value} (h : Rel E (.arr e n f) cs) (hf : ∀ j, j < n → f j = g j) : Rel E (.arr e n g) cs := by
  simp only [Rel] at *
  exact ⟨h.1, fun j hj => by rw [← hf j hj]; exact h.2 j hj⟩
end Go.Fy
