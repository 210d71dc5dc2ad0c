/- What comes in, in plain words: from the shapes of types to lists and structs of plain Lean (my own text; no program in sight). -/
import Derived.Test.YtgaihhimkodmmaaDoorS3
import Derived.Test.YtgaihhimkodmmaaDoorFyZ
set_option linter.unusedSimpArgs false
namespace Go.Fy
open Go.RowKit
/-- Weakenings, one for each value. -/
inductive Wks : List AV → List AV → Prop where
  | nil : Wks [] []
  | cons {x y : AV} {xs ys : List AV} : WkV x y → Wks xs ys → Wks (x :: xs) (y :: ys)
theorem RelT.wk : ∀ {E : RE} {xs ys : List AV} {vs : List Value}, Wks xs ys → RelT E xs vs → RelT E ys vs
  | E, [], [], vs, _, h => by simpa only [RelT] using h
  | E, x :: xs, y :: ys, vs, .cons h1 h2, h => by
    simp only [RelT] at *
    obtain ⟨c, d, rfl, e1, e2⟩ := h
    exact ⟨c, d, rfl, h1 _ _ e1, RelT.wk h2 e2⟩
theorem u8_of {n : Int} (h : (Lit.int .u8 n).wf = true) : ∃ b : UInt8, n = (b.toNat : Int) := by
  have : 0 ≤ n ∧ n ≤ 255 := by simpa [Lit.wf, IntKind.min, IntKind.max, IntKind.signed, IntKind.bits] using h
  refine ⟨UInt8.ofNat n.toNat, ?_⟩
  rw [UInt8.toNat_ofNat_of_lt' (by show n.toNat < 256; omega)]; omega
theorem i64_of {n : Int} (h : (Lit.int .i64 n).wf = true) : -9223372036854775808 ≤ n ∧ n ≤ 9223372036854775807 := by
  simpa [Lit.wf, IntKind.min, IntKind.max, IntKind.signed, IntKind.bits] using h
theorem u32_of {n : Int} (h : (Lit.int .u32 n).wf = true) : 0 ≤ n ∧ n ≤ 4294967295 := by
  simpa [Lit.wf, IntKind.min, IntKind.max, IntKind.signed, IntKind.bits] using h
/-- The elements of a row, chosen. -/
theorem row_list {α : Type} {f : Nat → AV} {P : α → Prop} {g : α → AV} (n : Nat) (h : ∀ j, ∃ a, P a ∧ f j = g a) : ∃ l : List α, l.length = n ∧ (∀ a, a ∈ l → P a) ∧ ∀ j (d : α), j < n → f j = g (l.getD j d) := by
  induction n with
  | zero => exact ⟨[], rfl, fun a ha => (by cases ha), fun j d hj => absurd hj (by omega)⟩
  | succ n ih =>
    obtain ⟨l, h1, h2, h3⟩ := ih
    obtain ⟨a, ha, e⟩ := h n
    refine ⟨l ++ [a], by simp [h1], fun b hb => ?_, fun j d hj => ?_⟩
    · rcases List.mem_append.1 hb with hb | hb
      · exact h2 b hb
      · rw [List.mem_singleton.1 hb]; exact ha
    · by_cases hj2 : j < n
      · rw [h3 j d hj2]; simp [List.getD_eq_getElem?_getD, List.getElem?_append, h1, hj2]
      · obtain rfl : j = n := by omega
        rw [e]; simp [List.getD_eq_getElem?_getD, ← h1]
theorem fits_bytes {x : AV} (h : Fits (.sl 1 1 (.int .u8)) x) : ∃ (b : Bool) (im : List UInt8), (b = true → im.length = 0) ∧ im.length ≤ 140737488351232 ∧ Wk x (.sl 1 b im.length (bAt im)) := by
  simp only [Fits] at h
  obtain ⟨nn, n, f, rfl, h1, h2, h3⟩ := h
  obtain ⟨l, k1, -, k3⟩ := row_list (f := f) (P := fun _ : UInt8 => True) (g := fun b => .int .u8 (b.toNat : Int)) n (fun j => by
    obtain ⟨m, e, hw⟩ := h3 j
    obtain ⟨b, rfl⟩ := u8_of hw
    exact ⟨b, trivial, e⟩)
  subst k1
  exact ⟨nn, l, h1, by omega, .sl fun j hj => k3 j 0 hj⟩
theorem fits_ints {x : AV} (h : Fits (.sl 1 8 (.int .i64)) x) : ∃ (b : Bool) (l : List Int), (b = true → l.length = 0) ∧ l.length * 8 ≤ 140737488351232 ∧ (∀ n, n ∈ l → -9223372036854775808 ≤ n ∧ n ≤ 9223372036854775807) ∧ Wk x (.sl 1 b l.length (iAt l)) := by
  simp only [Fits] at h
  obtain ⟨nn, n, f, rfl, h1, h2, h3⟩ := h
  obtain ⟨l, k1, k2, k3⟩ := row_list (f := f) (P := fun n : Int => -9223372036854775808 ≤ n ∧ n ≤ 9223372036854775807) (g := fun n => .int .i64 n) n (fun j => by
    obtain ⟨m, e, hw⟩ := h3 j
    exact ⟨m, i64_of hw, e⟩)
  subst k1
  exact ⟨nn, l, h1, h2, k2, .sl fun j hj => k3 j 0 hj⟩
theorem fits_i64 {x : AV} (h : Fits (.int .i64) x) : ∃ n : Int, (-9223372036854775808 ≤ n ∧ n ≤ 9223372036854775807) ∧ Wk x (.int .i64 n) := by
  simp only [Fits] at h
  obtain ⟨n, rfl, hw⟩ := h
  exact ⟨n, i64_of hw, .refl⟩
/-- A row of what comes in, each element as plain Lean says it. -/
theorem fits_rows {α : Type} {z b : Nat} {s : Sh} {g : α → AV} {P : α → Prop} (hs : ∀ y, Fits s y → ∃ a, P a ∧ y = g a) {x : AV} (h : Fits (.sl z b s) x) :
    ∃ (nn : Bool) (n : Nat) (L : Nat → α), (nn = true → n = 0) ∧ n * b ≤ 140737488351232 ∧ (∀ j, P (L j)) ∧ x = .sl z nn n (fun j => g (L j)) := by
  simp only [Fits] at h
  obtain ⟨nn, n, f, rfl, h1, h2, h3⟩ := h
  have h4 := fun j => hs _ (h3 j)
  refine ⟨nn, n, fun j => Classical.choose (h4 j), h1, h2, fun j => (Classical.choose_spec (h4 j)).1, ?_⟩
  congr 1
  funext j
  exact (Classical.choose_spec (h4 j)).2
/-- A row of numbers, whole. -/
theorem fits_nums {y : AV} (h : Fits (.sl 1 8 (.int .i64)) y) : ∃ (b : Bool) (n : Nat) (f : Nat → Int), (b = true → n = 0) ∧ n * 8 ≤ 140737488351232 ∧ (∀ j, -9223372036854775808 ≤ f j ∧ f j ≤ 9223372036854775807) ∧ y = .sl 1 b n (fun j => .int .i64 (f j)) :=
  fits_rows (g := fun n => .int .i64 n) (P := fun n => -9223372036854775808 ≤ n ∧ n ≤ 9223372036854775807) (fun y hy => by
    simp only [Fits] at hy
    obtain ⟨n, rfl, hw⟩ := hy
    exact ⟨n, i64_of hw, rfl⟩) h
theorem reach_of {H : Type} {P : Program} {ts us : List TypeId} {ds : List (DataW H)} (h0 : us = []) (h : (DataW.weightsEach P (ts ++ us) (ds ++ [])).all (· ≤ reachBytes) = true) : (DataW.weightsEach P ts ds).all (· ≤ reachBytes) = true := by
  subst h0
  simpa only [List.append_nil] using h
theorem trod_len {H : Type} {enc : TypeId × Value → H} {P : Program} {W : World} {b : Nat} {f : Nat → Bool} {o : Bool} : ∀ (ts : List TypeId) (vs : List Value) (ds : List (DataW H)) (ps : List MemPlace),
    DataW.TrodAll enc P W b f o ts vs ds ps → ds.length = ts.length
  | [], [], [], ps, _ => rfl
  | [], [], _ :: _, ps, h => h.elim
  | [], _ :: _, [], ps, h => h.elim
  | [], _ :: _, _ :: _, ps, h => h.elim
  | _ :: _, [], [], ps, h => h.elim
  | _ :: _, [], _ :: _, ps, h => h.elim
  | _ :: _, _ :: _, [], ps, h => h.elim
  | t :: ts, v :: vs, d :: ds, ps, h => by
    obtain ⟨p, q, _, h1, h2⟩ := h
    simp only [List.length_cons]
    rw [trod_len ts vs ds q (by first | exact h1 | exact h1.1 | exact h2 | exact h2.1)]
/-- One field at offset 0. -/
def oneFieldB (P : Program) (te ts : TypeId) : Bool := match P.underlying te with | some (.struct fs) => (match fs.toList with | [f] => f.type == ts && f.offset == 0 | _ => false) | _ => false
theorem oneField_of {P : Program} {te ts : TypeId} (h : oneFieldB P te ts = true) : ∃ f, P.underlying te = some (.struct #[f]) ∧ f.type = ts ∧ f.offset = 0 := by
  unfold oneFieldB at h
  split at h
  · next fs hu =>
    split at h
    · next f hf =>
      simp only [Bool.and_eq_true, beq_iff_eq] at h
      exact ⟨f, by rw [hu]; congr 2; exact Array.toList_inj.1 hf, h.1, h.2⟩
    · cases h
  · cases h
theorem SentT.of {P : Program} {ti tp te ts : TypeId} (hi : ∃ ms, P.underlying ti = some (.interface ms)) (hrow : ∀ u, P.typeName? 3 u = some "*errors.errorString" → u = tp) (h1 : P.underlying tp = some (.pointer te)) (hb : oneFieldB P te ts = true)
    (h2 : P.underlying ts = some .string) (h3 : P.cellsOf te = 1) (h4 : P.cellsOf ts = 1) : SentT P ti tp :=
  ⟨hi, hrow, let ⟨f, e1, e2, e3⟩ := oneField_of hb; ⟨te, ts, f, h1, e1, e2, e3, h2, h3, h4⟩⟩
end Go.Fy
