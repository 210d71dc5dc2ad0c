/- What comes in, in plain words: from the shapes of types to lists and structs of plain Lean (my own text; no program in sight). -/
import Derived.Test.YtgaihhimkodmmaaDoorS3
import Derived.Test.YtgaihhimkodmmaaDoorFyZ
import Derived.LaidHandle
set_option linter.unusedSimpArgs false
namespace Go.Fy
open Go.RowKit
/-- Weakenings, one for each value. -/
inductive Wks : List AV → List AV → Prop where
  | nil : Wks [] []
  | cons {x y : AV} {xs ys : List AV} : WkV x y → Wks xs ys → Wks (x :: xs) (y :: ys)
theorem RelT.wk : ∀ {E : RE} {xs ys : List AV} {vs : List Value}, Wks xs ys → RelT E xs vs → RelT E ys vs
  | E, [], [], vs, _, h => by simpa only [RelT] using h
  | E, x :: xs, y :: ys, vs, .cons h1 h2, h => by
    simp only [RelT] at *
    obtain ⟨c, d, rfl, e1, e2⟩ := h
    exact ⟨c, d, rfl, h1 _ _ e1, RelT.wk h2 e2⟩
theorem u8_of {n : Int} (h : (Lit.int .u8 n).wf = true) : ∃ b : UInt8, n = (b.toNat : Int) := by
  have : 0 ≤ n ∧ n ≤ 255 := by simpa [Lit.wf, IntKind.min, IntKind.max, IntKind.signed, IntKind.bits] using h
  refine ⟨UInt8.ofNat n.toNat, ?_⟩
  rw [UInt8.toNat_ofNat_of_lt' (by show n.toNat < 256; omega)]; omega
theorem i64_of {n : Int} (h : (Lit.int .i64 n).wf = true) : -9223372036854775808 ≤ n ∧ n ≤ 9223372036854775807 := by
  simpa [Lit.wf, IntKind.min, IntKind.max, IntKind.signed, IntKind.bits] using h
theorem u32_of {n : Int} (h : (Lit.int .u32 n).wf = true) : 0 ≤ n ∧ n ≤ 4294967295 := by
  simpa [Lit.wf, IntKind.min, IntKind.max, IntKind.signed, IntKind.bits] using h
/-- The elements of a row, chosen. -/
theorem row_list {α : Type} {f : Nat → AV} {P : α → Prop} {g : α → AV} (n : Nat) (h : ∀ j, ∃ a, P a ∧ f j = g a) : ∃ l : List α, l.length = n ∧ (∀ a, a ∈ l → P a) ∧ ∀ j (d : α), j < n → f j = g (l.getD j d) := by
  induction n with
  | zero => exact ⟨[], rfl, fun a ha => (by cases ha), fun j d hj => absurd hj (by omega)⟩
  | succ n ih =>
    obtain ⟨l, h1, h2, h3⟩ := ih
    obtain ⟨a, ha, e⟩ := h n
    refine ⟨l ++ [a], by simp [h1], fun b hb => ?_, fun j d hj => ?_⟩
    · rcases List.mem_append.1 hb with hb | hb
      · exact h2 b hb
      · rw [List.mem_singleton.1 hb]; exact ha
    · by_cases hj2 : j < n
      · rw [h3 j d hj2]; simp [List.getD_eq_getElem?_getD, List.getElem?_append, h1, hj2]
      · obtain rfl : j = n := by omega
        rw [e]; simp [List.getD_eq_getElem?_getD, ← h1]
theorem fits_bytes {x : AV} (h : Fits (.sl 1 1 (.int .u8)) x) : ∃ (b : Bool) (im : List UInt8), (b = true → im.length = 0) ∧ im.length ≤ 140737488351232 ∧ Wk x (.sl 1 b im.length (bAt im)) := by
  simp only [Fits] at h
  obtain ⟨nn, n, f, rfl, h1, h2, h3⟩ := h
  obtain ⟨l, k1, -, k3⟩ := row_list (f := f) (P := fun _ : UInt8 => True) (g := fun b => .int .u8 (b.toNat : Int)) n (fun j => by
    obtain ⟨m, e, hw⟩ := h3 j
    obtain ⟨b, rfl⟩ := u8_of hw
    exact ⟨b, trivial, e⟩)
  subst k1
  exact ⟨nn, l, h1, by omega, .sl fun j hj => k3 j 0 hj⟩
theorem fits_ints {x : AV} (h : Fits (.sl 1 8 (.int .i64)) x) : ∃ (b : Bool) (l : List Int), (b = true → l.length = 0) ∧ l.length * 8 ≤ 140737488351232 ∧ (∀ n, n ∈ l → -9223372036854775808 ≤ n ∧ n ≤ 9223372036854775807) ∧ Wk x (.sl 1 b l.length (iAt l)) := by
  simp only [Fits] at h
  obtain ⟨nn, n, f, rfl, h1, h2, h3⟩ := h
  obtain ⟨l, k1, k2, k3⟩ := row_list (f := f) (P := fun n : Int => -9223372036854775808 ≤ n ∧ n ≤ 9223372036854775807) (g := fun n => .int .i64 n) n (fun j => by
    obtain ⟨m, e, hw⟩ := h3 j
    exact ⟨m, i64_of hw, e⟩)
  subst k1
  exact ⟨nn, l, h1, h2, k2, .sl fun j hj => k3 j 0 hj⟩
theorem fits_i64 {x : AV} (h : Fits (.int .i64) x) : ∃ n : Int, (-9223372036854775808 ≤ n ∧ n ≤ 9223372036854775807) ∧ Wk x (.int .i64 n) := by
  simp only [Fits] at h
  obtain ⟨n, rfl, hw⟩ := h
  exact ⟨n, i64_of hw, .refl⟩
/-- A row of what comes in, each element as plain Lean says it. -/
theorem fits_rows {α : Type} {z b : Nat} {s : Sh} {g : α → AV} {P : α → Prop} (hs : ∀ y, Fits s y → ∃ a, P a ∧ y = g a) {x : AV} (h : Fits (.sl z b s) x) :
    ∃ (nn : Bool) (n : Nat) (L : Nat → α), (nn = true → n = 0) ∧ n * b ≤ 140737488351232 ∧ (∀ j, P (L j)) ∧ x = .sl z nn n (fun j => g (L j)) := by
  simp only [Fits] at h
  obtain ⟨nn, n, f, rfl, h1, h2, h3⟩ := h
  have h4 := fun j => hs _ (h3 j)
  refine ⟨nn, n, fun j => Classical.choose (h4 j), h1, h2, fun j => (Classical.choose_spec (h4 j)).1, ?_⟩
  congr 1
  funext j
  exact (Classical.choose_spec (h4 j)).2
/-- A row of numbers, whole. -/
theorem fits_nums {y : AV} (h : Fits (.sl 1 8 (.int .i64)) y) : ∃ (b : Bool) (n : Nat) (f : Nat → Int), (b = true → n = 0) ∧ n * 8 ≤ 140737488351232 ∧ (∀ j, -9223372036854775808 ≤ f j ∧ f j ≤ 9223372036854775807) ∧ y = .sl 1 b n (fun j => .int .i64 (f j)) :=
  fits_rows (g := fun n => .int .i64 n) (P := fun n => -9223372036854775808 ≤ n ∧ n ≤ 9223372036854775807) (fun y hy => by
    simp only [Fits] at hy
    obtain ⟨n, rfl, hw⟩ := hy
    exact ⟨n, i64_of hw, rfl⟩) h
/-- A note that comes in. -/
def Note.fit (n : Note) : Prop := (-9223372036854775808 ≤ n.kind ∧ n.kind ≤ 9223372036854775807) ∧ (-9223372036854775808 ≤ n.part ∧ n.part ≤ 9223372036854775807) ∧ (-9223372036854775808 ≤ n.stage ∧ n.stage ≤ 9223372036854775807) ∧
  (-9223372036854775808 ≤ n.index ∧ n.index ≤ 9223372036854775807) ∧ (-9223372036854775808 ≤ n.total ∧ n.total ≤ 9223372036854775807) ∧ (0 ≤ n.sum ∧ n.sum ≤ 4294967295) ∧ n.data.length ≤ 140737488351232
abbrev shXid : Sh := .agg [.int .i64, .int .i64, .int .i64]
abbrev shNote : Sh := .agg [.int .i64, .int .i64, shXid, .int .i64, .int .i64, .int .i64, .int .u32, .str]
theorem fits_int {k : IntKind} {x : AV} (h : Fits (.int k) x) : ∃ n, x = .int k n ∧ (Lit.int k n).wf = true := by simpa only [Fits] using h
theorem fits_xid {y : AV} (h : Fits shXid y) : ∃ x : Xid, y = xidAV x := by
  simp only [Fits, FitsL] at h
  obtain ⟨_, rfl, _, _, rfl, ⟨a, rfl, -⟩, _, _, rfl, ⟨b, rfl, -⟩, _, _, rfl, ⟨c, rfl, -⟩, rfl⟩ := h
  exact ⟨⟨a, b, c⟩, rfl⟩
theorem fits_note {y : AV} (h : Fits shNote y) : ∃ n : Note, n.fit ∧ y = noteAV n := by
  rw [Fits] at h
  obtain ⟨xs, rfl, h⟩ := h
  simp only [FitsL] at h
  obtain ⟨x0, _, rfl, h0, x1, _, rfl, h1, x2, _, rfl, h2, x3, _, rfl, h3, x4, _, rfl, h4, x5, _, rfl, h5, x6, _, rfl, h6, x7, _, rfl, h7, rfl⟩ := h
  obtain ⟨a0, rfl, w0⟩ := fits_int h0
  obtain ⟨a1, rfl, w1⟩ := fits_int h1
  obtain ⟨a2, rfl⟩ := fits_xid h2
  obtain ⟨a3, rfl, w3⟩ := fits_int h3
  obtain ⟨a4, rfl, w4⟩ := fits_int h4
  obtain ⟨a5, rfl, w5⟩ := fits_int h5
  obtain ⟨a6, rfl, w6⟩ := fits_int h6
  rw [Fits] at h7
  obtain ⟨a7, rfl, w7⟩ := h7
  exact ⟨⟨a0, a1, a2, a3, a4, a5, a6, a7⟩, ⟨i64_of w0, i64_of w1, i64_of w3, i64_of w4, i64_of w5, u32_of w6, w7⟩, rfl⟩
abbrev shSend : Sh := .agg [.int .i64, shXid, .int .i64, .str, .sl 1 1 .bool, .int .i64]
abbrev shRecv : Sh := .agg [.bool, .agg [.int .i64, .int .i64, .int .i64, shXid, .sl 1 16 .str]]
theorem fits_bools {x : AV} (h : Fits (.sl 1 1 .bool) x) : ∃ (b : Bool) (l : List Bool), (b = true → l.length = 0) ∧ l.length ≤ 140737488351232 ∧ Wk x (.sl 1 b l.length (blAt l)) := by
  simp only [Fits] at h
  obtain ⟨nn, n, f, rfl, h1, h2, h3⟩ := h
  obtain ⟨l, k1, -, k3⟩ := row_list (f := f) (P := fun _ : Bool => True) (g := fun b => .bool b) n (fun j => by
    obtain ⟨b, e⟩ := h3 j
    exact ⟨b, trivial, e⟩)
  subst k1
  exact ⟨nn, l, h1, by omega, .sl fun j hj => k3 j false hj⟩
theorem fits_strs {x : AV} (h : Fits (.sl 1 16 .str) x) : ∃ (b : Bool) (l : List (List UInt8)), (b = true → l.length = 0) ∧ l.length * 16 ≤ 140737488351232 ∧ (∀ a, a ∈ l → a.length ≤ 140737488351232) ∧ Wk x (.sl 1 b l.length (strAt l)) := by
  simp only [Fits] at h
  obtain ⟨nn, n, f, rfl, h1, h2, h3⟩ := h
  obtain ⟨l, k1, k2, k3⟩ := row_list (f := f) (P := fun a : List UInt8 => a.length ≤ 140737488351232) (g := fun a => .str a) n (fun j => by
    obtain ⟨a, e, hl⟩ := h3 j
    exact ⟨a, hl, e⟩)
  subst k1
  exact ⟨nn, l, h1, h2, k2, .sl fun j hj => k3 j [] hj⟩
theorem fits_send {y : AV} (h : Fits shSend y) : ∃ (b : Bool) (s : Send), (s.image.length ≤ 281474976710656 ∧ s.acked.length ≤ 281474976710656) ∧ (b = true → s.acked.length = 0) ∧ Wk y (sendAV b s) := by
  rw [Fits] at h
  obtain ⟨xs, rfl, h⟩ := h
  simp only [FitsL] at h
  obtain ⟨x0, _, rfl, h0, x1, _, rfl, h1, x2, _, rfl, h2, x3, _, rfl, h3, x4, _, rfl, h4, x5, _, rfl, h5, rfl⟩ := h
  obtain ⟨a0, rfl, -⟩ := fits_int h0
  obtain ⟨a1, rfl⟩ := fits_xid h1
  obtain ⟨a2, rfl, -⟩ := fits_int h2
  rw [Fits] at h3
  obtain ⟨a3, rfl, w3⟩ := h3
  obtain ⟨b, l, hb, hl, hk⟩ := fits_bools h4
  obtain ⟨a5, rfl, -⟩ := fits_int h5
  exact ⟨b, ⟨a0, a1, a2, a3, l, a5⟩, ⟨by show a3.length ≤ _; omega, by show l.length ≤ _; omega⟩, hb, .agg (.cons .refl (.cons .refl (.cons .refl (.cons .refl (.cons hk (.cons .refl .nil))))))⟩
theorem fits_recv {y : AV} (h : Fits shRecv y) : ∃ (b : Bool) (r : Recv), r.stage.pieces.length * 16 ≤ 140737488351232 ∧ (b = true → r.stage.pieces.length = 0) ∧ Wk y (recvAV b r) := by
  rw [Fits] at h
  obtain ⟨xs, rfl, h⟩ := h
  simp only [FitsL] at h
  obtain ⟨x0, _, rfl, h0, x1, _, rfl, h1, rfl⟩ := h
  rw [Fits] at h0
  obtain ⟨on, rfl⟩ := h0
  rw [Fits] at h1
  obtain ⟨ys, rfl, h1⟩ := h1
  simp only [FitsL] at h1
  obtain ⟨y0, _, rfl, g0, y1, _, rfl, g1, y2, _, rfl, g2, y3, _, rfl, g3, y4, _, rfl, g4, rfl⟩ := h1
  obtain ⟨a0, rfl, -⟩ := fits_int g0
  obtain ⟨a1, rfl, -⟩ := fits_int g1
  obtain ⟨a2, rfl, -⟩ := fits_int g2
  obtain ⟨a3, rfl⟩ := fits_xid g3
  obtain ⟨b, l, hb, hl, -, hk⟩ := fits_strs g4
  exact ⟨b, ⟨on, ⟨a0, a1, a2, a3, l⟩⟩, hl, hb, .agg (.cons .refl (.cons (.agg (.cons .refl (.cons .refl (.cons .refl (.cons .refl (.cons hk .nil)))))) .nil))⟩
theorem fits_case {y : AV} (h : Fits (.agg [shSend, shRecv, shNote, .int .i64]) y) : ∃ (b b2 : Bool) (s : Send) (r : Recv) (n : Note) (t : Int), (s.image.length ≤ 281474976710656 ∧ s.acked.length ≤ 281474976710656) ∧ (b = true → s.acked.length = 0) ∧ r.stage.pieces.length * 16 ≤ 140737488351232 ∧ (b2 = true → r.stage.pieces.length = 0) ∧ n.fit ∧
    (-9223372036854775808 ≤ t ∧ t ≤ 9223372036854775807) ∧ Wk y (.agg [sendAV b s, recvAV b2 r, noteAV n, .int .i64 t]) := by
  rw [Fits] at h
  obtain ⟨xs, rfl, h⟩ := h
  simp only [FitsL] at h
  obtain ⟨x0, _, rfl, h0, x1, _, rfl, h1, x2, _, rfl, h2, x3, _, rfl, h3, rfl⟩ := h
  obtain ⟨b, s, k1, k2, k3⟩ := fits_send h0
  obtain ⟨b2, r, k4, k5, k6⟩ := fits_recv h1
  obtain ⟨n, k7, rfl⟩ := fits_note h2
  obtain ⟨t, rfl, w⟩ := fits_int h3
  exact ⟨b, b2, s, r, n, t, k1, k2, k4, k5, k7, i64_of w, .agg (.cons k3 (.cons k6 (.cons .refl (.cons .refl .nil))))⟩
/-- The sentinels, and one variable more. -/
def glX (D : List (Nat × Nat)) (g : Nat) (v : Value) (i : Nat) : Option AV := if i = g then some (.val v) else glOf D i
theorem env_of_sentsX {P : Program} {tp tAt : TypeId} {W : World} {D : List (Nat × Nat)} {ea : Nat → Addr} {σ : Nat → Nat} {g0 : Nat} {v0 : Value} (hv0 : v0.oneCell' = true) (hc0 : W.cell? ⟨g0, 0, none⟩ = some v0)
    (h1 : ∀ p, p ∈ D → W.cell? ⟨p.2, 0, none⟩ = some (.iface tp (.pointer (some (ea p.1)))) ∧ (ea p.1).spot = none ∧ (∃ s, W.cell? (ea p.1) = some (.string s)) ∧ ∃ cs t, W.heap[(ea p.1).block]? = some (.cells cs t (0, 0)))
    (h2 : ∀ c d, c ∈ D.map (·.1) → d ∈ D.map (·.1) → ea c = ea d → c = d) : EnvOK ⟨{ P := P, eaddr := ea, tSent := tp, tAt := tAt, codes := D.map (·.1), glob := glX D g0 v0 }, W, σ, [], fun b => b < W.heap.size⟩ := by
  have hlt : ∀ (a : Addr) v, W.cell? a = some v → a.block < W.heap.size := fun a v h => by
    rcases Nat.lt_or_ge a.block W.heap.size with h' | h'
    · exact h'
    · simp [World.cell?, Array.getElem?_eq_none h'] at h
  refine ⟨fun g x hx => ?_, fun c hc => ?_, fun c d hc hd he => h2 c d hc hd he, fun c hc => ?_⟩
  · have hx' : glX D g0 v0 g = some x := hx
    unfold glX at hx'
    split at hx'
    · rename_i e; subst e
      cases hx'
      refine ⟨hlt _ _ hc0, [v0], fun k v hk => ?_, by rw [Rel]; exact ⟨rfl, hv0⟩⟩
      cases k with
      | zero => simp only [List.getElem?_cons_zero, Option.some.injEq] at hk; subst hk; exact hc0
      | succ k => simp at hk
    · obtain ⟨c, hm, rfl⟩ := glOf_mem D g x hx'
      obtain ⟨k1, k2, k3, -⟩ := h1 _ hm
      refine ⟨hlt _ _ k1, [.iface tp (.pointer (some (ea c)))], fun k v hk => ?_, ?_⟩
      · cases k with
        | zero => simp only [List.getElem?_cons_zero, Option.some.injEq] at hk; subst hk; exact k1
        | succ k => simp at hk
      · simp only [Rel, RE.bare]; exact ⟨_, rfl, by simp only [ErrRel]⟩
  · obtain ⟨p, hp, rfl⟩ := List.mem_map.1 hc
    obtain ⟨k1, k2, ⟨s, k3⟩, -⟩ := h1 _ hp
    exact ⟨k2, hlt _ _ k3, s, k3⟩
  · obtain ⟨p, hp, rfl⟩ := List.mem_map.1 hc
    exact (h1 _ hp).2.2.2
/-- What a listed handle gives. -/
theorem handle_cell {P : Program} {W : World} {nm : String} {d : DataW Unit} {name : List UInt8} {rt ty N k g : Nat} (hh : handlesMet P [(nm, d)] W) (hf : d.funcsIn? = none) (hn : d.handleName? = some name)
    (hrt : (P.cutTypes.find? (·.1 == "internal/reflectlite.rtype")).map (·.2) = some rt) (hrow : ((List.range N).filter fun t => P.rowNamed t name) = [ty]) (hsize : P.types.size = N) (hg : P.globalNamed nm = some g)
    (hH : typeHandle P ty = .pointer (some ⟨k, ty, none⟩)) : W.cell? ⟨g, 0, none⟩ = some (.iface rt (.agg #[.pointer (some ⟨k, ty, none⟩)])) := by
  have h0 := hh _ (List.mem_singleton.2 rfl)
  rw [show (nm, d).2.funcsIn? = none from hf] at h0
  obtain ⟨name', u, ty', e1, e2, e3, e4, e5⟩ := h0
  have en : name' = name := (Option.some.inj (hn.symm.trans e1)).symm
  subst en
  obtain rfl := Option.some.inj (hrt.symm.trans e2)
  have hm : ty' ∈ (List.range N).filter fun t => P.rowNamed t name' := List.mem_filter.2 ⟨List.mem_range.2 (by rw [← hsize]; exact e3), e4⟩
  rw [hrow] at hm
  obtain rfl := List.mem_singleton.1 hm
  rw [hH] at e5
  simpa using World.var?_cell hg e5 0
theorem reach_of {H : Type} {P : Program} {ts us : List TypeId} {ds : List (DataW H)} (h0 : us = []) (h : (DataW.weightsEach P (ts ++ us) (ds ++ [])).all (· ≤ reachBytes) = true) : (DataW.weightsEach P ts ds).all (· ≤ reachBytes) = true := by
  subst h0
  simpa only [List.append_nil] using h
theorem trod_len {H : Type} {enc : TypeId × Value → H} {P : Program} {W : World} {b : Nat} {f : Nat → Bool} {o : Bool} : ∀ (ts : List TypeId) (vs : List Value) (ds : List (DataW H)) (ps : List MemPlace),
    DataW.TrodAll enc P W b f o ts vs ds ps → ds.length = ts.length
  | [], [], [], ps, _ => rfl
  | [], [], _ :: _, ps, h => h.elim
  | [], _ :: _, [], ps, h => h.elim
  | [], _ :: _, _ :: _, ps, h => h.elim
  | _ :: _, [], [], ps, h => h.elim
  | _ :: _, [], _ :: _, ps, h => h.elim
  | _ :: _, _ :: _, [], ps, h => h.elim
  | t :: ts, v :: vs, d :: ds, ps, h => by
    obtain ⟨p, q, _, h1, h2⟩ := h
    simp only [List.length_cons]
    rw [trod_len ts vs ds q (by first | exact h1 | exact h1.1 | exact h2 | exact h2.1)]
/-- One field at offset 0. -/
def oneFieldB (P : Program) (te ts : TypeId) : Bool := match P.underlying te with | some (.struct fs) => (match fs.toList with | [f] => f.type == ts && f.offset == 0 | _ => false) | _ => false
theorem oneField_of {P : Program} {te ts : TypeId} (h : oneFieldB P te ts = true) : ∃ f, P.underlying te = some (.struct #[f]) ∧ f.type = ts ∧ f.offset = 0 := by
  unfold oneFieldB at h
  split at h
  · next fs hu =>
    split at h
    · next f hf =>
      simp only [Bool.and_eq_true, beq_iff_eq] at h
      exact ⟨f, by rw [hu]; congr 2; exact Array.toList_inj.1 hf, h.1, h.2⟩
    · cases h
  · cases h
theorem SentT.of {P : Program} {ti tp te ts : TypeId} (hi : ∃ ms, P.underlying ti = some (.interface ms)) (hrow : ∀ u, P.typeName? 3 u = some "*errors.errorString" → u = tp) (h1 : P.underlying tp = some (.pointer te)) (hb : oneFieldB P te ts = true)
    (h2 : P.underlying ts = some .string) (h3 : P.cellsOf te = 1) (h4 : P.cellsOf ts = 1) : SentT P ti tp :=
  ⟨hi, hrow, let ⟨f, e1, e2, e3⟩ := oneField_of hb; ⟨te, ts, f, h1, e1, e2, e3, h2, h3, h4⟩⟩
end Go.Fy
