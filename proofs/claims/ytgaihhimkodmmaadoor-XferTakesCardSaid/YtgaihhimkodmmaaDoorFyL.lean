/- The engine, 12: states that say less: names turned, slots and blocks let go, rows frozen; loops (my own text; any program). -/
import Derived.Test.YtgaihhimkodmmaaDoorFyK
set_option linter.unusedSimpArgs false
namespace Go.Fy
open Go.RowKit

mutual
/-- All names in it are of these. -/
def AV.inB (nm : List Nat) : AV → Bool
  | .ptr i _ _ => nm.contains i
  | .osl i _ _ _ _ => nm.contains i
  | .agg l => AV.inBL nm l
  | .tup l => AV.inBL nm l
  | .fn _ l => AV.inBL nm l
  | .gd _ x => x.inB nm
  | _ => true
def AV.inBL (nm : List Nat) : List AV → Bool
  | [] => true
  | x :: l => x.inB nm && AV.inBL nm l
end

/-- The same memory; names of the second stand for names of the first. -/
structure RE.back (r : Nat → Nat) (E E' : RE) : Prop where
  V : E'.V = E.V
  w : E'.w = E.w
  G : ∀ b, E.G b → E'.G b
  σ : ∀ i, i ∈ E'.nm → E'.σ i = E.σ (r i)

theorem RE.back.bare {r : Nat → Nat} {E E' : RE} (h : RE.back r E E') : E.bare.le E'.bare :=
  ⟨h.V, (fun _ hi => by simp [RE.bare] at hi), (fun _ hi => by simp [RE.bare] at hi), h.G, fun b _ _ => by simp [RE.bare, h.w], fun b c t fr hb => ⟨c, t, fr, by simpa [RE.bare, h.w] using hb, rfl⟩⟩

mutual
theorem Rel.back {r : Nat → Nat} {E E' : RE} (h : RE.back r E E') : ∀ (x : AV) (cs : List Value), x.inB E'.nm = true → Rel E (x.ren r) cs → Rel E' x cs
  | .bool _, _, _, hv => by simp only [AV.ren, Rel] at *; exact hv
  | .int _ _, _, _, hv => by simp only [AV.ren, Rel] at *; exact hv
  | .str _, _, _, hv => by simp only [AV.ren, Rel] at *; exact hv
  | .val _, _, _, hv => by simp only [AV.ren, Rel] at *; exact hv
  | .top, _, _, hv => by simp only [AV.ren, Rel] at *; exact hv
  | .tup _, _, _, hv => by simp only [AV.ren, Rel] at hv
  | .gd _ _, _, _, hv => by simp only [AV.ren, Rel] at hv
  | .err e, cs, _, hv => by
    simp only [AV.ren, Rel] at *
    obtain ⟨v, h1, h2⟩ := hv
    exact ⟨v, h1, (ErrRel.bare e v).2 (((ErrRel.bare e v).1 h2).le h.bare)⟩
  | .sl esz nn n f, cs, _, hv => by
    simp only [AV.ren, Rel] at *
    obtain ⟨a, cap, h1, h2, h3, h4, h5⟩ := hv
    refine ⟨a, cap, h1, h2, h3, h4, fun b hb => ?_⟩
    obtain ⟨h6, h7, h8⟩ := h5 b hb
    refine ⟨h6, fun hn => h.G _ (h7 hn), fun j hj => ?_⟩
    obtain ⟨ds, h9, h10, h11⟩ := h8 j hj
    exact ⟨ds, h9, by rw [h.w]; exact h10, Rel.le h.bare (f j) ds h11⟩
  | .fptr x, cs, _, hv => by
    simp only [AV.ren, Rel] at *
    obtain ⟨b, h1, h2, h3, ds, h4, h5⟩ := hv
    exact ⟨b, h1, h2, h.G _ h3, ds, by rw [h.w]; exact h4, Rel.le h.bare x ds h5⟩
  | .ptr i p off, cs, hn, hv => by
    simp only [AV.ren, Rel] at *
    simp only [AV.inB, List.contains_eq_mem, decide_eq_true_eq] at hn
    exact ⟨hn, by rw [h.σ i hn]; exact hv.2⟩
  | .osl i esz off len cap, cs, hn, hv => by
    simp only [AV.ren, Rel] at *
    simp only [AV.inB, List.contains_eq_mem, decide_eq_true_eq] at hn
    obtain ⟨h1, h2, o, cap', h3, hcc, h4, c, t, fr, h5, h6⟩ := hv
    exact ⟨hn, h2, o, cap', by rw [h.σ i hn]; exact h3, hcc, h4, c, t, fr, by rw [h.σ i hn, h.w]; exact h5, h6⟩
  | .agg l, cs, hn, hv => by simp only [AV.ren, Rel, AV.inB] at *; exact RelL.back h l cs hn hv
  | .arr esz n f, cs, _, hv => by
    simp only [AV.ren, Rel] at *
    exact ⟨hv.1, fun j hj => ⟨Rel.le h.bare (f j) _ (hv.2 j hj).1, (hv.2 j hj).2⟩⟩
  | .fn f caps, cs, hn, hv => by
    simp only [AV.ren, Rel, AV.inB] at *
    obtain ⟨vs, h1, h2⟩ := hv
    exact ⟨vs, h1, RelC.back h caps _ hn h2⟩
theorem RelL.back {r : Nat → Nat} {E E' : RE} (h : RE.back r E E') : ∀ (l : List AV) (cs : List Value), AV.inBL E'.nm l = true → RelL E (AV.renL r l) cs → RelL E' l cs
  | [], cs, _, hv => by simp only [AV.renL, RelL] at *; exact hv
  | x :: l, cs, hn, hv => by
    simp only [AV.renL, RelL, AV.inBL, Bool.and_eq_true] at *
    obtain ⟨c, d, h1, h2, h3⟩ := hv
    exact ⟨c, d, h1, Rel.back h x c hn.1 h2, RelL.back h l d hn.2 h3⟩
theorem RelC.back {r : Nat → Nat} {E E' : RE} (h : RE.back r E E') : ∀ (l : List AV) (cs : List Value), AV.inBL E'.nm l = true → RelC E (AV.renL r l) cs → RelC E' l cs
  | [], cs, _, hv => by simp only [AV.renL, RelC] at *; exact hv
  | x :: l, cs, hn, hv => by
    simp only [AV.renL, RelC, AV.inBL, Bool.and_eq_true] at *
    obtain ⟨c, d, h1, h2, h3⟩ := hv
    exact ⟨c, d, h1, Rel.back h x [c] hn.1 h2, RelC.back h l d hn.2 h3⟩
end
mutual
theorem RelV.back {r : Nat → Nat} {E E' : RE} (h : RE.back r E E') : ∀ (x : AV) (v : Value), x.inB E'.nm = true → RelV E (x.ren r) v → RelV E' x v
  | .top, _, _, _ => by simp only [RelV]
  | .gd g x, v, hn, hv => by simp only [AV.ren, RelV, AV.inB] at *; exact ⟨fun hg => RelV.back h x v hn (hv.1 hg), hv.2⟩
  | .tup l, v, hn, hv => by simp only [AV.ren, RelV, AV.inB] at *; obtain ⟨vs, h1, h2⟩ := hv; exact ⟨vs, h1, RelT.back h l _ hn h2⟩
  | .agg l, v, hn, hv => by simp only [AV.ren, RelV, AV.inB] at *; obtain ⟨cs, h1, h2⟩ := hv; exact ⟨cs, h1, RelL.back h l _ hn h2⟩
  | .arr e n f, v, hn, hv => by
    have := Rel.back h (.arr e n f)
    simp only [AV.ren] at this
    simp only [AV.ren, RelV] at *; obtain ⟨cs, h1, h2⟩ := hv; exact ⟨cs, h1, this _ hn h2⟩
  | .bool b, v, _, hv => by simp only [AV.ren, RelV] at *; exact hv
  | .int _ _, v, _, hv => by simp only [AV.ren, RelV] at *; exact hv
  | .str s, v, _, hv => by simp only [AV.ren, RelV, Rel] at *; exact hv
  | .val s, v, _, hv => by simp only [AV.ren, RelV, Rel] at *; exact hv
  | .err e, v, _, hv => by simp only [AV.ren, RelV] at *; exact (ErrRel.bare e v).2 (((ErrRel.bare e v).1 hv).le h.bare)
  | .sl a b c d, v, hn, hv => by have := Rel.back h (.sl a b c d) [v] hn; simp only [AV.ren, RelV] at *; exact this hv
  | .fptr x, v, hn, hv => by have := Rel.back h (.fptr x) [v] hn; simp only [AV.ren, RelV] at *; exact this hv
  | .ptr a b c, v, hn, hv => by have := Rel.back h (.ptr a b c) [v] hn; simp only [AV.ren, RelV] at *; exact this hv
  | .osl a b c d e, v, hn, hv => by have := Rel.back h (.osl a b c d e) [v] hn; simp only [AV.ren, RelV] at *; exact this hv
  | .fn a b, v, hn, hv => by have := Rel.back h (.fn a b) [v] hn; simp only [AV.ren, RelV] at *; exact this hv
theorem RelT.back {r : Nat → Nat} {E E' : RE} (h : RE.back r E E') : ∀ (l : List AV) (vs : List Value), AV.inBL E'.nm l = true → RelT E (AV.renL r l) vs → RelT E' l vs
  | [], _, _, hv => by simp only [AV.renL, RelT] at *; exact hv
  | x :: l, vs, hn, hv => by
    simp only [AV.renL, RelT, AV.inBL, Bool.and_eq_true] at *
    obtain ⟨c, d, h1, h2, h3⟩ := hv
    exact ⟨c, d, h1, RelV.back h x c hn.1 h2, RelT.back h l d hn.2 h3⟩
end

/-- What keeps its names. -/
def idAt (r : Nat → Nat) (nm : List Nat) : Prop := ∀ i, i ∈ nm → r i = i

/-- The general step down. -/
theorem imp_of {C : Ctx} {S S' : St} (r : Nat → Nat)
    (hF : ∀ t, getF S'.F t = .top ∨ ((getF S'.F t).inB S'.nm = true ∧ ∀ (E : RE) (v : Value), RelV E (getF S.F t) v → RelV E ((getF S'.F t).ren r) v))
    (hH : ∀ i x, getH S'.H i = some x → i ∈ S'.nm ∧ x.inB S'.nm = true ∧ ∃ y, getH S.H (r i) = some y ∧ ∀ (E : RE) (cs : List Value), Rel E y cs → Rel E (x.ren r) cs)
    (hinj : ∀ i j x y, getH S'.H i = some x → getH S'.H j = some y → r i = r j → i = j)
    (h0 : ∀ i, i ∈ C.nm0 → i ∈ S'.nm ∧ r i = i) : S.imp C S' := by
  rintro a w ⟨σ, hc⟩
  have hG : ∀ b, C.G S.H w σ b → C.G S'.H w (fun i => σ (r i)) b := fun b hb => by
    rcases hb with hb | ⟨h1, h2, h3⟩
    · exact .inl hb
    · exact .inr ⟨h1, h2, fun i x hi => by obtain ⟨-, -, y, hy, -⟩ := hH i x hi; exact h3 (r i) y hy⟩
  have hback : RE.back r (C.RE S w σ) (C.RE S' w (fun i => σ (r i))) := ⟨rfl, rfl, hG, fun _ _ => rfl⟩
  refine ⟨fun i => σ (r i), hc.ok, hc.defers, hc.size, hc.kept, fun i hi => ?_, fun i j x y hi hj he => ?_, fun i x hi => ?_, ?_, fun t => ?_⟩
  · obtain ⟨h1, h2⟩ := h0 i hi
    exact ⟨by rw [h2]; exact (hc.σ0 i hi).1, h1⟩
  · obtain ⟨-, -, x', hx', -⟩ := hH i x hi
    obtain ⟨-, -, y', hy', -⟩ := hH j y hj
    exact hinj i j x y hi hj (hc.inj _ _ _ _ hx' hy' he)
  · obtain ⟨h1, h2, y, h3, h4⟩ := hH i x hi
    obtain ⟨-, k2, k3, c, t, fr, cs, rest, k4, k5, k6, k7⟩ := hc.blk (r i) _ h3
    exact ⟨h1, k2, k3, c, t, fr, cs, rest, k4, k5, Rel.back hback _ _ h2 (h4 _ _ k6), k7⟩
  · have hle : (C.RE S w σ).bare.le (C.RE S' w (fun i => σ (r i))).bare := hback.bare
    have h1 : EnvOK (C.RE S w σ).bare := ⟨hc.env.glob, hc.env.sent, hc.env.inj, hc.env.cold⟩
    have := h1.le hle
    exact ⟨this.glob, this.sent, this.inj, this.cold⟩
  · rcases hF t with h | ⟨h1, h2⟩
    · rw [h]; simp only [RelV]
    · exact RelV.back hback _ _ h1 (h2 _ _ (hc.slot t))

/-! ### Rows that are frozen -/
mutual
/-- Own rows as frozen ones; what isn't wanted any more as anything. 'fr': what is left leads to new memory alone. -/
inductive Shut (η : Nat → Option AV) (live : Nat → Bool) (fr : Bool) : AV → AV → Prop
  | refl {x : AV} (hf : fr = true → x.free = true ∧ (x.one || x.isAgg) = true) : Shut η live fr x x
  | top {x : AV} : Shut η live fr x .top
  | row {i z of n c m : Nat} {f g : Nat → AV} (hi : η i = some (.arr z m f)) (hl : live i = false) (hle : of + n ≤ m) (hg : ∀ j, j < n → g j = f (of + j)) (hf : fr = true → ∀ j, j < m → (f j).free = true) :
      Shut η live fr (.osl i z of n c) (.sl z false n g)
  | ptr {i : Nat} {x y : AV} (hi : η i = some x) (hl : live i = false) (h : Shut η live fr x y) (hn : y.noN = true) (ht : y = .top → x.one = true) : Shut η live fr (.ptr i [] 0) (.fptr y)
  | agg {l m : List AV} (h : ShutL η live fr l m) : Shut η live fr (.agg l) (.agg m)
  | tup {l m : List AV} (h : ShutL η live fr l m) : Shut η live fr (.tup l) (.tup m)
  | fn {f : FuncId} {l m : List AV} (h : ShutL η live fr l m) : Shut η live fr (.fn f l) (.fn f m)
inductive ShutL (η : Nat → Option AV) (live : Nat → Bool) (fr : Bool) : List AV → List AV → Prop
  | nil : ShutL η live fr [] []
  | cons {x y : AV} {l m : List AV} (h : Shut η live fr x y) (ho : y = .top → x.one = true) (t : ShutL η live fr l m) : ShutL η live fr (x :: l) (y :: m)
end

/-- The same memory; more of it stays: just the blocks that aren't live. -/
structure RE.shut (η : Nat → Option AV) (live : Nat → Bool) (fr : Bool) (E E' : RE) : Prop where
  V : E'.V = E.V
  w : E'.w = E.w
  σ : fr = false → ∀ i, i ∈ E.nm → E'.σ i = E.σ i
  nm : fr = false → ∀ i, i ∈ E.nm → i ∈ E'.nm
  G : fr = false → ∀ b, E.G b → E'.G b
  blk : ∀ i x, η i = some x → live i = false → E'.G (E.σ i) ∧ Blk E (E.σ i) x

theorem RE.shut.le {η : Nat → Option AV} {live : Nat → Bool} {E E' : RE} (h : RE.shut η live false E E') : E.le E' :=
  ⟨h.V, h.σ rfl, h.nm rfl, h.G rfl, fun _ _ _ _ hv => by rw [h.w]; exact hv, fun b c t fr hb => ⟨c, t, fr, by rw [h.w]; exact hb, rfl⟩⟩

theorem RelV.free {E E' : RE} (hV : E'.V = E.V) {x : AV} (hx : x.free = true) (ho : (x.one || x.isAgg) = true) {v : Value} (hv : RelV E x v) : RelV E' x v := by
  cases x <;> simp only [AV.one, AV.isAgg, Bool.or_false, Bool.or_true] at ho <;> first
    | (cases ho; done)
    | (simp only [RelV]; done)
    | (exact (Rel.free hV _ _ hx (hv.toRel rfl (by simp))).toV rfl)
    | skip
  case agg l => simp only [RelV] at *; obtain ⟨cs, h1, h2⟩ := hv; exact ⟨cs, h1, RelL.free hV l _ (by simpa [AV.free] using hx) h2⟩
  all_goals simp [AV.free] at hx

theorem row_shut {η : Nat → Option AV} {live : Nat → Bool} {fr : Bool} {E E' : RE} (h : RE.shut η live fr E E') {i z of n c m : Nat} {f g : Nat → AV} (hi : η i = some (.arr z m f)) (hl : live i = false) (hle : of + n ≤ m)
    (hg : ∀ j, j < n → g j = f (of + j)) (hf : fr = true → ∀ j, j < m → (f j).free = true) {v : Value} (hv : Rel E (.osl i z of n c) [v]) : Rel E' (.sl z false n g) [v] := by
  obtain ⟨hG, hB⟩ := h.blk i _ hi hl
  have := (CvX.row (S := ⟨[], [(i, some (.arr z m f))], []⟩) (nm := []) (fr := fr) (c := c) rfl (by simp [getH]) hle (by cases fr <;> simp_all) g hg).cv E E' v h.V h.w h.G (fun i hi => by cases hi)
    (fun _ j y hj => by
      simp only [getH] at hj
      by_cases e : i = j
      · subst e; simp at hj; subst hj; exact ⟨hG, hB⟩
      · rw [show Nat.beq i j = false from Bool.eq_false_iff.2 fun h => e (Nat.eq_of_beq_eq_true h)] at hj; simp at hj) (hv.toV rfl)
  exact this.toRel rfl (by simp)

mutual
theorem Shut.rel {η : Nat → Option AV} {live : Nat → Bool} {fr : Bool} {E E' : RE} (h : RE.shut η live fr E E') : ∀ {x y : AV}, Shut η live fr x y → (y = .top → x.one = true) → ∀ cs, Rel E x cs → Rel E' y cs
  | _, _, .refl hf, _, cs, hv => by
    cases fr with
    | false => exact hv.le h.le
    | true => exact Rel.free h.V _ _ (hf rfl).1 hv
  | x, _, .top, ho, cs, hv => by
    have h1 := Rel.length _ _ hv
    have h2 : x.sz = 1 := by have := ho rfl; cases x <;> simp [AV.one] at this <;> rfl
    rw [h2] at h1
    obtain ⟨v, rfl⟩ := List.length_eq_one_iff.1 h1
    simp only [Rel]
    exact ⟨v, rfl, hv.one (ho rfl)⟩
  | _, _, .row hi hl hle hg hf, _, cs, hv => by
    have h1 : ∃ v, cs = [v] := by simp only [Rel] at hv; obtain ⟨_, _, o, _, h1, _⟩ := hv; exact ⟨_, h1⟩
    obtain ⟨v, rfl⟩ := h1
    exact row_shut h hi hl hle hg hf hv
  | _, _, .ptr (i := i) hi hl hs hn ht, _, cs, hv => by
    have h1 : cs = [.pointer (some ⟨E.σ i, 0, none⟩)] := by simp only [Rel] at hv; exact hv.2
    subst h1
    obtain ⟨hG, hB⟩ := h.blk i _ hi hl
    obtain ⟨c, t, fr', cs', rest, e1, e2, e3, -⟩ := hB
    have h2 := Shut.rel h hs ht cs' e3
    simp only [Rel]
    refine ⟨_, rfl, rfl, hG, cs', fun k v hk => ?_, Rel.noN _ _ hn h2⟩
    rw [h.w]
    have : c.toList[k]? = some v := by rw [e2]; exact List.getElem?_append_left (List.getElem?_eq_some_iff.1 hk).1 ▸ hk
    simpa [World.cell?, e1] using this
  | _, _, .agg hl, _, cs, hv => by simp only [Rel] at *; exact ShutL.rel h hl cs hv
  | _, _, .tup hl, _, cs, hv => by simp only [Rel] at hv
  | _, _, .fn hl, _, cs, hv => by
    simp only [Rel] at *
    obtain ⟨vs, h1, h2⟩ := hv
    exact ⟨vs, h1, ShutL.relC h hl _ h2⟩
theorem ShutL.rel {η : Nat → Option AV} {live : Nat → Bool} {fr : Bool} {E E' : RE} (h : RE.shut η live fr E E') : ∀ {l m : List AV}, ShutL η live fr l m → ∀ cs, RelL E l cs → RelL E' m cs
  | _, _, .nil, cs, hv => by simpa only [RelL] using hv
  | _, _, .cons hx ho ht, cs, hv => by
    simp only [RelL] at *
    obtain ⟨c, d, h1, h2, h3⟩ := hv
    exact ⟨c, d, h1, Shut.rel h hx ho c h2, ShutL.rel h ht d h3⟩
theorem ShutL.relC {η : Nat → Option AV} {live : Nat → Bool} {fr : Bool} {E E' : RE} (h : RE.shut η live fr E E') : ∀ {l m : List AV}, ShutL η live fr l m → ∀ cs, RelC E l cs → RelC E' m cs
  | _, _, .nil, cs, hv => by simpa only [RelC] using hv
  | _, _, .cons hx ho ht, cs, hv => by
    simp only [RelC] at *
    obtain ⟨c, d, h1, h2, h3⟩ := hv
    exact ⟨c, d, h1, Shut.rel h hx ho [c] h2, ShutL.relC h ht d h3⟩
end
mutual
theorem Shut.relV {η : Nat → Option AV} {live : Nat → Bool} {fr : Bool} {E E' : RE} (h : RE.shut η live fr E E') : ∀ {x y : AV}, Shut η live fr x y → ∀ v, RelV E x v → RelV E' y v
  | _, _, .refl hf, v, hv => by
    cases fr with
    | false => exact hv.le h.le
    | true => exact RelV.free h.V (hf rfl).1 (hf rfl).2 hv
  | _, _, .top, v, hv => by simp only [RelV]
  | _, _, .row hi hl hle hg hf, v, hv => (row_shut h hi hl hle hg hf (hv.toRel rfl (by simp))).toV rfl
  | _, _, .ptr (i := i) (x := x) (y := y) hi hl hs hn ht, v, hv => by
    have h1 : v = .pointer (some ⟨E.σ i, 0, none⟩) := by simp only [RelV, Rel, List.cons.injEq, and_true] at hv; exact hv.2
    subst h1
    obtain ⟨hG, hB⟩ := h.blk i _ hi hl
    obtain ⟨c, t, fr', cs', rest, e1, e2, e3, -⟩ := hB
    have h2 := Shut.rel h hs ht cs' e3
    simp only [RelV, Rel]
    refine ⟨_, rfl, rfl, hG, cs', fun k v hk => ?_, Rel.noN _ _ hn h2⟩
    rw [h.w]
    have : c.toList[k]? = some v := by rw [e2]; exact List.getElem?_append_left (List.getElem?_eq_some_iff.1 hk).1 ▸ hk
    simpa [World.cell?, e1] using this
  | _, _, .agg hl, v, hv => by simp only [RelV] at *; obtain ⟨cs, h1, h2⟩ := hv; exact ⟨cs, h1, ShutL.rel h hl _ h2⟩
  | _, _, .tup hl, v, hv => by simp only [RelV] at *; obtain ⟨cs, h1, h2⟩ := hv; exact ⟨cs, h1, ShutL.relT h hl _ h2⟩
  | _, _, .fn (f := f) (l := l) (m := m) hl, v, hv => by
    have h1 := hv.toRel (x := .fn f l) rfl (by simp)
    simp only [Rel, RelV] at *
    obtain ⟨vs, h1, h2⟩ := h1
    exact ⟨vs, h1, ShutL.relC h hl _ h2⟩
theorem ShutL.relT {η : Nat → Option AV} {live : Nat → Bool} {fr : Bool} {E E' : RE} (h : RE.shut η live fr E E') : ∀ {l m : List AV}, ShutL η live fr l m → ∀ vs, RelT E l vs → RelT E' m vs
  | _, _, .nil, cs, hv => by simpa only [RelT] using hv
  | _, _, .cons hx ho ht, vs, hv => by
    simp only [RelT] at *
    obtain ⟨c, d, h1, h2, h3⟩ := hv
    exact ⟨c, d, h1, Shut.relV h hx c h2, ShutL.relT h ht d h3⟩
end

theorem imp_shut {C : Ctx} {S S' : St} (hown : ∀ b, C.own0 b → ∃ j, j ∈ C.nm0 ∧ C.σ0 j = b) (hl0 : ∀ j, j ∈ C.nm0 → ∃ x, getH S'.H j = some x) (hnm : S'.nm = S.nm)
    (hF : ∀ t, Shut (getH S.H) (fun i => (getH S'.H i).isSome) false (getF S.F t) (getF S'.F t))
    (hH : ∀ i y, getH S'.H i = some y → ∃ x, getH S.H i = some x ∧ Shut (getH S.H) (fun i => (getH S'.H i).isSome) false x y ∧ (y = .top → x.one = true)) : S.imp C S' := by
  rintro a w ⟨σ, hc⟩
  have hG : ∀ b, C.G S.H w σ b → C.G S'.H w σ b := fun b hb => by
    rcases hb with hb | ⟨h1, h2, h3⟩
    · exact .inl hb
    · exact .inr ⟨h1, h2, fun i x hi => by obtain ⟨y, hy, -⟩ := hH i x hi; exact h3 i _ hy⟩
  have hsh : RE.shut (getH S.H) (fun i => (getH S'.H i).isSome) false (C.RE S w σ) (C.RE S' w σ) := by
    refine ⟨rfl, rfl, fun _ _ _ => rfl, fun _ i hi => by simp only [Ctx.RE] at *; rw [hnm]; exact hi, fun _ => hG, fun i x hi hl => ?_⟩
    obtain ⟨h1, h2, h3, h4⟩ := hc.blk i x hi
    refine ⟨.inr ⟨?_, h4.lt, fun j y hj e => ?_⟩, h4⟩
    · rcases h3 with h3 | h3
      · exfalso
        obtain ⟨j, hj, e⟩ := hown _ h3
        obtain ⟨y, hy⟩ := hl0 j hj
        obtain ⟨x', hx', -⟩ := hH j y hy
        have := hc.inj j i x' x hx' hi (by rw [(hc.σ0 j hj).1]; exact e)
        subst this
        simp [hy] at hl
      · exact h3
    · obtain ⟨x', hx', -⟩ := hH j y hj
      have := hc.inj j i x' x hx' hi e
      subst this
      simp [hj] at hl
  refine ⟨σ, hc.ok, hc.defers, hc.size, hc.kept, fun i hi => ⟨(hc.σ0 i hi).1, by rw [hnm]; exact (hc.σ0 i hi).2⟩, fun i j x y hi hj he => ?_, fun i y hi => ?_, hc.env.le hsh.le, fun t => Shut.relV hsh (hF t) _ (hc.slot t)⟩
  · obtain ⟨x', hx', -⟩ := hH i x hi
    obtain ⟨y', hy', -⟩ := hH j y hj
    exact hc.inj i j x' y' hx' hy' he
  · obtain ⟨x, hx, hs, ho⟩ := hH i y hi
    obtain ⟨h1, h2, h3, c, t, fr, cs, rest, k4, k5, k6, k7⟩ := hc.blk i x hx
    exact ⟨by rw [hnm]; exact h1, h2, h3, c, t, fr, cs, rest, k4, k5, Shut.rel hsh hs ho _ k6, k7⟩

/-! ### The forms in which a program prints them -/
def keyIn {α : Type} (L : List (Nat × α)) (t : Nat) : Bool := L.any fun p => Nat.beq p.1 t
theorem keyIn_cons {α : Type} (p : Nat × α) (L : List (Nat × α)) (t : Nat) : keyIn (p :: L) t = (Nat.beq p.1 t || keyIn L t) := by simp [keyIn]
theorem getF_append (A B : List (Nat × AV)) (t : Nat) : getF (A ++ B) t = if keyIn A t then getF A t else getF B t := by
  induction A with
  | nil => simp [keyIn]
  | cons p A ih =>
    obtain ⟨d, v⟩ := p
    rw [List.cons_append, getF_cons, ih, keyIn_cons, getF_cons]
    by_cases e : d = t
    · simp [e, Nat.beq_refl]
    · have : Nat.beq d t = false := Bool.eq_false_iff.2 fun h => e (Nat.eq_of_beq_eq_true h)
      simp [e, this]
theorem getH_append' (A B : List (Nat × Option AV)) (t : Nat) : getH (A ++ B) t = if keyIn A t then getH A t else getH B t := by
  induction A with
  | nil => simp [keyIn]
  | cons p A ih =>
    obtain ⟨d, v⟩ := p
    rw [List.cons_append, getH_cons, ih, keyIn_cons, getH_cons]
    by_cases e : d = t
    · simp [e, Nat.beq_refl]
    · have : Nat.beq d t = false := Bool.eq_false_iff.2 fun h => e (Nat.eq_of_beq_eq_true h)
      simp [e, this]
theorem getF_in {L : List (Nat × AV)} {t : Nat} (h : keyIn L t = true) : (t, getF L t) ∈ L := by
  induction L with
  | nil => simp [keyIn] at h
  | cons p L ih =>
    obtain ⟨d, v⟩ := p
    rw [getF_cons]
    by_cases e : d = t
    · simp [e]
    · have e' : Nat.beq d t = false := Bool.eq_false_iff.2 fun h => e (Nat.eq_of_beq_eq_true h)
      rw [keyIn_cons, e', Bool.false_or] at h
      rw [if_neg e]; exact List.mem_cons_of_mem _ (ih h)
theorem getH_in {L : List (Nat × Option AV)} {t : Nat} (h : keyIn L t = true) : (t, getH L t) ∈ L := by
  induction L with
  | nil => simp [keyIn] at h
  | cons p L ih =>
    obtain ⟨d, v⟩ := p
    rw [getH_cons]
    by_cases e : d = t
    · simp [e]
    · have e' : Nat.beq d t = false := Bool.eq_false_iff.2 fun h => e (Nat.eq_of_beq_eq_true h)
      rw [keyIn_cons, e', Bool.false_or] at h
      rw [if_neg e]; exact List.mem_cons_of_mem _ (ih h)
theorem getF_key {L : List (Nat × AV)} {t : Nat} (h : keyIn L t = false) : getF L t = .top := by
  induction L with
  | nil => rfl
  | cons p L ih =>
    obtain ⟨d, v⟩ := p
    rw [keyIn_cons, Bool.or_eq_false_iff] at h
    rw [getF_cons, if_neg (fun e => by rw [e, Nat.beq_refl] at h; cases h.1)]; exact ih h.2
theorem getH_key {L : List (Nat × Option AV)} {t : Nat} (h : keyIn L t = false) : getH L t = none := by
  induction L with
  | nil => rfl
  | cons p L ih =>
    obtain ⟨d, v⟩ := p
    rw [keyIn_cons, Bool.or_eq_false_iff] at h
    rw [getH_cons, if_neg (fun e => by rw [e, Nat.beq_refl] at h; cases h.1)]; exact ih h.2

theorem WkC.arr {z n : Nat} {f g : Nat → AV} (h : ∀ j, j < n → f j = g j) : WkC (.arr z n f) (.arr z n g) := fun _ _ hv => hv.arr_congr h
theorem WkC.sl {z n : Nat} {b : Bool} {f g : Nat → AV} (h : ∀ j, j < n → f j = g j) : WkC (.sl z b n f) (.sl z b n g) := fun E cs hv => by
  simp only [Rel] at *
  obtain ⟨a, cap, h1, h2, h3, h4, h5⟩ := hv
  refine ⟨a, cap, h1, h2, h3, h4, fun b hb => ⟨(h5 b hb).1, (h5 b hb).2.1, fun j hj => ?_⟩⟩
  obtain ⟨ds, k1, k2, k3⟩ := (h5 b hb).2.2 j hj
  exact ⟨ds, k1, k2, by rw [← h j hj]; exact k3⟩
theorem WkV.sl {z n : Nat} {b : Bool} {f g : Nat → AV} (h : ∀ j, j < n → f j = g j) : WkV (.sl z b n f) (.sl z b n g) := fun E v hv => by
  simp only [RelV] at *; exact WkC.sl h _ _ hv

mutual
/-- The same, but for what lies behind a row's end. -/
inductive Wk : AV → AV → Prop
  | refl {x : AV} : Wk x x
  | sl {z n : Nat} {b : Bool} {f g : Nat → AV} (h : ∀ j, j < n → f j = g j) : Wk (.sl z b n f) (.sl z b n g)
  | sl0 {z z' : Nat} {b : Bool} {f g : Nat → AV} : Wk (.sl z b 0 f) (.sl z' b 0 g)
  | slw {z n : Nat} {b : Bool} {f g : Nat → AV} (h : ∀ j, j < n → Wk (f j) (g j)) : Wk (.sl z b n f) (.sl z b n g)
  | arr {z n : Nat} {f g : Nat → AV} (h : ∀ j, j < n → f j = g j) : Wk (.arr z n f) (.arr z n g)
  | agg {l m : List AV} (h : WkL l m) : Wk (.agg l) (.agg m)
  | tup {l m : List AV} (h : WkL l m) : Wk (.tup l) (.tup m)
inductive WkL : List AV → List AV → Prop
  | nil : WkL [] []
  | cons {x y : AV} {l m : List AV} (h : Wk x y) (t : WkL l m) : WkL (x :: l) (y :: m)
end
mutual
theorem Wk.c : ∀ {x y : AV}, Wk x y → ∀ (E : RE) (cs : List Value), Rel E x cs → Rel E y cs
  | _, _, .refl, _, _, hv => hv
  | _, _, .sl h, E, cs, hv => WkC.sl h E cs hv
  | _, _, .sl0, E, cs, hv => by
    simp only [Rel] at *
    obtain ⟨a, cap, h1, h2, h3, h4, h5⟩ := hv
    exact ⟨a, cap, h1, h2, h3, h4, fun b hb => ⟨(h5 b hb).1, (h5 b hb).2.1, fun j hj => absurd hj (by omega)⟩⟩
  | _, _, .slw h, E, cs, hv => by
    simp only [Rel] at *
    obtain ⟨a, cap, h1, h2, h3, h4, h5⟩ := hv
    refine ⟨a, cap, h1, h2, h3, h4, fun b hb => ⟨(h5 b hb).1, (h5 b hb).2.1, fun j hj => ?_⟩⟩
    obtain ⟨ds, k1, k2, k3⟩ := (h5 b hb).2.2 j hj
    exact ⟨ds, k1, k2, Wk.c (h j hj) _ _ k3⟩
  | _, _, .arr h, E, cs, hv => WkC.arr h E cs hv
  | _, _, .agg h, E, cs, hv => by simp only [Rel] at *; exact WkL.c h E cs hv
  | _, _, .tup h, E, cs, hv => by simp only [Rel] at hv
theorem WkL.c : ∀ {l m : List AV}, WkL l m → ∀ (E : RE) (cs : List Value), RelL E l cs → RelL E m cs
  | _, _, .nil, _, _, hv => hv
  | _, _, .cons h t, E, cs, hv => by
    simp only [RelL] at *
    obtain ⟨c, d, h1, h2, h3⟩ := hv
    exact ⟨c, d, h1, Wk.c h E c h2, WkL.c t E d h3⟩
end
mutual
theorem Wk.v : ∀ {x y : AV}, Wk x y → WkV x y
  | _, _, .refl => WkV.refl _
  | _, _, .sl h => fun E v hv => by simp only [RelV] at *; exact Wk.c (.sl h) _ _ hv
  | _, _, .sl0 (z := z) (z' := z') (b := b) (f := f) (g := g) => fun E v hv => by
    simp only [RelV] at *; exact Wk.c .sl0 _ _ hv
  | _, _, .slw h => fun E v hv => by simp only [RelV] at *; exact Wk.c (.slw h) _ _ hv
  | _, _, .arr h => fun E v hv => by
    simp only [RelV] at *
    obtain ⟨cs, h1, h2⟩ := hv
    exact ⟨cs, h1, Wk.c (.arr h) _ _ h2⟩
  | _, _, .agg h => fun E v hv => by
    simp only [RelV] at *
    obtain ⟨cs, h1, h2⟩ := hv
    exact ⟨cs, h1, WkL.c h _ _ h2⟩
  | _, _, .tup h => fun E v hv => by
    simp only [RelV] at *
    obtain ⟨vs, h1, h2⟩ := hv
    exact ⟨vs, h1, WkL.t h _ _ h2⟩
theorem WkL.t : ∀ {l m : List AV}, WkL l m → ∀ (E : RE) (vs : List Value), RelT E l vs → RelT E m vs
  | _, _, .nil, _, _, hv => hv
  | _, _, .cons h t, E, vs, hv => by
    simp only [RelT] at *
    obtain ⟨c, d, h1, h2, h3⟩ := hv
    exact ⟨c, d, h1, Wk.v h E c h2, WkL.t t E d h3⟩
end
theorem Wk.of {x y : AV} (h : x = y) : Wk x y := h ▸ .refl

def ap (rl : List (Nat × Nat)) (i : Nat) : Nat := match rl with
  | [] => i
  | (a, b) :: l => bif Nat.beq a i then b else ap l i

theorem ap_id {rl : List (Nat × Nat)} {i : Nat} (h : keyIn rl i = false) : ap rl i = i := by
  induction rl with
  | nil => rfl
  | cons p l ih =>
    obtain ⟨a, b⟩ := p
    rw [keyIn_cons, Bool.or_eq_false_iff] at h
    have h1 : Nat.beq a i = false := h.1
    simp only [ap, h1, cond_false]; exact ih h.2

mutual
theorem AV.ren_id {r : Nat → Nat} {nm : List Nat} (hr : ∀ i, i ∈ nm → r i = i) : ∀ x : AV, x.inB nm = true → x.ren r = x
  | .ptr i _ _, h => by simp only [AV.inB, List.contains_eq_mem, decide_eq_true_eq] at h; simp only [AV.ren, hr i h]
  | .osl i _ _ _ _, h => by simp only [AV.inB, List.contains_eq_mem, decide_eq_true_eq] at h; simp only [AV.ren, hr i h]
  | .agg l, h => by simp only [AV.inB] at h; simp only [AV.ren, AV.renL_id hr l h]
  | .tup l, h => by simp only [AV.inB] at h; simp only [AV.ren, AV.renL_id hr l h]
  | .fn _ l, h => by simp only [AV.inB] at h; simp only [AV.ren, AV.renL_id hr l h]
  | .gd _ x, h => by simp only [AV.inB] at h; simp only [AV.ren, AV.ren_id hr x h]
  | .top, _ | .bool _, _ | .int _ _, _ | .str _, _ | .val _, _ | .err _, _ | .sl _ _ _ _, _ | .fptr _, _ | .arr _ _ _, _ => by simp only [AV.ren]
theorem AV.renL_id {r : Nat → Nat} {nm : List Nat} (hr : ∀ i, i ∈ nm → r i = i) : ∀ l : List AV, AV.inBL nm l = true → AV.renL r l = l
  | [], _ => rfl
  | x :: l, h => by simp only [AV.inBL, Bool.and_eq_true] at h; simp only [AV.renL, AV.ren_id hr x h.1, AV.renL_id hr l h.2]
end
mutual
theorem AV.inB_mono {nm nm' : List Nat} (hr : ∀ i, i ∈ nm → i ∈ nm') : ∀ x : AV, x.inB nm = true → x.inB nm' = true
  | .ptr i _ _, h => by simp only [AV.inB, List.contains_eq_mem, decide_eq_true_eq] at *; exact hr i h
  | .osl i _ _ _ _, h => by simp only [AV.inB, List.contains_eq_mem, decide_eq_true_eq] at *; exact hr i h
  | .agg l, h => by simp only [AV.inB] at *; exact AV.inBL_mono hr l h
  | .tup l, h => by simp only [AV.inB] at *; exact AV.inBL_mono hr l h
  | .fn _ l, h => by simp only [AV.inB] at *; exact AV.inBL_mono hr l h
  | .gd _ x, h => by simp only [AV.inB] at *; exact AV.inB_mono hr x h
  | .top, _ | .bool _, _ | .int _ _, _ | .str _, _ | .val _, _ | .err _, _ | .sl _ _ _ _, _ | .fptr _, _ | .arr _ _ _, _ => by simp only [AV.inB]
theorem AV.inBL_mono {nm nm' : List Nat} (hr : ∀ i, i ∈ nm → i ∈ nm') : ∀ l : List AV, AV.inBL nm l = true → AV.inBL nm' l = true
  | [], _ => rfl
  | x :: l, h => by simp only [AV.inBL, Bool.and_eq_true] at *; exact ⟨AV.inB_mono hr x h.1, AV.inBL_mono hr l h.2⟩
end

def OverF (rl : List (Nat × Nat)) (nm : List Nat) (FS : List (Nat × AV)) : List (Nat × AV) → Prop
  | [] => True
  | (t, v) :: l => (v = .top ∨ (v.inB nm = true ∧ WkV (getF FS t) (v.ren (ap rl)))) ∧ OverF rl nm FS l
def OverH (rl : List (Nat × Nat)) (nm : List Nat) (HS : List (Nat × Option AV)) : List (Nat × Option AV) → Prop
  | [] => True
  | (_, none) :: l => OverH rl nm HS l
  | (i, some x) :: l => (nm.contains i = true ∧ x.inB nm = true ∧ ∃ y, getH HS (ap rl i) = some y ∧ WkC y (x.ren (ap rl))) ∧ OverH rl nm HS l

theorem OverF.mem {rl : List (Nat × Nat)} {nm : List Nat} {FS : List (Nat × AV)} : ∀ {L : List (Nat × AV)}, OverF rl nm FS L → ∀ t v, (t, v) ∈ L → v = .top ∨ (v.inB nm = true ∧ WkV (getF FS t) (v.ren (ap rl)))
  | (t0, v0) :: L, h, t, v, hm => by
    simp only [OverF] at h
    rcases List.mem_cons.1 hm with e | e
    · simp only [Prod.mk.injEq] at e; obtain ⟨rfl, rfl⟩ := e; exact h.1
    · exact OverF.mem h.2 t v e
theorem OverH.mem {rl : List (Nat × Nat)} {nm : List Nat} {HS : List (Nat × Option AV)} : ∀ {L : List (Nat × Option AV)}, OverH rl nm HS L → ∀ i x, (i, some x) ∈ L → nm.contains i = true ∧ x.inB nm = true ∧ ∃ y, getH HS (ap rl i) = some y ∧ WkC y (x.ren (ap rl))
  | (t0, none) :: L, h, t, v, hm => by
    simp only [OverH] at h
    rcases List.mem_cons.1 hm with e | e
    · simp at e
    · exact OverH.mem h t v e
  | (t0, some v0) :: L, h, t, v, hm => by
    simp only [OverH] at h
    rcases List.mem_cons.1 hm with e | e
    · simp only [Prod.mk.injEq, Option.some.injEq] at e; obtain ⟨rfl, rfl⟩ := e; exact h.1
    · exact OverH.mem h.2 t v e

/-- The closed checks. -/
def impB (rl : List (Nat × Nat)) (nm nm0 : List Nat) (A F L : List (Nat × AV)) (B H M : List (Nat × Option AV)) : Bool :=
  let nb := nm.filter fun i => !keyIn rl i
  (A.all fun p => keyIn L p.1) && (F.all fun p => keyIn L p.1 || (getF F p.1).inB nb) &&
  (B.all fun p => keyIn M p.1 || (getH H p.1).isNone) && (H.all fun p => keyIn M p.1 || (match getH H p.1 with | some x => nb.contains p.1 && x.inB nb | none => true)) &&
  ((M ++ H).all fun p => (getH (M ++ H) p.1).isNone || (M ++ H).all fun q => (getH (M ++ H) q.1).isNone || (!(Nat.beq (ap rl p.1) (ap rl q.1)) || Nat.beq p.1 q.1)) &&
  (nm0.all fun i => nb.contains i)

theorem keyIn_getH {L : List (Nat × Option AV)} {i : Nat} {x : AV} (h : getH L i = some x) : keyIn L i = true := by
  cases hk : keyIn L i with
  | true => rfl
  | false => rw [getH_key hk] at h; cases h
theorem keyIn_mem {α : Type} {L : List (Nat × α)} {i : Nat} (h : keyIn L i = true) : ∃ v, (i, v) ∈ L := by
  obtain ⟨p, hp, he⟩ := List.any_eq_true.1 h
  have := Nat.eq_of_beq_eq_true he
  exact ⟨p.2, by rw [← this]; exact hp⟩

theorem imp_over {C : Ctx} {FS F : List (Nat × AV)} {HS H : List (Nat × Option AV)} {ns : List Nat} {L : List (Nat × AV)} {M : List (Nat × Option AV)} {nm : List Nat} (rl : List (Nat × Nat))
    (h1 : FS.drop (FS.length - F.length) = F) (h2 : HS.drop (HS.length - H.length) = H)
    (hb : impB rl nm C.nm0 (FS.take (FS.length - F.length)) F L (HS.take (HS.length - H.length)) H M = true) (hF : OverF rl nm FS L) (hH : OverH rl nm HS M) : St.imp C ⟨FS, HS, ns⟩ ⟨L ++ F, M ++ H, nm⟩ := by
  generalize hA : FS.take (FS.length - F.length) = A at hb
  generalize hB : HS.take (HS.length - H.length) = B at hb
  have eF : FS = A ++ F := by rw [← hA]; conv => lhs; rw [← List.take_append_drop (FS.length - F.length) FS, h1]
  have eH : HS = B ++ H := by rw [← hB]; conv => lhs; rw [← List.take_append_drop (HS.length - H.length) HS, h2]
  subst eF; subst eH
  clear h1 h2 hA hB
  simp only [impB, Bool.and_eq_true] at hb
  obtain ⟨⟨⟨⟨⟨b1, b2⟩, b3⟩, b4⟩, b5⟩, b6⟩ := hb
  have hid : ∀ i, i ∈ nm.filter (fun i => !keyIn rl i) → ap rl i = i := fun i hi => ap_id (by simpa using (List.mem_filter.1 hi).2)
  have hsub : ∀ i, i ∈ nm.filter (fun i => !keyIn rl i) → i ∈ nm := fun i hi => (List.mem_filter.1 hi).1
  refine imp_of (ap rl) (fun t => ?_) (fun i x hi => ?_) (fun i j x y hi hj he => ?_) (fun i hi => ?_)
  · show getF (L ++ F) t = .top ∨ ((getF (L ++ F) t).inB nm = true ∧ WkV (getF (A ++ F) t) ((getF (L ++ F) t).ren (ap rl)))
    rw [getF_append L F]
    cases hk : keyIn L t with
    | true => simpa using hF.mem _ _ (getF_in hk)
    | false =>
      simp only [Bool.false_eq_true, if_false]
      cases hkF : keyIn F t with
      | false => exact .inl (getF_key hkF)
      | true =>
        right
        obtain ⟨v, hv⟩ := keyIn_mem hkF
        have h3 := List.all_eq_true.1 b2 _ hv
        simp only [hk, Bool.false_or] at h3
        refine ⟨AV.inB_mono hsub _ h3, ?_⟩
        rw [AV.ren_id hid _ h3, getF_append, if_neg]
        · exact WkV.refl _
        · intro hkA
          obtain ⟨u, hu⟩ := keyIn_mem hkA
          have := List.all_eq_true.1 b1 _ hu
          simp only at this
          rw [hk] at this; cases this
  · show i ∈ nm ∧ x.inB nm = true ∧ ∃ y, getH (B ++ H) (ap rl i) = some y ∧ WkC y (x.ren (ap rl))
    have hi' : getH (M ++ H) i = some x := hi
    rw [getH_append'] at hi'
    cases hk : keyIn M i with
    | true =>
      rw [if_pos hk] at hi'
      have := getH_in hk
      rw [hi'] at this
      obtain ⟨h3, h4, h5⟩ := hH.mem _ _ this
      exact ⟨by simpa using h3, h4, h5⟩
    | false =>
      simp only [hk, Bool.false_eq_true, if_false] at hi'
      obtain ⟨v, hv⟩ := keyIn_mem (keyIn_getH hi')
      have h3 := List.all_eq_true.1 b4 _ hv
      simp only [hk, Bool.false_or, hi', Bool.and_eq_true] at h3
      have h4 : i ∈ nm.filter fun i => !keyIn rl i := by simpa using h3.1
      refine ⟨hsub _ h4, AV.inB_mono hsub _ h3.2, x, ?_, ?_⟩
      · rw [hid i h4, getH_append', if_neg, hi']
        intro hkB
        obtain ⟨u, hu⟩ := keyIn_mem hkB
        have := List.all_eq_true.1 b3 _ hu
        simp only [hk, hi', Bool.false_or, Option.isNone_some] at this
        cases this
      · rw [AV.ren_id hid _ h3.2]; exact WkC.refl _
  · have hi' : getH (M ++ H) i = some x := hi
    have hj' : getH (M ++ H) j = some y := hj
    obtain ⟨u, hu⟩ := keyIn_mem (keyIn_getH hi')
    obtain ⟨v, hv⟩ := keyIn_mem (keyIn_getH hj')
    have h3 := List.all_eq_true.1 b5 _ hu
    simp only [hi', Option.isNone_some, Bool.false_or] at h3
    have h4 := List.all_eq_true.1 h3 _ hv
    simp only [hj', Option.isNone_some, Bool.false_or, he, Nat.beq_refl, Bool.not_true] at h4
    exact Nat.eq_of_beq_eq_true h4
  · have h3 := List.all_eq_true.1 b6 i hi
    have h4 : i ∈ nm.filter fun i => !keyIn rl i := by simpa using h3
    exact ⟨hsub _ h4, hid _ h4⟩
end Go.Fy
