/- The engine, 1: abstract values and what they say of Go's values in memory (my own text; any program). -/
import Derived.RowKit3
import Derived.Laws.Cells
import Derived.Below
import Derived.RangeFuncFrom
import Derived.RangeFuncLeaves
namespace Go.Fy
open Go.RowKit

/-- An error as this program makes them: nil, a sentinel (by its number), an error with a place. -/
inductive ErrD where
  | nil
  | code (c : Nat)
  | at (p : Int) (e : ErrD)
  deriving DecidableEq

/-- Abstract values. -/
inductive AV where
  | top
  | bool (b : Bool)
  | int (k : IntKind) (n : Int)
  | str (s : List UInt8)
  | val (v : Value)
  | err (e : ErrD)
  | sl (esz : Nat) (nn : Bool) (n : Nat) (f : Nat → AV)
  | fptr (x : AV)
  | ptr (i : Nat) (p : List Nat) (off : Nat)
  | osl (i : Nat) (esz off len cap : Nat)
  | agg (l : List AV)
  | arr (esz n : Nat) (f : Nat → AV)
  | tup (l : List AV)
  | fn (f : FuncId) (caps : List AV)
  | gd (g : Bool) (x : AV)

/-- What a family of proofs speaks of: the program, where the sentinels lie, the types of errors, the globals. -/
structure Env where
  P : Program
  eaddr : Nat → Addr
  tSent : TypeId
  tAt : TypeId
  codes : List Nat
  glob : Nat → Option AV

/-- What a relation hangs on: memory, where the own blocks lie, which names are in use, which blocks stay as they are. -/
structure RE where
  V : Env
  w : World
  σ : Nat → Nat
  nm : List Nat
  G : Nat → Prop

/-- The same, no name in use: what lies in frozen memory, or in an array, names no own block. -/
def RE.bare (E : RE) : RE := { E with nm := [] }

def Holds (w : World) (a : Addr) (o : Nat) (ds : List Value) : Prop :=
  ∀ k v, ds[k]? = some v → w.cell? ⟨a.block, a.off + (o + k), none⟩ = some v

def ErrRel (E : RE) : ErrD → Value → Prop
  | .nil, v => v = .nilIface
  | .code c, v => v = .iface E.V.tSent (.pointer (some (E.V.eaddr c)))
  | .at p e, v => ∃ b o u, v = .iface E.V.tAt (.pointer (some ⟨b, o, none⟩)) ∧ E.G b ∧ E.w.cell? ⟨b, o, none⟩ = some (.int .i64 p) ∧
      E.w.cell? ⟨b, o + 1, none⟩ = some u ∧ ErrRel E e u

mutual
/-- The cells that lay such a value. -/
def Rel (E : RE) : AV → List Value → Prop
  | .bool b, cs => cs = [.bool b]
  | .int k n, cs => cs = [.int k n]
  | .str s, cs => cs = [.string ⟨s.toArray⟩]
  | .val v, cs => cs = [v] ∧ v.oneCell' = true
  | .err e, cs => ∃ v, cs = [v] ∧ ErrRel E e v
  | .sl esz nn n f, cs => ∃ a cap, cs = [.slice a n cap] ∧ n ≤ cap ∧ nn = a.isNone ∧ (a = none → n = 0 ∧ cap = 0) ∧
      ∀ b, a = some b → (0 < n → b.spot = none) ∧ (0 < n → E.G b.block) ∧ ∀ j, j < n → ∃ ds, ds.length = esz ∧ Holds E.w b (j * esz) ds ∧ Rel E.bare (f j) ds
  | .fptr x, cs => ∃ b, cs = [.pointer (some b)] ∧ b.spot = none ∧ E.G b.block ∧ ∃ ds, Holds E.w b 0 ds ∧ Rel E.bare x ds
  | .ptr i _ off, cs => i ∈ E.nm ∧ cs = [.pointer (some ⟨E.σ i, off, none⟩)]
  | .osl i esz off len cap, cs => i ∈ E.nm ∧ len ≤ cap ∧ ∃ o cap', cs = [.slice (some ⟨E.σ i, o, none⟩) len cap'] ∧ cap ≤ cap' ∧ (0 < cap' → o = off * esz) ∧
      ∃ (c : Array Value) (t : TypeId) (fr : Nat × Nat), E.w.heap[E.σ i]? = some (.cells c t fr) ∧ (off + cap') * esz ≤ c.size
  | .agg l, cs => RelL E l cs
  | .arr esz n f, cs => cs.length = n * esz ∧ ∀ j, j < n → Rel E.bare (f j) ((cs.drop (j * esz)).take esz) ∧ ((cs.drop (j * esz)).take esz).length = esz
  | .fn f caps, cs => ∃ vs, cs = [.func (.func f) #[] vs] ∧ RelC E caps vs.toList
  | .top, cs => ∃ v, cs = [v] ∧ v.oneCell' = true
  | .tup _, _ => False
  | .gd _ _, _ => False
/-- Behind one another. -/
def RelL (E : RE) : List AV → List Value → Prop
  | [], cs => cs = []
  | x :: l, cs => ∃ c d, cs = c ++ d ∧ Rel E x c ∧ RelL E l d
/-- One cell each. -/
def RelC (E : RE) : List AV → List Value → Prop
  | [], cs => cs = []
  | x :: l, cs => ∃ c d, cs = c :: d ∧ Rel E x [c] ∧ RelC E l d
end

mutual
/-- A value of a slot. -/
def RelV (E : RE) : AV → Value → Prop
  | .top, _ => True
  | .gd g x, v => (g = true → RelV E x v) ∧ (g = false → v = undef)
  | .tup l, v => ∃ vs, v = .tuple vs ∧ RelT E l vs.toList
  | .agg l, v => ∃ cs : Array Value, v = .agg cs ∧ RelL E l cs.toList
  | .arr e n f, v => ∃ cs : Array Value, v = .agg cs ∧ Rel E (.arr e n f) cs.toList
  | .bool b, v => v = .bool b
  | .int k n, v => v = .int k n
  | .str s, v => Rel E (.str s) [v]
  | .val u, v => Rel E (.val u) [v]
  | .err e, v => ErrRel E e v
  | .sl a b c d, v => Rel E (.sl a b c d) [v]
  | .fptr x, v => Rel E (.fptr x) [v]
  | .ptr i p o, v => Rel E (.ptr i p o) [v]
  | .osl i e a b c, v => Rel E (.osl i e a b c) [v]
  | .fn f c, v => Rel E (.fn f c) [v]
def RelT (E : RE) : List AV → List Value → Prop
  | [], vs => vs = []
  | x :: l, vs => ∃ c d, vs = c :: d ∧ RelV E x c ∧ RelT E l d
end

/-- What must hold between two places for all relations to go on. -/
structure RE.le (E E' : RE) : Prop where
  V : E'.V = E.V
  σ : ∀ i, i ∈ E.nm → E'.σ i = E.σ i
  nm : ∀ i, i ∈ E.nm → i ∈ E'.nm
  G : ∀ b, E.G b → E'.G b
  old : ∀ b, E.G b → ∀ o v, E.w.cell? ⟨b, o, none⟩ = some v → E'.w.cell? ⟨b, o, none⟩ = some v
  size : ∀ (b : Nat) (c : Array Value) (t : TypeId) (fr : Nat × Nat), E.w.heap[b]? = some (.cells c t fr) → ∃ (c' : Array Value) (t' : TypeId) (fr' : Nat × Nat), E'.w.heap[b]? = some (.cells c' t' fr') ∧ (c.size, fr) = (c'.size, fr')

theorem RE.le.refl (E : RE) : E.le E := ⟨rfl, fun _ _ => rfl, fun _ h => h, fun _ h => h, fun _ _ _ _ h => h, fun _ c t fr h => ⟨c, t, fr, h, rfl⟩⟩
theorem RE.le.trans {A B C : RE} (h : A.le B) (k : B.le C) : A.le C :=
  ⟨k.V.trans h.V, fun i hi => (k.σ i (h.nm i hi)).trans (h.σ i hi), fun i hi => k.nm i (h.nm i hi), fun b hb => k.G b (h.G b hb),
    fun b hb o v hv => k.old b (h.G b hb) o v (h.old b hb o v hv), fun b c t fr hb => by
      obtain ⟨c', t', fr', h1, h2⟩ := h.size b c t fr hb
      obtain ⟨c'', t'', fr'', h3, h4⟩ := k.size b c' t' fr' h1
      exact ⟨c'', t'', fr'', h3, h2.trans h4⟩⟩

theorem RE.le.bare {E E' : RE} (h : E.le E') : E.bare.le E'.bare := ⟨h.V, (fun _ hi => by simp [RE.bare] at hi), (fun _ hi => by simp [RE.bare] at hi), h.G, h.old, h.size⟩
theorem RE.bare_le (E : RE) : E.bare.le E := ⟨rfl, (fun _ hi => by simp [RE.bare] at hi), (fun _ hi => by simp [RE.bare] at hi), fun _ h => h, fun _ _ _ _ h => h, fun _ c t fr h => ⟨c, t, fr, h, rfl⟩⟩

theorem cell_of_block {w w' : World} {b : Nat} (h : w'.heap[b]? = w.heap[b]?) (o : Nat) (s : Option Nat) : w'.cell? ⟨b, o, s⟩ = w.cell? ⟨b, o, s⟩ := by
  simp only [World.cell?, h]

theorem Holds.le {w w' : World} {a : Addr} {o : Nat} {ds : List Value} (h : Holds w a o ds) (hb : ∀ o v, w.cell? ⟨a.block, o, none⟩ = some v → w'.cell? ⟨a.block, o, none⟩ = some v) : Holds w' a o ds :=
  fun k v hk => hb _ _ (h k v hk)

theorem ErrRel.le {E E' : RE} (h : E.le E') : ∀ (e : ErrD) (v : Value), ErrRel E e v → ErrRel E' e v
  | .nil, _, hv => hv
  | .code c, v, hv => by simp only [ErrRel] at *; rw [h.V]; exact hv
  | .at p e, v, hv => by
    simp only [ErrRel] at *
    obtain ⟨b, o, u, h1, h2, h3, h4, h5⟩ := hv
    exact ⟨b, o, u, by rw [h.V]; exact h1, h.G b h2, h.old b h2 _ _ h3, h.old b h2 _ _ h4, ErrRel.le h e u h5⟩

mutual
theorem Rel.le {E E' : RE} (h : E.le E') : ∀ (x : AV) (cs : List Value), Rel E x cs → Rel E' x cs
  | .bool _, _, hv => by simp only [Rel] at *; exact hv
  | .int _ _, _, hv => by simp only [Rel] at *; exact hv
  | .str _, _, hv => by simp only [Rel] at *; exact hv
  | .val _, _, hv => by simp only [Rel] at *; exact hv
  | .top, _, hv => by simp only [Rel] at *; exact hv
  | .tup _, _, hv => by simp only [Rel] at *
  | .gd _ _, _, hv => by simp only [Rel] at *
  | .err e, cs, hv => by
    simp only [Rel] at *
    obtain ⟨v, h1, h2⟩ := hv
    exact ⟨v, h1, h2.le h⟩
  | .sl esz nn n f, cs, hv => by
    simp only [Rel] at *
    obtain ⟨a, cap, h1, h2, h3, h4, h5⟩ := hv
    refine ⟨a, cap, h1, h2, h3, h4, fun b hb => ?_⟩
    obtain ⟨h6, h7, h8⟩ := h5 b hb
    refine ⟨h6, fun hn => h.G _ (h7 hn), fun j hj => ?_⟩
    obtain ⟨ds, h9, h10, h11⟩ := h8 j hj
    exact ⟨ds, h9, h10.le (h.old _ (h7 (by omega))), Rel.le h.bare (f j) ds h11⟩
  | .fptr x, cs, hv => by
    simp only [Rel] at *
    obtain ⟨b, h1, h2, h3, ds, h4, h5⟩ := hv
    exact ⟨b, h1, h2, h.G _ h3, ds, h4.le (h.old _ h3), Rel.le h.bare x ds h5⟩
  | .ptr i p off, cs, hv => by
    simp only [Rel] at *
    exact ⟨h.nm i hv.1, by rw [h.σ i hv.1]; exact hv.2⟩
  | .osl i esz off len cap, cs, hv => by
    simp only [Rel] at *
    obtain ⟨h1, h2, o, cap', h3, hcc, h4, c, t, fr, h5, h6⟩ := hv
    obtain ⟨c', t', fr', h7, h8⟩ := h.size _ c t fr h5
    refine ⟨h.nm i h1, h2, o, cap', by rw [h.σ i h1]; exact h3, hcc, h4, c', t', fr', by rw [h.σ i h1]; exact h7, by have e8 := congrArg Prod.fst h8; dsimp only at e8; omega⟩
  | .agg l, cs, hv => by simp only [Rel] at *; exact RelL.le h l cs hv
  | .arr esz n f, cs, hv => by
    simp only [Rel] at *
    exact ⟨hv.1, fun j hj => ⟨Rel.le h.bare (f j) _ (hv.2 j hj).1, (hv.2 j hj).2⟩⟩
  | .fn f caps, cs, hv => by
    simp only [Rel] at *
    obtain ⟨vs, h1, h2⟩ := hv
    exact ⟨vs, h1, RelC.le h caps _ h2⟩
theorem RelL.le {E E' : RE} (h : E.le E') : ∀ (l : List AV) (cs : List Value), RelL E l cs → RelL E' l cs
  | [], cs, hv => by simp only [RelL] at *; exact hv
  | x :: l, cs, hv => by
    simp only [RelL] at *
    obtain ⟨c, d, h1, h2, h3⟩ := hv
    exact ⟨c, d, h1, Rel.le h x c h2, RelL.le h l d h3⟩
theorem RelC.le {E E' : RE} (h : E.le E') : ∀ (l : List AV) (cs : List Value), RelC E l cs → RelC E' l cs
  | [], cs, hv => by simp only [RelC] at *; exact hv
  | x :: l, cs, hv => by
    simp only [RelC] at *
    obtain ⟨c, d, h1, h2, h3⟩ := hv
    exact ⟨c, d, h1, Rel.le h x [c] h2, RelC.le h l d h3⟩
end

mutual
theorem RelV.le {E E' : RE} (h : E.le E') : ∀ (x : AV) (v : Value), RelV E x v → RelV E' x v
  | .top, _, _ => by simp only [RelV]
  | .gd g x, v, hv => by simp only [RelV] at *; exact ⟨fun hg => RelV.le h x v (hv.1 hg), hv.2⟩
  | .tup l, v, hv => by simp only [RelV] at *; obtain ⟨vs, h1, h2⟩ := hv; exact ⟨vs, h1, RelT.le h l _ h2⟩
  | .agg l, v, hv => by simp only [RelV] at *; obtain ⟨cs, h1, h2⟩ := hv; exact ⟨cs, h1, h2.le h⟩
  | .arr e n f, v, hv => by simp only [RelV] at *; obtain ⟨cs, h1, h2⟩ := hv; exact ⟨cs, h1, Rel.le h _ _ h2⟩
  | .bool b, v, hv => by simp only [RelV] at *; exact hv
  | .int _ _, v, hv => by simp only [RelV] at *; exact hv
  | .str s, v, hv => by simp only [RelV] at *; exact Rel.le h _ _ hv
  | .val s, v, hv => by simp only [RelV] at *; exact Rel.le h _ _ hv
  | .err s, v, hv => by simp only [RelV] at *; exact hv.le h
  | .sl _ _ _ _, v, hv => by simp only [RelV] at *; exact Rel.le h _ _ hv
  | .fptr _, v, hv => by simp only [RelV] at *; exact Rel.le h _ _ hv
  | .ptr _ _ _, v, hv => by simp only [RelV] at *; exact Rel.le h _ _ hv
  | .osl _ _ _ _ _, v, hv => by simp only [RelV] at *; exact Rel.le h _ _ hv
  | .fn _ _, v, hv => by simp only [RelV] at *; exact Rel.le h _ _ hv
theorem RelT.le {E E' : RE} (h : E.le E') : ∀ (l : List AV) (vs : List Value), RelT E l vs → RelT E' l vs
  | [], _, hv => by simp only [RelT] at *; exact hv
  | x :: l, vs, hv => by
    simp only [RelT] at *
    obtain ⟨c, d, h1, h2, h3⟩ := hv
    exact ⟨c, d, h1, RelV.le h x c h2, RelT.le h l d h3⟩
end

mutual
/-- How many cells. -/
def AV.sz : AV → Nat
  | .agg l => AV.szL l
  | .arr e n _ => n * e
  | _ => 1
def AV.szL : List AV → Nat
  | [] => 0
  | x :: l => x.sz + AV.szL l
end

mutual
theorem Rel.length {E : RE} : ∀ (x : AV) (cs : List Value), Rel E x cs → cs.length = x.sz
  | .bool _, _, h => by simp only [Rel] at h; subst h; rfl
  | .int _ _, _, h => by simp only [Rel] at h; subst h; rfl
  | .str _, _, h => by simp only [Rel] at h; subst h; rfl
  | .val _, _, h => by simp only [Rel] at h; obtain ⟨h, _⟩ := h; subst h; rfl
  | .err _, _, h => by simp only [Rel] at h; obtain ⟨_, h, _⟩ := h; subst h; rfl
  | .sl _ _ _ _, _, h => by simp only [Rel] at h; obtain ⟨_, _, h, _⟩ := h; subst h; rfl
  | .fptr _, _, h => by simp only [Rel] at h; obtain ⟨_, h, _⟩ := h; subst h; rfl
  | .ptr _ _ _, _, h => by simp only [Rel] at h; obtain ⟨_, h⟩ := h; subst h; rfl
  | .osl _ _ _ _ _, _, h => by simp only [Rel] at h; obtain ⟨_, _, _, _, h, _⟩ := h; subst h; rfl
  | .fn _ _, _, h => by simp only [Rel] at h; obtain ⟨_, h, _⟩ := h; subst h; rfl
  | .top, _, h => by simp only [Rel] at h; obtain ⟨_, h, _⟩ := h; subst h; rfl
  | .agg l, cs, h => by simp only [Rel] at h; simpa [AV.sz] using RelL.length l cs h
  | .arr e n f, cs, h => by simp only [Rel] at h; simpa [AV.sz] using h.1
  | .tup _, _, h => by simp only [Rel] at h
  | .gd _ _, _, h => by simp only [Rel] at h
theorem RelL.length {E : RE} : ∀ (l : List AV) (cs : List Value), RelL E l cs → cs.length = AV.szL l
  | [], _, h => by simp only [RelL] at h; subst h; rfl
  | x :: l, cs, h => by
    simp only [RelL] at h
    obtain ⟨c, d, h1, h2, h3⟩ := h
    subst h1
    simp [AV.szL, Rel.length x c h2, RelL.length l d h3]
end

/-- Is it one cell (and no struct or array)? -/
def AV.one : AV → Bool
  | .agg _ | .arr _ _ _ | .tup _ | .gd _ _ => false
  | _ => true

theorem ErrRel.one {E : RE} : ∀ (e : ErrD) (v : Value), ErrRel E e v → v.oneCell' = true
  | .nil, _, h => by simp only [ErrRel] at h; subst h; rfl
  | .code _, _, h => by simp only [ErrRel] at h; subst h; rfl
  | .at _ _, _, h => by simp only [ErrRel] at h; obtain ⟨_, _, _, h, _⟩ := h; subst h; rfl

theorem Rel.one {E : RE} {x : AV} {v : Value} (h : Rel E x [v]) (hx : x.one = true) : v.oneCell' = true := by
  cases x <;> simp only [Rel, AV.one] at h hx <;> first
    | (cases hx; done)
    | skip
  case bool => simp at h; subst h; rfl
  case int => simp at h; subst h; rfl
  case str => simp at h; subst h; rfl
  case val => simp at h; obtain ⟨h, h2⟩ := h; subst h; exact h2
  case err => obtain ⟨u, h1, h2⟩ := h; simp at h1; subst h1; exact ErrRel.one _ _ h2
  case sl => obtain ⟨_, _, h, _⟩ := h; simp at h; subst h; rfl
  case fptr => obtain ⟨_, h, _⟩ := h; simp at h; subst h; rfl
  case ptr => obtain ⟨_, h⟩ := h; simp at h; subst h; rfl
  case osl => obtain ⟨_, _, _, _, h, _⟩ := h; simp at h; subst h; rfl
  case fn => obtain ⟨_, h, _⟩ := h; simp at h; subst h; rfl
  case top => obtain ⟨u, h1, h2⟩ := h; simp at h1; subst h1; exact h2

/-- All cells of what is related are cells. -/
theorem all_one_append {c d : List Value} (h1 : ∀ v ∈ c, v.oneCell' = true) (h2 : ∀ v ∈ d, v.oneCell' = true) : ∀ v ∈ c ++ d, v.oneCell' = true := by
  intro v hv
  rcases List.mem_append.1 hv with h | h
  · exact h1 v h
  · exact h2 v h

mutual
theorem Rel.cells {E : RE} : ∀ (x : AV) (cs : List Value), Rel E x cs → ∀ v ∈ cs, v.oneCell' = true
  | .agg l, cs, h => by simp only [Rel] at h; exact RelL.cells l cs h
  | .arr e n f, cs, h => by
    simp only [Rel] at h
    intro v hv
    obtain ⟨i, hi, he⟩ := List.getElem_of_mem hv
    have hpos : 0 < e := by
      rcases Nat.eq_zero_or_pos e with h0 | h0
      · subst h0; simp at h; rw [h.1] at hi; simp at hi
      · exact h0
    have hj : i / e < n := Nat.div_lt_of_lt_mul (by rw [Nat.mul_comm]; rw [h.1] at hi; exact hi)
    have hm := Nat.mod_lt i hpos
    have hd := Nat.div_add_mod i e
    have hmem : v ∈ (cs.drop (i / e * e)).take e := by
      rw [List.mem_iff_getElem?]
      refine ⟨i % e, ?_⟩
      rw [List.getElem?_take_of_lt hm, List.getElem?_drop]
      rw [show i / e * e + i % e = i by rw [Nat.mul_comm]; exact hd, List.getElem?_eq_getElem hi, he]
    exact Rel.cells (E := E.bare) (f (i / e)) _ (h.2 _ hj).1 v hmem
  | .bool _, _, h => by simp only [Rel] at h; subst h; intro v hv; simp at hv; subst hv; rfl
  | .int _ _, _, h => by simp only [Rel] at h; subst h; intro v hv; simp at hv; subst hv; rfl
  | .str _, _, h => by simp only [Rel] at h; subst h; intro v hv; simp at hv; subst hv; rfl
  | .val _, _, h => by simp only [Rel] at h; obtain ⟨h, h2⟩ := h; subst h; intro v hv; simp at hv; subst hv; exact h2
  | .err _, _, h => by simp only [Rel] at h; obtain ⟨_, h, h2⟩ := h; subst h; intro v hv; simp at hv; subst hv; exact ErrRel.one _ _ h2
  | .sl _ _ _ _, _, h => by simp only [Rel] at h; obtain ⟨_, _, h, _⟩ := h; subst h; intro v hv; simp at hv; subst hv; rfl
  | .fptr _, _, h => by simp only [Rel] at h; obtain ⟨_, h, _⟩ := h; subst h; intro v hv; simp at hv; subst hv; rfl
  | .ptr _ _ _, _, h => by simp only [Rel] at h; obtain ⟨_, h⟩ := h; subst h; intro v hv; simp at hv; subst hv; rfl
  | .osl _ _ _ _ _, _, h => by simp only [Rel] at h; obtain ⟨_, _, _, _, h, _⟩ := h; subst h; intro v hv; simp at hv; subst hv; rfl
  | .fn _ _, _, h => by simp only [Rel] at h; obtain ⟨_, h, _⟩ := h; subst h; intro v hv; simp at hv; subst hv; rfl
  | .top, _, h => by simp only [Rel] at h; obtain ⟨_, h, h2⟩ := h; subst h; intro v hv; simp at hv; subst hv; exact h2
  | .tup _, _, h => by simp only [Rel] at h
  | .gd _ _, _, h => by simp only [Rel] at h
theorem RelL.cells {E : RE} : ∀ (l : List AV) (cs : List Value), RelL E l cs → ∀ v ∈ cs, v.oneCell' = true
  | [], _, h => by simp only [RelL] at h; subst h; intro v hv; cases hv
  | x :: l, cs, h => by
    simp only [RelL] at h
    obtain ⟨c, d, h1, h2, h3⟩ := h
    subst h1
    exact all_one_append (Rel.cells x c h2) (RelL.cells l d h3)
end

mutual
/-- It names no own block. -/
def AV.noN : AV → Bool
  | .ptr _ _ _ | .osl _ _ _ _ _ => false
  | .agg l => AV.noNL l
  | .tup l => AV.noNL l
  | .fn _ l => AV.noNL l
  | .gd _ x => x.noN
  | _ => true
def AV.noNL : List AV → Bool
  | [] => true
  | x :: l => x.noN && AV.noNL l
end
mutual
/-- Names turned into names. -/
def AV.ren (r : Nat → Nat) : AV → AV
  | .ptr i p o => .ptr (r i) p o
  | .osl i e a b c => .osl (r i) e a b c
  | .agg l => .agg (AV.renL r l)
  | .tup l => .tup (AV.renL r l)
  | .fn f l => .fn f (AV.renL r l)
  | .gd g x => .gd g (x.ren r)
  | x => x
def AV.renL (r : Nat → Nat) : List AV → List AV
  | [] => []
  | x :: l => x.ren r :: AV.renL r l
end

/-- Two places with the same memory, names turned. -/
structure RE.turn (r : Nat → Nat) (E E' : RE) : Prop where
  V : E'.V = E.V
  w : E'.w = E.w
  G : ∀ b, E.G b → E'.G b
  nm : ∀ i, i ∈ E.nm → r i ∈ E'.nm ∧ E'.σ (r i) = E.σ i

theorem RE.turn.bare {r : Nat → Nat} {E E' : RE} (h : RE.turn r E E') : E.bare.le E'.bare :=
  ⟨h.V, (fun _ hi => by simp [RE.bare] at hi), (fun _ hi => by simp [RE.bare] at hi), h.G, fun b _ _ => by simp [RE.bare, h.w], fun b c t fr hb => ⟨c, t, fr, by simpa [RE.bare, h.w] using hb, rfl⟩⟩

theorem ErrRel.bare {E : RE} : ∀ (e : ErrD) (v : Value), ErrRel E e v ↔ ErrRel E.bare e v
  | .nil, _ => by simp only [ErrRel]
  | .code _, _ => by simp only [ErrRel, RE.bare]
  | .at p e, v => by
    simp only [ErrRel]
    exact exists_congr fun b => exists_congr fun o => exists_congr fun u => by rw [ErrRel.bare e u]; rfl

mutual
theorem Rel.turn {r : Nat → Nat} {E E' : RE} (h : RE.turn r E E') : ∀ (x : AV) (cs : List Value), Rel E x cs → Rel E' (x.ren r) cs
  | .bool _, _, hv => by simp only [AV.ren, Rel] at *; exact hv
  | .int _ _, _, hv => by simp only [AV.ren, Rel] at *; exact hv
  | .str _, _, hv => by simp only [AV.ren, Rel] at *; exact hv
  | .val _, _, hv => by simp only [AV.ren, Rel] at *; exact hv
  | .top, _, hv => by simp only [AV.ren, Rel] at *; exact hv
  | .tup _, _, hv => by simp only [Rel] at hv
  | .gd _ _, _, hv => by simp only [Rel] at hv
  | .err e, cs, hv => by
    simp only [AV.ren, Rel] at *
    obtain ⟨v, h1, h2⟩ := hv
    exact ⟨v, h1, (ErrRel.bare e v).2 (((ErrRel.bare e v).1 h2).le h.bare)⟩
  | .sl esz nn n f, cs, hv => by
    simp only [AV.ren, Rel] at *
    obtain ⟨a, cap, h1, h2, h3, h4, h5⟩ := hv
    refine ⟨a, cap, h1, h2, h3, h4, fun b hb => ?_⟩
    obtain ⟨h6, h7, h8⟩ := h5 b hb
    refine ⟨h6, fun hn => h.G _ (h7 hn), fun j hj => ?_⟩
    obtain ⟨ds, h9, h10, h11⟩ := h8 j hj
    exact ⟨ds, h9, by rw [h.w]; exact h10, Rel.le h.bare (f j) ds h11⟩
  | .fptr x, cs, hv => by
    simp only [AV.ren, Rel] at *
    obtain ⟨b, h1, h2, h3, ds, h4, h5⟩ := hv
    exact ⟨b, h1, h2, h.G _ h3, ds, by rw [h.w]; exact h4, Rel.le h.bare x ds h5⟩
  | .ptr i p off, cs, hv => by
    simp only [AV.ren, Rel] at *
    obtain ⟨h1, h2⟩ := h.nm i hv.1
    exact ⟨h1, by rw [h2]; exact hv.2⟩
  | .osl i esz off len cap, cs, hv => by
    simp only [AV.ren, Rel] at *
    obtain ⟨h1, h2, o, cap', h3, hcc, h4, c, t, fr, h5, h6⟩ := hv
    obtain ⟨h7, h8⟩ := h.nm i h1
    exact ⟨h7, h2, o, cap', by rw [h8]; exact h3, hcc, h4, c, t, fr, by rw [h8, h.w]; exact h5, h6⟩
  | .agg l, cs, hv => by simp only [AV.ren, Rel] at *; exact RelL.turn h l cs hv
  | .arr esz n f, cs, hv => by
    simp only [AV.ren, Rel] at *
    exact ⟨hv.1, fun j hj => ⟨Rel.le h.bare (f j) _ (hv.2 j hj).1, (hv.2 j hj).2⟩⟩
  | .fn f caps, cs, hv => by
    simp only [AV.ren, Rel] at *
    obtain ⟨vs, h1, h2⟩ := hv
    exact ⟨vs, h1, RelC.turn h caps _ h2⟩
theorem RelL.turn {r : Nat → Nat} {E E' : RE} (h : RE.turn r E E') : ∀ (l : List AV) (cs : List Value), RelL E l cs → RelL E' (AV.renL r l) cs
  | [], cs, hv => by simp only [AV.renL, RelL] at *; exact hv
  | x :: l, cs, hv => by
    simp only [AV.renL, RelL] at *
    obtain ⟨c, d, h1, h2, h3⟩ := hv
    exact ⟨c, d, h1, Rel.turn h x c h2, RelL.turn h l d h3⟩
theorem RelC.turn {r : Nat → Nat} {E E' : RE} (h : RE.turn r E E') : ∀ (l : List AV) (cs : List Value), RelC E l cs → RelC E' (AV.renL r l) cs
  | [], cs, hv => by simp only [AV.renL, RelC] at *; exact hv
  | x :: l, cs, hv => by
    simp only [AV.renL, RelC] at *
    obtain ⟨c, d, h1, h2, h3⟩ := hv
    exact ⟨c, d, h1, Rel.turn h x [c] h2, RelC.turn h l d h3⟩
end
mutual
theorem RelV.turn {r : Nat → Nat} {E E' : RE} (h : RE.turn r E E') : ∀ (x : AV) (v : Value), RelV E x v → RelV E' (x.ren r) v
  | .top, _, _ => by simp only [AV.ren, RelV]
  | .gd g x, v, hv => by simp only [AV.ren, RelV] at *; exact ⟨fun hg => RelV.turn h x v (hv.1 hg), hv.2⟩
  | .tup l, v, hv => by simp only [AV.ren, RelV] at *; obtain ⟨vs, h1, h2⟩ := hv; exact ⟨vs, h1, RelT.turn h l _ h2⟩
  | .agg l, v, hv => by simp only [AV.ren, RelV] at *; obtain ⟨cs, h1, h2⟩ := hv; exact ⟨cs, h1, h2.turn h⟩
  | .arr e n f, v, hv => by
    have := Rel.turn h (.arr e n f)
    simp only [AV.ren] at this
    simp only [AV.ren, RelV] at *; obtain ⟨cs, h1, h2⟩ := hv; exact ⟨cs, h1, this _ h2⟩
  | .bool b, v, hv => by simp only [AV.ren, RelV] at *; exact hv
  | .int _ _, v, hv => by simp only [AV.ren, RelV] at *; exact hv
  | .str s, v, hv => by simp only [AV.ren, RelV, Rel] at *; exact hv
  | .val s, v, hv => by simp only [AV.ren, RelV, Rel] at *; exact hv
  | .err e, v, hv => by simp only [AV.ren, RelV] at *; exact (ErrRel.bare e v).2 (((ErrRel.bare e v).1 hv).le h.bare)
  | .sl a b c d, v, hv => by have := Rel.turn h (.sl a b c d) [v]; simp only [AV.ren, RelV] at *; exact this hv
  | .fptr x, v, hv => by have := Rel.turn h (.fptr x) [v]; simp only [AV.ren, RelV] at *; exact this hv
  | .ptr a b c, v, hv => by have := Rel.turn h (.ptr a b c) [v]; simp only [AV.ren, RelV] at *; exact this hv
  | .osl a b c d e, v, hv => by have := Rel.turn h (.osl a b c d e) [v]; simp only [AV.ren, RelV] at *; exact this hv
  | .fn a b, v, hv => by have := Rel.turn h (.fn a b) [v]; simp only [AV.ren, RelV] at *; exact this hv
theorem RelT.turn {r : Nat → Nat} {E E' : RE} (h : RE.turn r E E') : ∀ (l : List AV) (vs : List Value), RelT E l vs → RelT E' (AV.renL r l) vs
  | [], _, hv => by simp only [AV.renL, RelT] at *; exact hv
  | x :: l, vs, hv => by
    simp only [AV.renL, RelT] at *
    obtain ⟨c, d, h1, h2, h3⟩ := hv
    exact ⟨c, d, h1, RelV.turn h x c h2, RelT.turn h l d h3⟩
end
mutual
theorem Rel.noN {E : RE} : ∀ (x : AV) (cs : List Value), x.noN = true → Rel E x cs → Rel E.bare x cs
  | .bool _, _, _, hv => by simp only [Rel] at *; exact hv
  | .int _ _, _, _, hv => by simp only [Rel] at *; exact hv
  | .str _, _, _, hv => by simp only [Rel] at *; exact hv
  | .val _, _, _, hv => by simp only [Rel] at *; exact hv
  | .top, _, _, hv => by simp only [Rel] at *; exact hv
  | .tup _, _, _, hv => by simp only [Rel] at hv
  | .gd _ _, _, _, hv => by simp only [Rel] at hv
  | .err e, cs, _, hv => by
    simp only [Rel] at *
    obtain ⟨v, h1, h2⟩ := hv
    exact ⟨v, h1, (ErrRel.bare e v).1 h2⟩
  | .sl _ _ _ _, _, _, hv => by simp only [Rel] at *; exact hv
  | .fptr _, _, _, hv => by simp only [Rel] at *; exact hv
  | .ptr _ _ _, _, hn, _ => by simp [AV.noN] at hn
  | .osl _ _ _ _ _, _, hn, _ => by simp [AV.noN] at hn
  | .agg l, cs, hn, hv => by simp only [Rel, AV.noN] at *; exact RelL.noN l cs hn hv
  | .arr _ _ _, _, _, hv => by simp only [Rel] at *; exact hv
  | .fn f caps, cs, hn, hv => by
    simp only [Rel, AV.noN] at *
    obtain ⟨vs, h1, h2⟩ := hv
    exact ⟨vs, h1, RelC.noN caps _ hn h2⟩
theorem RelL.noN {E : RE} : ∀ (l : List AV) (cs : List Value), AV.noNL l = true → RelL E l cs → RelL E.bare l cs
  | [], _, _, hv => by simp only [RelL] at *; exact hv
  | x :: l, cs, hn, hv => by
    simp only [RelL, AV.noNL, Bool.and_eq_true] at *
    obtain ⟨c, d, h1, h2, h3⟩ := hv
    exact ⟨c, d, h1, Rel.noN x c hn.1 h2, RelL.noN l d hn.2 h3⟩
theorem RelC.noN {E : RE} : ∀ (l : List AV) (cs : List Value), AV.noNL l = true → RelC E l cs → RelC E.bare l cs
  | [], _, _, hv => by simp only [RelC] at *; exact hv
  | x :: l, cs, hn, hv => by
    simp only [RelC, AV.noNL, Bool.and_eq_true] at *
    obtain ⟨c, d, h1, h2, h3⟩ := hv
    exact ⟨c, d, h1, Rel.noN x [c] hn.1 h2, RelC.noN l d hn.2 h3⟩
end
end Go.Fy
