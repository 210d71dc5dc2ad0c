/- My own texts, packed: FyA, FyB, FyC, FyD, FyE, FyF, FyG, FyH, FyI, FyJ, FyK, FyL, FyM. -/
import Derived.RowKit3
import Derived.Laws.Cells
import Derived.Below
import Derived.RangeFuncFrom
import Derived.RangeFuncLeaves
import Derived.Orders
import Derived.Laws.Strings
import Derived.Laws.Slices
import Derived.IntWalk
import Derived.Laws.IdiomStrings
import Derived.Laws.IdiomCopy
import Derived.WideLaws
import Derived.Still
/- The engine, 1: abstract values and what they say of Go's values in memory (my own text; any program). -/
namespace Go.Fy
open Go.RowKit
/-- An error as this program makes them: nil, a sentinel (by its number), an error with a place. -/
inductive ErrD where
  | nil
  | code (c : Nat)
  | at (p : Int) (e : ErrD)
  deriving DecidableEq
/-- Abstract values. -/
inductive AV where
  | top
  | bool (b : Bool)
  | int (k : IntKind) (n : Int)
  | str (s : List UInt8)
  | val (v : Value)
  | err (e : ErrD)
  | sl (esz : Nat) (nn : Bool) (n : Nat) (f : Nat → AV)
  | fptr (x : AV)
  | ptr (i : Nat) (p : List Nat) (off : Nat)
  | osl (i : Nat) (esz off len cap : Nat)
  | agg (l : List AV)
  | arr (esz n : Nat) (f : Nat → AV)
  | tup (l : List AV)
  | fn (f : FuncId) (caps : List AV)
  | gd (g : Bool) (x : AV)
  | mp (lo : Nat) (f : Int → Bool)
/-- What a family of proofs speaks of: the program, where the sentinels lie, the types of errors, the globals. -/
structure Env where
  P : Program
  eaddr : Nat → Addr
  tSent : TypeId
  tAt : TypeId
  codes : List Nat
  glob : Nat → Option AV
/-- What a relation hangs on: memory, where the own blocks lie, which names are in use, which blocks stay as they are. -/
structure RE where
  V : Env
  w : World
  σ : Nat → Nat
  nm : List Nat
  G : Nat → Prop
/-- The same, no name in use: what lies in frozen memory, or in an array, names no own block. -/
def RE.bare (E : RE) : RE := { E with nm := [] }
def Holds (w : World) (a : Addr) (o : Nat) (ds : List Value) : Prop :=
  ∀ k v, ds[k]? = some v → w.cell? ⟨a.block, a.off + (o + k), none⟩ = some v
def ErrRel (E : RE) : ErrD → Value → Prop
  | .nil, v => v = .nilIface
  | .code c, v => v = .iface E.V.tSent (.pointer (some (E.V.eaddr c)))
  | .at p e, v => ∃ b o u, v = .iface E.V.tAt (.pointer (some ⟨b, o, none⟩)) ∧ E.G b ∧ E.w.cell? ⟨b, o, none⟩ = some (.int .i64 p) ∧
      E.w.cell? ⟨b, o + 1, none⟩ = some u ∧ ErrRel E e u
/-- A map from numbers to truth values in which nothing but 'true' is laid: its keys are those of which f is true. -/
def MapIs (es : Array MapEntry) (f : Int → Bool) : Prop :=
  (∀ e, e ∈ es.toList → ∃ n, e.key = .int .i64 n ∧ e.val = .bool true ∧ f n = true) ∧ ∀ n, f n = true → ∃ e, e ∈ es.toList ∧ e.key = .int .i64 n
mutual
/-- The cells that lay such a value. -/
def Rel (E : RE) : AV → List Value → Prop
  | .bool b, cs => cs = [.bool b]
  | .int k n, cs => cs = [.int k n]
  | .str s, cs => cs = [.string ⟨s.toArray⟩]
  | .val v, cs => cs = [v] ∧ v.oneCell' = true
  | .err e, cs => ∃ v, cs = [v] ∧ ErrRel E e v
  | .sl esz nn n f, cs => ∃ a cap, cs = [.slice a n cap] ∧ n ≤ cap ∧ nn = a.isNone ∧ (a = none → n = 0 ∧ cap = 0) ∧
      ∀ b, a = some b → (0 < n → b.spot = none) ∧ (0 < n → E.G b.block) ∧ ∀ j, j < n → ∃ ds, ds.length = esz ∧ Holds E.w b (j * esz) ds ∧ Rel E.bare (f j) ds
  | .fptr x, cs => ∃ b, cs = [.pointer (some b)] ∧ b.spot = none ∧ E.G b.block ∧ ∃ ds, Holds E.w b 0 ds ∧ Rel E.bare x ds
  | .ptr i _ off, cs => i ∈ E.nm ∧ cs = [.pointer (some ⟨E.σ i, off, none⟩)]
  | .osl i esz off len cap, cs => i ∈ E.nm ∧ len ≤ cap ∧ ∃ o cap', cs = [.slice (some ⟨E.σ i, o, none⟩) len cap'] ∧ cap ≤ cap' ∧ (0 < cap' → o = off * esz) ∧
      ∃ (c : Array Value) (t : TypeId) (fr : Nat × Nat), E.w.heap[E.σ i]? = some (.cells c t fr) ∧ (off + cap') * esz ≤ c.size
  | .agg l, cs => RelL E l cs
  | .arr esz n f, cs => cs.length = n * esz ∧ ∀ j, j < n → Rel E.bare (f j) ((cs.drop (j * esz)).take esz) ∧ ((cs.drop (j * esz)).take esz).length = esz
  | .fn f caps, cs => ∃ vs, cs = [.func (.func f) #[] vs] ∧ RelC E caps vs.toList
  | .top, cs => ∃ v, cs = [v] ∧ v.oneCell' = true
  | .tup _, _ => False
  | .gd _ _, _ => False
  | .mp _ _, _ => False
/-- Behind one another. -/
def RelL (E : RE) : List AV → List Value → Prop
  | [], cs => cs = []
  | x :: l, cs => ∃ c d, cs = c ++ d ∧ Rel E x c ∧ RelL E l d
/-- One cell each. -/
def RelC (E : RE) : List AV → List Value → Prop
  | [], cs => cs = []
  | x :: l, cs => ∃ c d, cs = c :: d ∧ Rel E x [c] ∧ RelC E l d
end
mutual
/-- A value of a slot. -/
def RelV (E : RE) : AV → Value → Prop
  | .top, _ => True
  | .gd g x, v => (g = true → RelV E x v) ∧ (g = false → v = undef)
  | .tup l, v => ∃ vs, v = .tuple vs ∧ RelT E l vs.toList
  | .agg l, v => ∃ cs : Array Value, v = .agg cs ∧ RelL E l cs.toList
  | .arr e n f, v => ∃ cs : Array Value, v = .agg cs ∧ Rel E (.arr e n f) cs.toList
  | .bool b, v => v = .bool b
  | .int k n, v => v = .int k n
  | .str s, v => Rel E (.str s) [v]
  | .val u, v => Rel E (.val u) [v]
  | .err e, v => ErrRel E e v
  | .sl a b c d, v => Rel E (.sl a b c d) [v]
  | .fptr x, v => Rel E (.fptr x) [v]
  | .ptr i p o, v => Rel E (.ptr i p o) [v]
  | .osl i e a b c, v => Rel E (.osl i e a b c) [v]
  | .fn f c, v => Rel E (.fn f c) [v]
  | .mp lo f, v => ∃ D es cl, v = .map (some D) ∧ lo ≤ D ∧ E.G D ∧ E.w.heap[D]? = some (.map es cl) ∧ MapIs es f
def RelT (E : RE) : List AV → List Value → Prop
  | [], vs => vs = []
  | x :: l, vs => ∃ c d, vs = c :: d ∧ RelV E x c ∧ RelT E l d
end
/-- What must hold between two places for all relations to go on, but for maps in slots. -/
structure RE.le0 (E E' : RE) : Prop where
  V : E'.V = E.V
  σ : ∀ i, i ∈ E.nm → E'.σ i = E.σ i
  nm : ∀ i, i ∈ E.nm → i ∈ E'.nm
  G : ∀ b, E.G b → E'.G b
  old : ∀ b, E.G b → ∀ o v, E.w.cell? ⟨b, o, none⟩ = some v → E'.w.cell? ⟨b, o, none⟩ = some v
  size : ∀ (b : Nat) (c : Array Value) (t : TypeId) (fr : Nat × Nat), E.w.heap[b]? = some (.cells c t fr) → ∃ (c' : Array Value) (t' : TypeId) (fr' : Nat × Nat), E'.w.heap[b]? = some (.cells c' t' fr') ∧ (c.size, fr) = (c'.size, fr')
/-- What must hold between two places for all relations to go on. -/
structure RE.le (E E' : RE) : Prop where
  V : E'.V = E.V
  σ : ∀ i, i ∈ E.nm → E'.σ i = E.σ i
  nm : ∀ i, i ∈ E.nm → i ∈ E'.nm
  G : ∀ b, E.G b → E'.G b
  old : ∀ b, E.G b → ∀ o v, E.w.cell? ⟨b, o, none⟩ = some v → E'.w.cell? ⟨b, o, none⟩ = some v
  size : ∀ (b : Nat) (c : Array Value) (t : TypeId) (fr : Nat × Nat), E.w.heap[b]? = some (.cells c t fr) → ∃ (c' : Array Value) (t' : TypeId) (fr' : Nat × Nat), E'.w.heap[b]? = some (.cells c' t' fr') ∧ (c.size, fr) = (c'.size, fr')
  maps : ∀ b, E.G b → ∀ (es : Array MapEntry) (cl : Nat), E.w.heap[b]? = some (.map es cl) → E'.w.heap[b]? = some (.map es cl)
theorem RE.le.le0 {E E' : RE} (h : E.le E') : E.le0 E' := ⟨h.V, h.σ, h.nm, h.G, h.old, h.size⟩
theorem RE.le.refl (E : RE) : E.le E := ⟨rfl, fun _ _ => rfl, fun _ h => h, fun _ h => h, fun _ _ _ _ h => h, fun _ c t fr h => ⟨c, t, fr, h, rfl⟩, fun _ _ _ _ h => h⟩
theorem RE.le.trans {A B C : RE} (h : A.le B) (k : B.le C) : A.le C :=
  ⟨k.V.trans h.V, fun i hi => (k.σ i (h.nm i hi)).trans (h.σ i hi), fun i hi => k.nm i (h.nm i hi), fun b hb => k.G b (h.G b hb),
    fun b hb o v hv => k.old b (h.G b hb) o v (h.old b hb o v hv), fun b c t fr hb => by
      obtain ⟨c', t', fr', h1, h2⟩ := h.size b c t fr hb
      obtain ⟨c'', t'', fr'', h3, h4⟩ := k.size b c' t' fr' h1
      exact ⟨c'', t'', fr'', h3, h2.trans h4⟩, fun b hg es cl hb => k.maps b (h.G b hg) es cl (h.maps b hg es cl hb)⟩
theorem RE.le0.bare {E E' : RE} (h : E.le0 E') : E.bare.le0 E'.bare := ⟨h.V, (fun _ hi => by simp [RE.bare] at hi), (fun _ hi => by simp [RE.bare] at hi), h.G, h.old, h.size⟩
theorem RE.le.bare {E E' : RE} (h : E.le E') : E.bare.le E'.bare := ⟨h.V, (fun _ hi => by simp [RE.bare] at hi), (fun _ hi => by simp [RE.bare] at hi), h.G, h.old, h.size, h.maps⟩
theorem RE.bare_le (E : RE) : E.bare.le E := ⟨rfl, (fun _ hi => by simp [RE.bare] at hi), (fun _ hi => by simp [RE.bare] at hi), fun _ h => h, fun _ _ _ _ h => h, fun _ c t fr h => ⟨c, t, fr, h, rfl⟩, fun _ _ _ _ h => h⟩
theorem cell_of_block {w w' : World} {b : Nat} (h : w'.heap[b]? = w.heap[b]?) (o : Nat) (s : Option Nat) : w'.cell? ⟨b, o, s⟩ = w.cell? ⟨b, o, s⟩ := by
  simp only [World.cell?, h]
theorem Holds.le {w w' : World} {a : Addr} {o : Nat} {ds : List Value} (h : Holds w a o ds) (hb : ∀ o v, w.cell? ⟨a.block, o, none⟩ = some v → w'.cell? ⟨a.block, o, none⟩ = some v) : Holds w' a o ds :=
  fun k v hk => hb _ _ (h k v hk)
theorem ErrRel.le0 {E E' : RE} (h : E.le0 E') : ∀ (e : ErrD) (v : Value), ErrRel E e v → ErrRel E' e v
  | .nil, _, hv => hv
  | .code c, v, hv => by simp only [ErrRel] at *; rw [h.V]; exact hv
  | .at p e, v, hv => by
    simp only [ErrRel] at *
    obtain ⟨b, o, u, h1, h2, h3, h4, h5⟩ := hv
    exact ⟨b, o, u, by rw [h.V]; exact h1, h.G b h2, h.old b h2 _ _ h3, h.old b h2 _ _ h4, ErrRel.le0 h e u h5⟩
mutual
theorem Rel.le0 {E E' : RE} (h : E.le0 E') : ∀ (x : AV) (cs : List Value), Rel E x cs → Rel E' x cs
  | .bool _, _, hv => by simp only [Rel] at *; exact hv
  | .int _ _, _, hv => by simp only [Rel] at *; exact hv
  | .str _, _, hv => by simp only [Rel] at *; exact hv
  | .val _, _, hv => by simp only [Rel] at *; exact hv
  | .top, _, hv => by simp only [Rel] at *; exact hv
  | .tup _, _, hv => by simp only [Rel] at *
  | .gd _ _, _, hv => by simp only [Rel] at *
  | .mp _ _, _, hv => by simp only [Rel] at *
  | .err e, cs, hv => by
    simp only [Rel] at *
    obtain ⟨v, h1, h2⟩ := hv
    exact ⟨v, h1, h2.le0 h⟩
  | .sl esz nn n f, cs, hv => by
    simp only [Rel] at *
    obtain ⟨a, cap, h1, h2, h3, h4, h5⟩ := hv
    refine ⟨a, cap, h1, h2, h3, h4, fun b hb => ?_⟩
    obtain ⟨h6, h7, h8⟩ := h5 b hb
    refine ⟨h6, fun hn => h.G _ (h7 hn), fun j hj => ?_⟩
    obtain ⟨ds, h9, h10, h11⟩ := h8 j hj
    exact ⟨ds, h9, h10.le (h.old _ (h7 (by omega))), Rel.le0 h.bare (f j) ds h11⟩
  | .fptr x, cs, hv => by
    simp only [Rel] at *
    obtain ⟨b, h1, h2, h3, ds, h4, h5⟩ := hv
    exact ⟨b, h1, h2, h.G _ h3, ds, h4.le (h.old _ h3), Rel.le0 h.bare x ds h5⟩
  | .ptr i p off, cs, hv => by
    simp only [Rel] at *
    exact ⟨h.nm i hv.1, by rw [h.σ i hv.1]; exact hv.2⟩
  | .osl i esz off len cap, cs, hv => by
    simp only [Rel] at *
    obtain ⟨h1, h2, o, cap', h3, hcc, h4, c, t, fr, h5, h6⟩ := hv
    obtain ⟨c', t', fr', h7, h8⟩ := h.size _ c t fr h5
    refine ⟨h.nm i h1, h2, o, cap', by rw [h.σ i h1]; exact h3, hcc, h4, c', t', fr', by rw [h.σ i h1]; exact h7, by have e8 := congrArg Prod.fst h8; dsimp only at e8; omega⟩
  | .agg l, cs, hv => by simp only [Rel] at *; exact RelL.le0 h l cs hv
  | .arr esz n f, cs, hv => by
    simp only [Rel] at *
    exact ⟨hv.1, fun j hj => ⟨Rel.le0 h.bare (f j) _ (hv.2 j hj).1, (hv.2 j hj).2⟩⟩
  | .fn f caps, cs, hv => by
    simp only [Rel] at *
    obtain ⟨vs, h1, h2⟩ := hv
    exact ⟨vs, h1, RelC.le0 h caps _ h2⟩
theorem RelL.le0 {E E' : RE} (h : E.le0 E') : ∀ (l : List AV) (cs : List Value), RelL E l cs → RelL E' l cs
  | [], cs, hv => by simp only [RelL] at *; exact hv
  | x :: l, cs, hv => by
    simp only [RelL] at *
    obtain ⟨c, d, h1, h2, h3⟩ := hv
    exact ⟨c, d, h1, Rel.le0 h x c h2, RelL.le0 h l d h3⟩
theorem RelC.le0 {E E' : RE} (h : E.le0 E') : ∀ (l : List AV) (cs : List Value), RelC E l cs → RelC E' l cs
  | [], cs, hv => by simp only [RelC] at *; exact hv
  | x :: l, cs, hv => by
    simp only [RelC] at *
    obtain ⟨c, d, h1, h2, h3⟩ := hv
    exact ⟨c, d, h1, Rel.le0 h x [c] h2, RelC.le0 h l d h3⟩
end
theorem ErrRel.le {E E' : RE} (h : E.le E') (e : ErrD) (v : Value) (hv : ErrRel E e v) : ErrRel E' e v := ErrRel.le0 h.le0 e v hv
theorem Rel.le {E E' : RE} (h : E.le E') (x : AV) (cs : List Value) (hv : Rel E x cs) : Rel E' x cs := Rel.le0 h.le0 x cs hv
theorem RelL.le {E E' : RE} (h : E.le E') (l : List AV) (cs : List Value) (hv : RelL E l cs) : RelL E' l cs := RelL.le0 h.le0 l cs hv
theorem RelC.le {E E' : RE} (h : E.le E') (l : List AV) (cs : List Value) (hv : RelC E l cs) : RelC E' l cs := RelC.le0 h.le0 l cs hv
mutual
/-- No map in it. -/
def AV.noMp : AV → Bool
  | .mp _ _ => false
  | .tup l => AV.noMpL l
  | .gd _ x => x.noMp
  | _ => true
def AV.noMpL : List AV → Bool
  | [] => true
  | x :: l => x.noMp && AV.noMpL l
end
mutual
theorem RelV.le {E E' : RE} (h : E.le E') : ∀ (x : AV) (v : Value), RelV E x v → RelV E' x v
  | .top, _, _ => by simp only [RelV]
  | .gd g x, v, hv => by simp only [RelV] at *; exact ⟨fun hg => RelV.le h x v (hv.1 hg), hv.2⟩
  | .tup l, v, hv => by simp only [RelV] at *; obtain ⟨vs, h1, h2⟩ := hv; exact ⟨vs, h1, RelT.le h l _ h2⟩
  | .agg l, v, hv => by simp only [RelV] at *; obtain ⟨cs, h1, h2⟩ := hv; exact ⟨cs, h1, h2.le h⟩
  | .arr e n f, v, hv => by simp only [RelV] at *; obtain ⟨cs, h1, h2⟩ := hv; exact ⟨cs, h1, Rel.le h _ _ h2⟩
  | .bool b, v, hv => by simp only [RelV] at *; exact hv
  | .int _ _, v, hv => by simp only [RelV] at *; exact hv
  | .str s, v, hv => by simp only [RelV] at *; exact Rel.le h _ _ hv
  | .val s, v, hv => by simp only [RelV] at *; exact Rel.le h _ _ hv
  | .err s, v, hv => by simp only [RelV] at *; exact hv.le h
  | .sl _ _ _ _, v, hv => by simp only [RelV] at *; exact Rel.le h _ _ hv
  | .fptr _, v, hv => by simp only [RelV] at *; exact Rel.le h _ _ hv
  | .ptr _ _ _, v, hv => by simp only [RelV] at *; exact Rel.le h _ _ hv
  | .osl _ _ _ _ _, v, hv => by simp only [RelV] at *; exact Rel.le h _ _ hv
  | .fn _ _, v, hv => by simp only [RelV] at *; exact Rel.le h _ _ hv
  | .mp _ _, v, hv => by simp only [RelV] at *; obtain ⟨D, es, cl, h1, h2, h3, h4, h5⟩ := hv; exact ⟨D, es, cl, h1, h2, h.G _ h3, h.maps _ h3 _ _ h4, h5⟩
theorem RelT.le {E E' : RE} (h : E.le E') : ∀ (l : List AV) (vs : List Value), RelT E l vs → RelT E' l vs
  | [], _, hv => by simp only [RelT] at *; exact hv
  | x :: l, vs, hv => by
    simp only [RelT] at *
    obtain ⟨c, d, h1, h2, h3⟩ := hv
    exact ⟨c, d, h1, RelV.le h x c h2, RelT.le h l d h3⟩
end
mutual
theorem RelV.le0 {E E' : RE} (h : E.le0 E') : ∀ (x : AV) (v : Value), x.noMp = true → RelV E x v → RelV E' x v
  | .top, _, _, _ => by simp only [RelV]
  | .gd g x, v, hn, hv => by simp only [RelV, AV.noMp] at *; exact ⟨fun hg => RelV.le0 h x v hn (hv.1 hg), hv.2⟩
  | .tup l, v, hn, hv => by simp only [RelV, AV.noMp] at *; obtain ⟨vs, h1, h2⟩ := hv; exact ⟨vs, h1, RelT.le0 h l _ hn h2⟩
  | .agg l, v, _, hv => by simp only [RelV] at *; obtain ⟨cs, h1, h2⟩ := hv; exact ⟨cs, h1, h2.le0 h⟩
  | .arr e n f, v, _, hv => by simp only [RelV] at *; obtain ⟨cs, h1, h2⟩ := hv; exact ⟨cs, h1, Rel.le0 h _ _ h2⟩
  | .bool b, v, _, hv => by simp only [RelV] at *; exact hv
  | .int _ _, v, _, hv => by simp only [RelV] at *; exact hv
  | .str s, v, _, hv => by simp only [RelV] at *; exact Rel.le0 h _ _ hv
  | .val s, v, _, hv => by simp only [RelV] at *; exact Rel.le0 h _ _ hv
  | .err s, v, _, hv => by simp only [RelV] at *; exact hv.le0 h
  | .sl _ _ _ _, v, _, hv => by simp only [RelV] at *; exact Rel.le0 h _ _ hv
  | .fptr _, v, _, hv => by simp only [RelV] at *; exact Rel.le0 h _ _ hv
  | .ptr _ _ _, v, _, hv => by simp only [RelV] at *; exact Rel.le0 h _ _ hv
  | .osl _ _ _ _ _, v, _, hv => by simp only [RelV] at *; exact Rel.le0 h _ _ hv
  | .fn _ _, v, _, hv => by simp only [RelV] at *; exact Rel.le0 h _ _ hv
  | .mp _ _, v, hn, hv => by simp [AV.noMp] at hn
theorem RelT.le0 {E E' : RE} (h : E.le0 E') : ∀ (l : List AV) (vs : List Value), AV.noMpL l = true → RelT E l vs → RelT E' l vs
  | [], _, _, hv => by simp only [RelT] at *; exact hv
  | x :: l, vs, hn, hv => by
    simp only [RelT, AV.noMpL, Bool.and_eq_true] at *
    obtain ⟨c, d, h1, h2, h3⟩ := hv
    exact ⟨c, d, h1, RelV.le0 h x c hn.1 h2, RelT.le0 h l d hn.2 h3⟩
end
mutual
/-- How many cells. -/
def AV.sz : AV → Nat
  | .agg l => AV.szL l
  | .arr e n _ => n * e
  | _ => 1
def AV.szL : List AV → Nat
  | [] => 0
  | x :: l => x.sz + AV.szL l
end
mutual
theorem Rel.length {E : RE} : ∀ (x : AV) (cs : List Value), Rel E x cs → cs.length = x.sz
  | .bool _, _, h => by simp only [Rel] at h; subst h; rfl
  | .int _ _, _, h => by simp only [Rel] at h; subst h; rfl
  | .str _, _, h => by simp only [Rel] at h; subst h; rfl
  | .val _, _, h => by simp only [Rel] at h; obtain ⟨h, _⟩ := h; subst h; rfl
  | .err _, _, h => by simp only [Rel] at h; obtain ⟨_, h, _⟩ := h; subst h; rfl
  | .sl _ _ _ _, _, h => by simp only [Rel] at h; obtain ⟨_, _, h, _⟩ := h; subst h; rfl
  | .fptr _, _, h => by simp only [Rel] at h; obtain ⟨_, h, _⟩ := h; subst h; rfl
  | .ptr _ _ _, _, h => by simp only [Rel] at h; obtain ⟨_, h⟩ := h; subst h; rfl
  | .osl _ _ _ _ _, _, h => by simp only [Rel] at h; obtain ⟨_, _, _, _, h, _⟩ := h; subst h; rfl
  | .fn _ _, _, h => by simp only [Rel] at h; obtain ⟨_, h, _⟩ := h; subst h; rfl
  | .top, _, h => by simp only [Rel] at h; obtain ⟨_, h, _⟩ := h; subst h; rfl
  | .agg l, cs, h => by simp only [Rel] at h; simpa [AV.sz] using RelL.length l cs h
  | .arr e n f, cs, h => by simp only [Rel] at h; simpa [AV.sz] using h.1
  | .tup _, _, h => by simp only [Rel] at h
  | .gd _ _, _, h => by simp only [Rel] at h
  | .mp _ _, _, h => by simp only [Rel] at h
theorem RelL.length {E : RE} : ∀ (l : List AV) (cs : List Value), RelL E l cs → cs.length = AV.szL l
  | [], _, h => by simp only [RelL] at h; subst h; rfl
  | x :: l, cs, h => by
    simp only [RelL] at h
    obtain ⟨c, d, h1, h2, h3⟩ := h
    subst h1
    simp [AV.szL, Rel.length x c h2, RelL.length l d h3]
end
/-- Is it one cell (and no struct or array)? -/
def AV.one : AV → Bool
  | .agg _ | .arr _ _ _ | .tup _ | .gd _ _ | .mp _ _ => false
  | _ => true
theorem ErrRel.one {E : RE} : ∀ (e : ErrD) (v : Value), ErrRel E e v → v.oneCell' = true
  | .nil, _, h => by simp only [ErrRel] at h; subst h; rfl
  | .code _, _, h => by simp only [ErrRel] at h; subst h; rfl
  | .at _ _, _, h => by simp only [ErrRel] at h; obtain ⟨_, _, _, h, _⟩ := h; subst h; rfl
theorem Rel.one {E : RE} {x : AV} {v : Value} (h : Rel E x [v]) (hx : x.one = true) : v.oneCell' = true := by
  cases x <;> simp only [Rel, AV.one] at h hx <;> first
    | (cases hx; done)
    | skip
  case bool => simp at h; subst h; rfl
  case int => simp at h; subst h; rfl
  case str => simp at h; subst h; rfl
  case val => simp at h; obtain ⟨h, h2⟩ := h; subst h; exact h2
  case err => obtain ⟨u, h1, h2⟩ := h; simp at h1; subst h1; exact ErrRel.one _ _ h2
  case sl => obtain ⟨_, _, h, _⟩ := h; simp at h; subst h; rfl
  case fptr => obtain ⟨_, h, _⟩ := h; simp at h; subst h; rfl
  case ptr => obtain ⟨_, h⟩ := h; simp at h; subst h; rfl
  case osl => obtain ⟨_, _, _, _, h, _⟩ := h; simp at h; subst h; rfl
  case fn => obtain ⟨_, h, _⟩ := h; simp at h; subst h; rfl
  case top => obtain ⟨u, h1, h2⟩ := h; simp at h1; subst h1; exact h2
/-- All cells of what is related are cells. -/
theorem all_one_append {c d : List Value} (h1 : ∀ v ∈ c, v.oneCell' = true) (h2 : ∀ v ∈ d, v.oneCell' = true) : ∀ v ∈ c ++ d, v.oneCell' = true := by
  intro v hv
  rcases List.mem_append.1 hv with h | h
  · exact h1 v h
  · exact h2 v h
mutual
theorem Rel.cells {E : RE} : ∀ (x : AV) (cs : List Value), Rel E x cs → ∀ v ∈ cs, v.oneCell' = true
  | .agg l, cs, h => by simp only [Rel] at h; exact RelL.cells l cs h
  | .arr e n f, cs, h => by
    simp only [Rel] at h
    intro v hv
    obtain ⟨i, hi, he⟩ := List.getElem_of_mem hv
    have hpos : 0 < e := by
      rcases Nat.eq_zero_or_pos e with h0 | h0
      · subst h0; simp at h; rw [h.1] at hi; simp at hi
      · exact h0
    have hj : i / e < n := Nat.div_lt_of_lt_mul (by rw [Nat.mul_comm]; rw [h.1] at hi; exact hi)
    have hm := Nat.mod_lt i hpos
    have hd := Nat.div_add_mod i e
    have hmem : v ∈ (cs.drop (i / e * e)).take e := by
      rw [List.mem_iff_getElem?]
      refine ⟨i % e, ?_⟩
      rw [List.getElem?_take_of_lt hm, List.getElem?_drop]
      rw [show i / e * e + i % e = i by rw [Nat.mul_comm]; exact hd, List.getElem?_eq_getElem hi, he]
    exact Rel.cells (E := E.bare) (f (i / e)) _ (h.2 _ hj).1 v hmem
  | .bool _, _, h => by simp only [Rel] at h; subst h; intro v hv; simp at hv; subst hv; rfl
  | .int _ _, _, h => by simp only [Rel] at h; subst h; intro v hv; simp at hv; subst hv; rfl
  | .str _, _, h => by simp only [Rel] at h; subst h; intro v hv; simp at hv; subst hv; rfl
  | .val _, _, h => by simp only [Rel] at h; obtain ⟨h, h2⟩ := h; subst h; intro v hv; simp at hv; subst hv; exact h2
  | .err _, _, h => by simp only [Rel] at h; obtain ⟨_, h, h2⟩ := h; subst h; intro v hv; simp at hv; subst hv; exact ErrRel.one _ _ h2
  | .sl _ _ _ _, _, h => by simp only [Rel] at h; obtain ⟨_, _, h, _⟩ := h; subst h; intro v hv; simp at hv; subst hv; rfl
  | .fptr _, _, h => by simp only [Rel] at h; obtain ⟨_, h, _⟩ := h; subst h; intro v hv; simp at hv; subst hv; rfl
  | .ptr _ _ _, _, h => by simp only [Rel] at h; obtain ⟨_, h⟩ := h; subst h; intro v hv; simp at hv; subst hv; rfl
  | .osl _ _ _ _ _, _, h => by simp only [Rel] at h; obtain ⟨_, _, _, _, h, _⟩ := h; subst h; intro v hv; simp at hv; subst hv; rfl
  | .fn _ _, _, h => by simp only [Rel] at h; obtain ⟨_, h, _⟩ := h; subst h; intro v hv; simp at hv; subst hv; rfl
  | .top, _, h => by simp only [Rel] at h; obtain ⟨_, h, h2⟩ := h; subst h; intro v hv; simp at hv; subst hv; exact h2
  | .tup _, _, h => by simp only [Rel] at h
  | .gd _ _, _, h => by simp only [Rel] at h
  | .mp _ _, _, h => by simp only [Rel] at h
theorem RelL.cells {E : RE} : ∀ (l : List AV) (cs : List Value), RelL E l cs → ∀ v ∈ cs, v.oneCell' = true
  | [], _, h => by simp only [RelL] at h; subst h; intro v hv; cases hv
  | x :: l, cs, h => by
    simp only [RelL] at h
    obtain ⟨c, d, h1, h2, h3⟩ := h
    subst h1
    exact all_one_append (Rel.cells x c h2) (RelL.cells l d h3)
end
mutual
/-- It names no own block. -/
def AV.noN : AV → Bool
  | .ptr _ _ _ | .osl _ _ _ _ _ => false
  | .agg l => AV.noNL l
  | .tup l => AV.noNL l
  | .fn _ l => AV.noNL l
  | .gd _ x => x.noN
  | _ => true
def AV.noNL : List AV → Bool
  | [] => true
  | x :: l => x.noN && AV.noNL l
end
mutual
/-- Names turned into names. -/
def AV.ren (r : Nat → Nat) : AV → AV
  | .ptr i p o => .ptr (r i) p o
  | .osl i e a b c => .osl (r i) e a b c
  | .agg l => .agg (AV.renL r l)
  | .tup l => .tup (AV.renL r l)
  | .fn f l => .fn f (AV.renL r l)
  | .gd g x => .gd g (x.ren r)
  | x => x
def AV.renL (r : Nat → Nat) : List AV → List AV
  | [] => []
  | x :: l => x.ren r :: AV.renL r l
end
/-- Two places with the same memory, names turned. -/
structure RE.turn (r : Nat → Nat) (E E' : RE) : Prop where
  V : E'.V = E.V
  w : E'.w = E.w
  G : ∀ b, E.G b → E'.G b
  nm : ∀ i, i ∈ E.nm → r i ∈ E'.nm ∧ E'.σ (r i) = E.σ i
theorem RE.turn.bare {r : Nat → Nat} {E E' : RE} (h : RE.turn r E E') : E.bare.le E'.bare :=
  ⟨h.V, (fun _ hi => by simp [RE.bare] at hi), (fun _ hi => by simp [RE.bare] at hi), h.G, fun b _ _ => by simp [RE.bare, h.w], fun b c t fr hb => ⟨c, t, fr, by simpa [RE.bare, h.w] using hb, rfl⟩, fun b _ es cl hb => by simpa [RE.bare, h.w] using hb⟩
theorem ErrRel.bare {E : RE} : ∀ (e : ErrD) (v : Value), ErrRel E e v ↔ ErrRel E.bare e v
  | .nil, _ => by simp only [ErrRel]
  | .code _, _ => by simp only [ErrRel, RE.bare]
  | .at p e, v => by
    simp only [ErrRel]
    exact exists_congr fun b => exists_congr fun o => exists_congr fun u => by rw [ErrRel.bare e u]; rfl
mutual
theorem Rel.turn {r : Nat → Nat} {E E' : RE} (h : RE.turn r E E') : ∀ (x : AV) (cs : List Value), Rel E x cs → Rel E' (x.ren r) cs
  | .bool _, _, hv => by simp only [AV.ren, Rel] at *; exact hv
  | .int _ _, _, hv => by simp only [AV.ren, Rel] at *; exact hv
  | .str _, _, hv => by simp only [AV.ren, Rel] at *; exact hv
  | .val _, _, hv => by simp only [AV.ren, Rel] at *; exact hv
  | .top, _, hv => by simp only [AV.ren, Rel] at *; exact hv
  | .tup _, _, hv => by simp only [Rel] at hv
  | .gd _ _, _, hv => by simp only [Rel] at hv
  | .mp _ _, _, hv => by simp only [AV.ren, Rel] at hv
  | .err e, cs, hv => by
    simp only [AV.ren, Rel] at *
    obtain ⟨v, h1, h2⟩ := hv
    exact ⟨v, h1, (ErrRel.bare e v).2 (((ErrRel.bare e v).1 h2).le h.bare)⟩
  | .sl esz nn n f, cs, hv => by
    simp only [AV.ren, Rel] at *
    obtain ⟨a, cap, h1, h2, h3, h4, h5⟩ := hv
    refine ⟨a, cap, h1, h2, h3, h4, fun b hb => ?_⟩
    obtain ⟨h6, h7, h8⟩ := h5 b hb
    refine ⟨h6, fun hn => h.G _ (h7 hn), fun j hj => ?_⟩
    obtain ⟨ds, h9, h10, h11⟩ := h8 j hj
    exact ⟨ds, h9, by rw [h.w]; exact h10, Rel.le h.bare (f j) ds h11⟩
  | .fptr x, cs, hv => by
    simp only [AV.ren, Rel] at *
    obtain ⟨b, h1, h2, h3, ds, h4, h5⟩ := hv
    exact ⟨b, h1, h2, h.G _ h3, ds, by rw [h.w]; exact h4, Rel.le h.bare x ds h5⟩
  | .ptr i p off, cs, hv => by
    simp only [AV.ren, Rel] at *
    obtain ⟨h1, h2⟩ := h.nm i hv.1
    exact ⟨h1, by rw [h2]; exact hv.2⟩
  | .osl i esz off len cap, cs, hv => by
    simp only [AV.ren, Rel] at *
    obtain ⟨h1, h2, o, cap', h3, hcc, h4, c, t, fr, h5, h6⟩ := hv
    obtain ⟨h7, h8⟩ := h.nm i h1
    exact ⟨h7, h2, o, cap', by rw [h8]; exact h3, hcc, h4, c, t, fr, by rw [h8, h.w]; exact h5, h6⟩
  | .agg l, cs, hv => by simp only [AV.ren, Rel] at *; exact RelL.turn h l cs hv
  | .arr esz n f, cs, hv => by
    simp only [AV.ren, Rel] at *
    exact ⟨hv.1, fun j hj => ⟨Rel.le h.bare (f j) _ (hv.2 j hj).1, (hv.2 j hj).2⟩⟩
  | .fn f caps, cs, hv => by
    simp only [AV.ren, Rel] at *
    obtain ⟨vs, h1, h2⟩ := hv
    exact ⟨vs, h1, RelC.turn h caps _ h2⟩
theorem RelL.turn {r : Nat → Nat} {E E' : RE} (h : RE.turn r E E') : ∀ (l : List AV) (cs : List Value), RelL E l cs → RelL E' (AV.renL r l) cs
  | [], cs, hv => by simp only [AV.renL, RelL] at *; exact hv
  | x :: l, cs, hv => by
    simp only [AV.renL, RelL] at *
    obtain ⟨c, d, h1, h2, h3⟩ := hv
    exact ⟨c, d, h1, Rel.turn h x c h2, RelL.turn h l d h3⟩
theorem RelC.turn {r : Nat → Nat} {E E' : RE} (h : RE.turn r E E') : ∀ (l : List AV) (cs : List Value), RelC E l cs → RelC E' (AV.renL r l) cs
  | [], cs, hv => by simp only [AV.renL, RelC] at *; exact hv
  | x :: l, cs, hv => by
    simp only [AV.renL, RelC] at *
    obtain ⟨c, d, h1, h2, h3⟩ := hv
    exact ⟨c, d, h1, Rel.turn h x [c] h2, RelC.turn h l d h3⟩
end
mutual
theorem RelV.turn {r : Nat → Nat} {E E' : RE} (h : RE.turn r E E') : ∀ (x : AV) (v : Value), RelV E x v → RelV E' (x.ren r) v
  | .top, _, _ => by simp only [AV.ren, RelV]
  | .gd g x, v, hv => by simp only [AV.ren, RelV] at *; exact ⟨fun hg => RelV.turn h x v (hv.1 hg), hv.2⟩
  | .tup l, v, hv => by simp only [AV.ren, RelV] at *; obtain ⟨vs, h1, h2⟩ := hv; exact ⟨vs, h1, RelT.turn h l _ h2⟩
  | .agg l, v, hv => by simp only [AV.ren, RelV] at *; obtain ⟨cs, h1, h2⟩ := hv; exact ⟨cs, h1, h2.turn h⟩
  | .arr e n f, v, hv => by
    have := Rel.turn h (.arr e n f)
    simp only [AV.ren] at this
    simp only [AV.ren, RelV] at *; obtain ⟨cs, h1, h2⟩ := hv; exact ⟨cs, h1, this _ h2⟩
  | .bool b, v, hv => by simp only [AV.ren, RelV] at *; exact hv
  | .int _ _, v, hv => by simp only [AV.ren, RelV] at *; exact hv
  | .str s, v, hv => by simp only [AV.ren, RelV, Rel] at *; exact hv
  | .val s, v, hv => by simp only [AV.ren, RelV, Rel] at *; exact hv
  | .err e, v, hv => by simp only [AV.ren, RelV] at *; exact (ErrRel.bare e v).2 (((ErrRel.bare e v).1 hv).le h.bare)
  | .sl a b c d, v, hv => by have := Rel.turn h (.sl a b c d) [v]; simp only [AV.ren, RelV] at *; exact this hv
  | .fptr x, v, hv => by have := Rel.turn h (.fptr x) [v]; simp only [AV.ren, RelV] at *; exact this hv
  | .ptr a b c, v, hv => by have := Rel.turn h (.ptr a b c) [v]; simp only [AV.ren, RelV] at *; exact this hv
  | .osl a b c d e, v, hv => by have := Rel.turn h (.osl a b c d e) [v]; simp only [AV.ren, RelV] at *; exact this hv
  | .fn a b, v, hv => by have := Rel.turn h (.fn a b) [v]; simp only [AV.ren, RelV] at *; exact this hv
  | .mp _ _, v, hv => by simp only [AV.ren, RelV] at *; obtain ⟨D, es, cl, h1, h2, h3, h4, h5⟩ := hv; exact ⟨D, es, cl, h1, h2, h.G _ h3, by rw [h.w]; exact h4, h5⟩
theorem RelT.turn {r : Nat → Nat} {E E' : RE} (h : RE.turn r E E') : ∀ (l : List AV) (vs : List Value), RelT E l vs → RelT E' (AV.renL r l) vs
  | [], _, hv => by simp only [AV.renL, RelT] at *; exact hv
  | x :: l, vs, hv => by
    simp only [AV.renL, RelT] at *
    obtain ⟨c, d, h1, h2, h3⟩ := hv
    exact ⟨c, d, h1, RelV.turn h x c h2, RelT.turn h l d h3⟩
end
mutual
theorem Rel.noN {E : RE} : ∀ (x : AV) (cs : List Value), x.noN = true → Rel E x cs → Rel E.bare x cs
  | .bool _, _, _, hv => by simp only [Rel] at *; exact hv
  | .int _ _, _, _, hv => by simp only [Rel] at *; exact hv
  | .str _, _, _, hv => by simp only [Rel] at *; exact hv
  | .val _, _, _, hv => by simp only [Rel] at *; exact hv
  | .top, _, _, hv => by simp only [Rel] at *; exact hv
  | .tup _, _, _, hv => by simp only [Rel] at hv
  | .gd _ _, _, _, hv => by simp only [Rel] at hv
  | .mp _ _, _, _, hv => by simp only [Rel] at hv
  | .err e, cs, _, hv => by
    simp only [Rel] at *
    obtain ⟨v, h1, h2⟩ := hv
    exact ⟨v, h1, (ErrRel.bare e v).1 h2⟩
  | .sl _ _ _ _, _, _, hv => by simp only [Rel] at *; exact hv
  | .fptr _, _, _, hv => by simp only [Rel] at *; exact hv
  | .ptr _ _ _, _, hn, _ => by simp [AV.noN] at hn
  | .osl _ _ _ _ _, _, hn, _ => by simp [AV.noN] at hn
  | .agg l, cs, hn, hv => by simp only [Rel, AV.noN] at *; exact RelL.noN l cs hn hv
  | .arr _ _ _, _, _, hv => by simp only [Rel] at *; exact hv
  | .fn f caps, cs, hn, hv => by
    simp only [Rel, AV.noN] at *
    obtain ⟨vs, h1, h2⟩ := hv
    exact ⟨vs, h1, RelC.noN caps _ hn h2⟩
theorem RelL.noN {E : RE} : ∀ (l : List AV) (cs : List Value), AV.noNL l = true → RelL E l cs → RelL E.bare l cs
  | [], _, _, hv => by simp only [RelL] at *; exact hv
  | x :: l, cs, hn, hv => by
    simp only [RelL, AV.noNL, Bool.and_eq_true] at *
    obtain ⟨c, d, h1, h2, h3⟩ := hv
    exact ⟨c, d, h1, Rel.noN x c hn.1 h2, RelL.noN l d hn.2 h3⟩
theorem RelC.noN {E : RE} : ∀ (l : List AV) (cs : List Value), AV.noNL l = true → RelC E l cs → RelC E.bare l cs
  | [], _, _, hv => by simp only [RelC] at *; exact hv
  | x :: l, cs, hn, hv => by
    simp only [RelC, AV.noNL, Bool.and_eq_true] at *
    obtain ⟨c, d, h1, h2, h3⟩ := hv
    exact ⟨c, d, h1, Rel.noN x [c] hn.1 h2, RelC.noN l d hn.2 h3⟩
end
end Go.Fy
/- The engine, 2: abstract states, what they say of a frame and a world; weakest preconditions over them (my own text; any program). -/
namespace Go.Fy
open Go.RowKit
structure EnvOK (E : RE) : Prop where
  glob : ∀ g x, E.V.glob g = some x → E.G g ∧ ∃ ds, Holds E.w ⟨g, 0, none⟩ 0 ds ∧ Rel E.bare x ds
  sent : ∀ c, c ∈ E.V.codes → (E.V.eaddr c).spot = none ∧ E.G (E.V.eaddr c).block ∧ ∃ s, E.w.cell? (E.V.eaddr c) = some (.string s)
  inj : ∀ c d, c ∈ E.V.codes → d ∈ E.V.codes → E.V.eaddr c = E.V.eaddr d → c = d
  cold : ∀ c, c ∈ E.V.codes → ∃ cs t, E.w.heap[(E.V.eaddr c).block]? = some (.cells cs t (0, 0))
theorem EnvOK.le0 {E E' : RE} (k : EnvOK E) (h : E.le0 E') : EnvOK E' := by
  refine ⟨fun g x hx => ?_, fun c hc => ?_, fun c d hc hd he => ?_, fun c hc => ?_⟩
  · rw [h.V] at hx
    obtain ⟨h1, ds, h2, h3⟩ := k.glob g x hx
    exact ⟨h.G _ h1, ds, h2.le (h.old _ h1), Rel.le0 h.bare _ _ h3⟩
  · rw [h.V] at hc ⊢
    obtain ⟨h1, h2, s, h3⟩ := k.sent c hc
    refine ⟨h1, h.G _ h2, s, ?_⟩
    have e : E.V.eaddr c = ⟨(E.V.eaddr c).block, (E.V.eaddr c).off, none⟩ := by rw [← h1]
    rw [e] at h3 ⊢
    exact h.old _ h2 _ _ h3
  · rw [h.V] at hc hd he
    exact k.inj c d hc hd he
  · rw [h.V] at hc ⊢
    obtain ⟨cs, t, h1⟩ := k.cold c hc
    obtain ⟨c', t', fr', h2, h3⟩ := h.size _ cs t (0, 0) h1
    have h4 := congrArg Prod.snd h3
    dsimp only at h4
    subst h4
    exact ⟨c', t', h2⟩
theorem EnvOK.le {E E' : RE} (k : EnvOK E) (h : E.le E') : EnvOK E' := k.le0 h.le0
/-- An own block that lays such a value (there may be room behind it). -/
def Blk (E : RE) (b : Nat) (x : AV) : Prop :=
  ∃ (c : Array Value) (t : TypeId) (fr : Nat × Nat) (cs rest : List Value), E.w.heap[b]? = some (.cells c t fr) ∧ c.toList = cs ++ rest ∧ Rel E x cs ∧
    ∀ o, o < c.size → E.w.frozen? ⟨b, o, none⟩ = false
def getF : List (Nat × AV) → Nat → AV
  | [], _ => .top
  | (d, v) :: r, t => bif Nat.beq d t then v else getF r t
def getH : List (Nat × Option AV) → Nat → Option AV
  | [], _ => none
  | (d, v) :: r, t => bif Nat.beq d t then v else getH r t
theorem getF_cons (d : Nat) (v : AV) (r : List (Nat × AV)) (t : Nat) : getF ((d, v) :: r) t = if d = t then v else getF r t := by
  simp only [getF]
  by_cases h : d = t
  · subst h; simp [Nat.beq_refl]
  · have : Nat.beq d t = false := Bool.eq_false_iff.2 fun e => h (Nat.eq_of_beq_eq_true e)
    simp [this, h]
theorem getH_cons (d : Nat) (v : Option AV) (r : List (Nat × Option AV)) (t : Nat) : getH ((d, v) :: r) t = if d = t then v else getH r t := by
  simp only [getH]
  by_cases h : d = t
  · subst h; simp [Nat.beq_refl]
  · have : Nat.beq d t = false := Bool.eq_false_iff.2 fun e => h (Nat.eq_of_beq_eq_true e)
    simp [this, h]
structure St where
  F : List (Nat × AV)
  H : List (Nat × Option AV)
  nm : List Nat
structure Ctx where
  V : Env
  N : Nat
  w0 : World
  G0 : Nat → Prop
  σ0 : Nat → Nat
  nm0 : List Nat
  own0 : Nat → Prop
def Ctx.G (C : Ctx) (H : List (Nat × Option AV)) (w : World) (σ : Nat → Nat) (b : Nat) : Prop :=
  C.G0 b ∨ (C.w0.heap.size ≤ b ∧ b < w.heap.size ∧ ∀ i x, getH H i = some x → σ i ≠ b)
def Ctx.RE (C : Ctx) (S : St) (w : World) (σ : Nat → Nat) : RE := ⟨C.V, w, σ, S.nm, C.G S.H w σ⟩
structure Kept (C : Ctx) (w : World) : Prop where
  os : w.os = C.w0.os
  tape : w.tape = C.w0.tape
  output : w.output = C.w0.output
  size : C.w0.heap.size ≤ w.heap.size
  block : ∀ b, b < C.w0.heap.size → ¬ C.own0 b → w.heap[b]? = C.w0.heap[b]?
  cells : ∀ (b : Nat) (c : Array Value) (t : TypeId) (fr : Nat × Nat), C.w0.heap[b]? = some (.cells c t fr) → ∃ (c' : Array Value) (t' : TypeId) (fr' : Nat × Nat), w.heap[b]? = some (.cells c' t' fr') ∧ (c.size, fr) = (c'.size, fr')
structure Ctx.OK (C : Ctx) : Prop where
  lt : ∀ b, C.G0 b → b < C.w0.heap.size
  not : ∀ b, C.G0 b → ¬ C.own0 b
/-- The mark that a range over a function leaves among a frame's deferred calls. -/
def mark (D : Nat) : Deferred := { target := .collected D, args := #[] }
/-- Marks alone, each with a block of its own, made since the function began. -/
def Marks (n : Nat) (w : World) (ds : List Deferred) : Prop := ∃ Ds : List Nat, ds = Ds.map mark ∧ Ds.Nodup ∧ ∀ D, D ∈ Ds → n ≤ D ∧ w.heap[D]? = some (.deferred (some []))
theorem Marks.nil (n : Nat) (w : World) : Marks n w [] := ⟨[], rfl, List.nodup_nil, fun _ h => by cases h⟩
theorem Marks.mono {n : Nat} {w w' : World} {ds : List Deferred} (h : Marks n w ds) (k : ∀ D, n ≤ D → w.heap[D]? = some (.deferred (some [])) → w'.heap[D]? = some (.deferred (some []))) : Marks n w' ds := by
  obtain ⟨Ds, h1, h2, h3⟩ := h
  exact ⟨Ds, h1, h2, fun D hD => ⟨(h3 D hD).1, k D (h3 D hD).1 (h3 D hD).2⟩⟩
structure ConcS (C : Ctx) (S : St) (a : Act) (w : World) (σ : Nat → Nat) : Prop where
  ok : C.OK
  defers : Marks C.w0.heap.size w a.defers
  size : a.tmps.size = C.N
  kept : Kept C w
  σ0 : ∀ i, i ∈ C.nm0 → σ i = C.σ0 i ∧ i ∈ S.nm
  inj : ∀ i j x y, getH S.H i = some x → getH S.H j = some y → σ i = σ j → i = j
  blk : ∀ i x, getH S.H i = some x → i ∈ S.nm ∧ ¬ C.G0 (σ i) ∧ (C.own0 (σ i) ∨ C.w0.heap.size ≤ σ i) ∧ Blk (C.RE S w σ) (σ i) x
  env : EnvOK (C.RE S w σ)
  slot : ∀ t, RelV (C.RE S w σ) (getF S.F t) (a.tmps.getD t undef)
def Conc (C : Ctx) (S : St) (a : Act) (w : World) : Prop := ∃ σ, ConcS C S a w σ
/-! ### Control -/
def AWP (C : Ctx) (c : Code) (Q : Exit → St → Prop) (S : St) : Prop :=
  ∀ a w, Conc C S a w → c.wp C.V.P (fun e a' w' => ∃ S', Conc C S' a' w' ∧ Q e S') a w
def AThen (K : St → Prop) (Q : Exit → St → Prop) : Exit → St → Prop
  | .normal, S => K S
  | e, S => Q e S
def AIn (id : Nat) (Q : Exit → St → Prop) : Exit → St → Prop
  | .exit i, S => if i = id then Q .normal S else Q (.exit i) S
  | e, S => Q e S
theorem AWP.mono {C : Ctx} {c : Code} {Q Q' : Exit → St → Prop} {S : St} (h : AWP C c Q S) (hq : ∀ e S, Q e S → Q' e S) : AWP C c Q' S :=
  fun a w hc => wp_mono (h a w hc) fun _ _ _ ⟨S', h1, h2⟩ => ⟨S', h1, hq _ _ h2⟩
theorem awp_skip {C : Ctx} {Q : Exit → St → Prop} {S : St} (h : Q .normal S) : AWP C .skip Q S := fun _ _ hc => wp_skip ⟨S, hc, h⟩
theorem awp_ret {C : Ctx} {Q : Exit → St → Prop} {S : St} (h : Q .ret S) : AWP C .ret Q S := fun _ _ hc => wp_ret ⟨S, hc, h⟩
theorem awp_exit {C : Ctx} {Q : Exit → St → Prop} {S : St} {id : Nat} (h : Q (.exit id) S) : AWP C (.exit id) Q S := fun _ _ hc => wp_exit ⟨S, hc, h⟩
theorem awp_seq {C : Ctx} {Q : Exit → St → Prop} {S : St} {x y : Code} (h : AWP C x (AThen (AWP C y Q) Q) S) : AWP C (.seq x y) Q S :=
  fun a w hc => wp_seq (wp_mono (h a w hc) fun e a' w' ⟨S', h1, h2⟩ => by
    cases e <;> first
      | exact h2 a' w' h1
      | exact ⟨S', h1, h2⟩)
theorem awp_block {C : Ctx} {Q : Exit → St → Prop} {S : St} {id : Nat} {c : Code} (h : AWP C c (AIn id Q) S) : AWP C (.block id c) Q S :=
  fun a w hc => wp_block (wp_mono (h a w hc) fun e a' w' ⟨S', h1, h2⟩ => by
    cases e <;> first
      | exact ⟨S', h1, h2⟩
      | (simp only [Exit.inBlock, AIn] at *
         split
         · rename_i he; rw [if_pos he] at h2; exact ⟨S', h1, h2⟩
         · rename_i he; rw [if_neg he] at h2; exact ⟨S', h1, h2⟩))
/-- Where a state says less. -/
def St.imp (C : Ctx) (S S' : St) : Prop := ∀ a w, Conc C S a w → Conc C S' a w
theorem AWP.imp {C : Ctx} {c : Code} {Q : Exit → St → Prop} {S S' : St} (h : S.imp C S') (k : AWP C c Q S') : AWP C c Q S := fun a w hc => k a w (h a w hc)
theorem awp_loop {C : Ctx} {Q : Exit → St → Prop} {S : St} {c : Code} {ι : Type} (I : ι → St) (μ : ι → Nat) (i₀ : ι) (h₀ : S.imp C (I i₀))
    (round : ∀ i, AWP C c (AThen (fun S' => ∃ j, S'.imp C (I j) ∧ μ j < μ i) Q) (I i)) : AWP C (.loop c) Q S := by
  intro a w hc b k cs
  have key : ∀ n i a w, μ i = n → Conc C (I i) a w →
      ∃ e a' w', (∃ S', Conc C S' a' w' ∧ Q e S') ∧ Arrives C.V.P (lone (b.at a (.code c :: .inLoop c :: k)) cs w) b k cs e a' w' := by
    intro n
    induction n using Nat.strongRecOn with
    | _ n ih =>
      intro i a w hn hI
      obtain ⟨e, a₁, w₁, ⟨S', hS, hq⟩, harr⟩ := round i a w hI b (.inLoop c :: k) cs
      cases e with
      | normal =>
        obtain ⟨j, hj, hlt⟩ := hq
        obtain ⟨e₂, a₂, w₂, hq₂, harr₂⟩ := ih (μ j) (hn ▸ hlt) j a₁ w₁ rfl (hj _ _ hS)
        exact ⟨e₂, a₂, w₂, hq₂, .of_steps (Steps.trans harr (.one step_inLoop)) harr₂⟩
      | exit id => exact ⟨_, a₁, w₁, ⟨S', hS, hq⟩, .pass (x := .inLoop c) rfl (fun _ _ => .inl (by simp)) harr⟩
      | goto l => exact ⟨_, a₁, w₁, ⟨S', hS, hq⟩, .pass (x := .inLoop c) rfl (fun _ _ => .inl (by simp)) harr⟩
      | ret => exact ⟨_, a₁, w₁, ⟨S', hS, hq⟩, .pass (x := .inLoop c) rfl (fun _ _ => .inl (by simp)) harr⟩
      | panic ch => exact ⟨_, a₁, w₁, ⟨S', hS, hq⟩, .pass (x := .inLoop c) rfl (fun _ _ => .inl (by simp)) harr⟩
      | outgrown => exact ⟨_, a₁, w₁, ⟨S', hS, hq⟩, .pass (x := .inLoop c) rfl (fun _ _ => .inl (by simp)) harr⟩
  obtain ⟨e, a', w', hq, harr⟩ := key _ i₀ a w rfl (h₀ _ _ hc)
  exact ⟨e, a', w', hq, .of_steps (.one step_loop) harr⟩
/-! ### Operands -/
def constCell : Value → AV
  | .bool b => .bool b
  | .int k n => .int k n
  | .string s => .str s.data.toList
  | .nilIface => .err .nil
  | .slice none 0 0 => .sl 1 true 0 fun _ => .top
  | .agg _ => .top
  | .tuple _ => .top
  | v => .val v
def constAV : Value → AV
  | .agg cs => if cs.toList.all Value.oneCell' then .agg (cs.toList.map constCell) else .top
  | v => constCell v
theorem constCell_rel (E : RE) (v : Value) (hv : v.oneCell' = true) : Rel E (constCell v) [v] := by
  unfold constCell
  split <;> simp [Rel, Value.oneCell'] at * <;> first
    | exact hv
    | simp [ErrRel]
    | exact ⟨none, 0, ⟨rfl, rfl⟩, rfl, by simp, by simp⟩
    | (refine ⟨none, 0, ?_⟩; simp; done)
    | (refine ⟨none, ⟨0, ?_⟩, ?_⟩ <;> simp; done)
theorem constCell_one (v : Value) : (constCell v).one = true := by unfold constCell; split <;> rfl
theorem constCells_rel (E : RE) : ∀ (l : List Value), (∀ v ∈ l, v.oneCell' = true) → RelL E (l.map constCell) l
  | [], _ => by simp [RelL]
  | v :: l, h => by
    simp only [List.map_cons, RelL]
    exact ⟨[v], l, rfl, constCell_rel E v (h v (by simp)), constCells_rel E l fun u hu => h u (by simp [hu])⟩
theorem Rel.toV {E : RE} {x : AV} {v : Value} (h : Rel E x [v]) (hx : x.one = true) : RelV E x v := by
  cases x <;> simp only [AV.one] at hx <;> first
    | (cases hx; done)
    | (simp only [RelV]; done)
    | (simp only [RelV]; exact h)
    | (simp only [RelV]; simpa [Rel] using h)
theorem RelV.toRel {E : RE} {x : AV} {v : Value} (h : RelV E x v) (hx : x.one = true) (ht : x ≠ .top) : Rel E x [v] := by
  cases x <;> simp only [AV.one] at hx <;> first
    | (cases hx; done)
    | (exact absurd rfl ht)
    | (simp only [RelV] at h; exact h)
    | (simp only [RelV] at h; simpa [Rel] using h)
def ev (V : Env) (F : List (Nat × AV)) : Operand → AV
  | .tmp t => getF F t
  | .const v => constAV v
  | .global g => match V.glob g with
    | some x => .fptr x
    | none => .top
  | .func f => .fn f []
theorem ev_rel {C : Ctx} {S : St} {a : Act} {w : World} {σ : Nat → Nat} (h : ConcS C S a w σ) (x : Operand) : RelV (C.RE S w σ) (ev C.V S.F x) (a.eval x) := by
  cases x with
  | tmp t => exact h.slot t
  | const v =>
    show RelV _ (constAV v) v
    unfold constAV
    split
    · rename_i cs
      split
      · rename_i hc
        simp only [RelV]
        exact ⟨cs, rfl, constCells_rel _ _ fun v hv => List.all_eq_true.1 hc v hv⟩
      · simp [RelV]
    · rename_i hv
      cases hv1 : v.oneCell' with
      | true =>
        exact Rel.toV (constCell_rel _ v hv1) (constCell_one v)
      | false => cases v <;> simp [constCell, RelV, Value.oneCell'] at *
  | global g =>
    simp only [ev]
    cases hx : C.V.glob g with
    | some x =>
      obtain ⟨h1, ds, h2, h3⟩ := h.env.glob g x hx
      simp only [RelV, Rel]
      exact ⟨_, rfl, rfl, h1, ds, h2, h3⟩
    | none => simp only [RelV]
  | func f =>
    show RelV _ (AV.fn f []) (.func (.func f) #[] #[])
    simp [RelV, Rel, RelC]
/-! ### Steps -/
/-- What an operation does to a state. -/
structure Upd where
  v : AV
  H : List (Nat × Option AV) := []
  nm : List Nat := []
def St.upd (S : St) (dst : Option Tmp) (D : Upd) : St :=
  ⟨match dst with | some d => (d, D.v) :: S.F | none => S.F, D.H ++ S.H, D.nm ++ S.nm⟩
/-- A slot is written. -/
theorem ConcS.put {C : Ctx} {S : St} {a : Act} {w : World} {σ : Nat → Nat} (h : ConcS C S a w σ) (dst : Option Tmp) (v : AV) (u : Value)
    (hd : ∀ d, dst = some d → d < C.N) (hv : RelV (C.RE S w σ) v u) : ConcS C (S.upd dst ⟨v, [], []⟩) (a.put dst u) w σ := by
  cases dst with
  | none => exact h
  | some d =>
    refine ⟨h.ok, h.defers, by simp [Act.put, h.size], h.kept, h.σ0, h.inj, h.blk, h.env, fun t => ?_⟩
    have hlt : d < a.tmps.size := by rw [h.size]; exact hd d rfl
    show RelV (C.RE S w σ) (getF ((d, v) :: S.F) t) ((a.tmps.setIfInBounds d u).getD t undef)
    rw [getF_cons]
    by_cases e : d = t
    · subst e
      rw [if_pos rfl]
      simpa [Array.getD, hlt] using hv
    · rw [if_neg e]
      have := h.slot t
      simpa [Array.getD_eq_getD_getElem?, Array.getElem?_setIfInBounds_ne e] using this
/-- An operation whose value hangs on its operands and on memory, and which leaves memory alone. -/
def OpP (V : Env) (o : Oper) (ρ : Operand → AV) (η : Nat → Option AV) (v : AV) : Prop :=
  ∀ (E : RE) (ε : Operand → Value), E.V = V → EnvOK E → (∀ x, x ∈ o.op.operands → RelV E (ρ x) (ε x)) → (∀ i y, η i = some y → i ∈ E.nm ∧ Blk E (E.σ i) y) →
    ∃ n, ((execOp ε o).run V.P E.w = .ok n E.w) ∧ ((∃ u, n = .value u ∧ RelV E v u) ∨ (n = .skip ∧ v = .top))
/-- From state to state. -/
def ActS (C : Ctx) (o : Oper) (S S' : St) : Prop :=
  ∀ a w, Conc C S a w → o.wp C.V.P a w (fun a' w' => Conc C S' a' w') (fun _ _ _ => False)
def Sub (V : Env) (x y : AV) : Prop := ∀ (E : RE) (v : Value), E.V = V → RelV E x v → RelV E y v
theorem Sub.refl (V : Env) (x : AV) : Sub V x x := fun _ _ _ h => h
def OpR (C : Ctx) (o : Oper) (ρ : Operand → AV) (η : Nat → Option AV) (D : Upd) : Prop :=
  (∀ d, o.dst = some d → d < C.N) → ∀ S : St, (∀ x, x ∈ o.op.operands → Sub C.V (ev C.V S.F x) (ρ x)) → (∀ i y, η i = some y → getH S.H i = some y) →
    (∀ n, n ∈ D.nm → n ∉ S.nm) → ActS C o S (S.upd o.dst D)
theorem OpP.r {C : Ctx} {o : Oper} {ρ : Operand → AV} {η : Nat → Option AV} {v : AV} (h : OpP C.V o ρ η v) : OpR C o ρ η ⟨v, [], []⟩ := by
  intro hd S hρ hη _ a w ⟨σ, hc⟩
  obtain ⟨n, h1, h2⟩ := h (C.RE S w σ) a.eval rfl hc.env (fun x hx => hρ x hx _ _ rfl (ev_rel hc x)) (fun i y hy => ⟨(hc.blk i y (hη i y hy)).1, (hc.blk i y (hη i y hy)).2.2.2⟩)
  have h1' : (execOp a.eval o).run C.V.P w = .ok n w := h1
  unfold Oper.wp
  rw [h1']
  rcases h2 with ⟨u, rfl, hu⟩ | ⟨rfl, rfl⟩
  · exact ⟨σ, hc.put o.dst v u hd hu⟩
  · exact ⟨σ, hc.put o.dst .top undef hd (by simp [RelV])⟩
/-- One operation of a region that doesn't draw. -/
def AOp (C : Ctx) (ops : Array Oper) (o : Oper) (K : St → Prop) (S : St) : Prop :=
  (∀ d, o.dst = some d → d < C.N) → ∀ a w, Conc C S a w →
    if Region.wanted o (yielded ops a.tmps) then o.wp C.V.P a w (fun a' w' => ∃ S', Conc C S' a' w' ∧ K S') (fun _ _ _ => False)
    else ∃ S', Conc C S' (a.put o.dst undef) w ∧ K S'
def AL (C : Ctx) (ops : Array Oper) : List Oper → (St → Prop) → St → Prop
  | [], K, S => K S
  | o :: r, K, S => AOp C ops o (AL C ops r K) S
theorem LetsOut.false {Q : Exit → Act → World → Prop} (h : ∀ a w, ¬ Q .outgrown a w) : ¬ LetsOut Q := fun ⟨a, w, k⟩ => h a w k
theorem Oper.wp_nopanic {P : Program} {o : Oper} {a : Act} {w : World} {K : Act → World → Prop} (Q : Exit → Act → World → Prop) (h : o.wp P a w K (fun _ _ _ => False)) : o.wp P a w K Q := by
  unfold Oper.wp at *
  generalize (execOp a.eval o).run P w = r at *
  cases r with
  | ok n w' =>
    cases n <;> simp only [Oper.upon] at h ⊢ <;> first
      | exact h
      | exact Calls.mono h (fun e w'' he => by cases e <;> first | exact he | exact he.elim | (obtain ⟨_, _, k⟩ := he; exact k.elim))
  | halt x w' => cases x <;> simp only [Oper.upon] at h ⊢
theorem al_ops {C : Ctx} {ops : Array Oper} {Q : Exit → St → Prop} : ∀ (l : List Oper) (k : Nat) (S : St), (∀ j, l[j]? = ops[k + j]?) → (∀ o ∈ l, ∀ d, o.dst = some d → d < C.N) →
    AL C ops l (Q .normal) S → ∀ a w, Conc C S a w → wpOps C.V.P ops (fun e a' w' => ∃ S', Conc C S' a' w' ∧ Q e S') (List.range' k l.length) a w
  | [], k, S, _, _, h, a, w, hc => by simpa [wpOps] using ⟨S, hc, h⟩
  | o :: l, k, S, hl, hd, h, a, w, hc => by
    have h0 : ops[k]? = some o := by simpa using (hl 0).symm
    have ih := fun S' (hk : AL C ops l (Q .normal) S') a' w' (hc' : Conc C S' a' w') => al_ops l (k + 1) S' (fun j => by have := hl (j + 1); simpa [Nat.add_assoc, Nat.add_comm 1 j] using this)
      (fun o' ho' => hd o' (by simp [ho'])) hk a' w' hc'
    have h1 := h (hd o (by simp)) a w hc
    simp only [List.length_cons, List.range'_succ, wpOps, h0]
    split
    · rename_i hw
      rw [if_pos hw] at h1
      left
      exact Oper.wp_nopanic _ (Oper.wp_mono (fun a' w' ⟨S', h2, h3⟩ => ih S' h3 a' w' h2) h1)
    · rename_i hw
      rw [if_neg hw] at h1
      obtain ⟨S', h2, h3⟩ := h1
      exact ih S' h3 _ _ h2
theorem awp_region {C : Ctx} {Q : Exit → St → Prop} {S : St} {id : Nat} {ops : List Oper} (hd : (ops.all fun o => o.dst.all (· < C.N)) = true)
    (h : AL C ops.toArray ops (Q .normal) S) : AWP C (.region id ops.toArray false) Q S := by
  intro a w hc
  refine wp_region ?_
  have := al_ops (C := C) (ops := ops.toArray) (Q := Q) ops 0 S (fun j => by simp) (fun o ho d he => by have := List.all_eq_true.1 hd o ho; simpa [he] using this) h a w hc
  simpa [List.range_eq_range'] using this
theorem aop {C : Ctx} {ops : Array Oper} {o : Oper} {K : St → Prop} {S : St} (D : Upd) (hg : o.guard = none) (h : OpR C o (ev C.V S.F) (getH S.H) D)
    (hn : ∀ n, n ∈ D.nm → n ∉ S.nm) (k : K (S.upd o.dst D)) : AOp C ops o K S := by
  intro hd a w hc
  rw [if_pos (by simp [Region.wanted, hg])]
  exact Oper.wp_mono (fun a' w' h' => ⟨_, h', k⟩) (h hd S (fun x _ => Sub.refl _ _) (fun _ _ h => h) hn a w hc)
/-- Without a change of memory. -/
theorem aopP {C : Ctx} {ops : Array Oper} {o : Oper} {K : St → Prop} {S : St} (v : AV) (hg : o.guard = none) (h : OpP C.V o (ev C.V S.F) (getH S.H) v)
    (k : K (S.upd o.dst ⟨v, [], []⟩)) : AOp C ops o K S := aop ⟨v, [], []⟩ hg h.r (fun n h => by cases h) k
/-! ### Guards -/
mutual
def AV.un : AV → AV
  | .gd _ x => x.un
  | x => x
def AV.gs : AV → Bool
  | .gd g x => g && x.gs
  | _ => true
end
theorem Sub.un {V : Env} : ∀ (x : AV), x.gs = true → Sub V x x.un
  | .gd g x, h => fun E v hE hv => by
    simp only [AV.gs, Bool.and_eq_true] at h
    simp only [AV.un]
    simp only [RelV] at hv
    exact Sub.un x h.2 E v hE (hv.1 h.1)
  | .top, _ | .bool _, _ | .int _ _, _ | .str _, _ | .val _, _ | .err _, _ | .sl _ _ _ _, _ | .fptr _, _ | .ptr _ _ _, _ | .osl _ _ _ _ _, _ | .agg _, _ | .arr _ _ _, _ | .tup _, _ | .fn _ _, _ | .mp _ _, _ => fun _ _ _ h => h
def AV.guard : AV → Bool → Option Bool
  | .bool b, want => some (b == want)
  | .gd g x, want => (x.guard want).map (g && ·)
  | _, _ => none
theorem guard_spec {E : RE} : ∀ (x : AV) (want c : Bool) (v : Value), x.guard want = some c → RelV E x v → ((match v with | .bool b => some b | _ => none) == some want) = c
  | .bool b, want, c, v, h, hv => by
    simp only [AV.guard, Option.some.injEq] at h
    simp only [RelV] at hv
    subst hv; subst h
    cases b <;> cases want <;> rfl
  | .gd g x, want, c, v, h, hv => by
    simp only [AV.guard, Option.map_eq_some_iff] at h
    obtain ⟨c', h1, h2⟩ := h
    simp only [RelV] at hv
    cases g with
    | true => rw [← h2]; simpa using guard_spec x want c' v h1 (hv.1 rfl)
    | false => rw [← h2, hv.2 rfl]; simp [undef]
  | .top, _, _, _, h, _ | .int _ _, _, _, _, h, _ | .str _, _, _, _, h, _ | .val _, _, _, _, h, _ | .err _, _, _, _, h, _ | .sl _ _ _ _, _, _, _, h, _ | .fptr _, _, _, _, h, _
  | .ptr _ _ _, _, _, _, h, _ | .osl _ _ _ _ _, _, _, _, h, _ | .agg _, _, _, _, h, _ | .arr _ _ _, _, _, _, h, _ | .tup _, _, _, _, h, _ | .fn _ _, _, _, _, h, _ | .mp _ _, _, _, _, h, _ => by simp [AV.guard] at h
theorem wanted_spec {C : Ctx} {S : St} {a : Act} {w : World} {σ : Nat → Nat} (hc : ConcS C S a w σ) {ops : Array Oper} {o : Oper} {j d : Nat} {want c : Bool}
    (hg : o.guard = some (j, want)) (hj : (ops[j]?).bind (·.dst) = some d) (hgd : (getF S.F d).guard want = some c) : Region.wanted o (yielded ops a.tmps) = c := by
  simp only [Region.wanted, hg, yielded, hj, Option.bind_some]
  have h1 := hc.slot d
  have h2 := guard_spec _ want c _ hgd h1
  rw [← h2]
  rcases Nat.lt_or_ge d a.tmps.size with hlt | hge
  · simp [Array.getD, hlt]
    cases a.tmps[d] <;> rfl
  · simp [Array.getD, Nat.not_lt.2 hge, undef]
/-- An operation under a guard: it leaves memory alone. -/
theorem aopG {C : Ctx} {ops : Array Oper} {o : Oper} {K : St → Prop} {S : St} (v : AV) {j d : Nat} {want : Bool} (c : Bool) (hg : o.guard = some (j, want))
    (hj : (ops[j]?).bind (·.dst) = some d) (hgd : (getF S.F d).guard want = some c)
    (hs : c = true → (o.op.operands.toList.all fun x => (ev C.V S.F x).gs) = true) (h : c = true → OpP C.V o (fun x => (ev C.V S.F x).un) (getH S.H) v)
    (k : K (S.upd o.dst ⟨.gd c v, [], []⟩)) : AOp C ops o K S := by
  intro hd a w ⟨σ, hc⟩
  rw [wanted_spec hc hg hj hgd]
  cases c with
  | false =>
    rw [if_neg (by simp)]
    exact ⟨_, ⟨σ, hc.put o.dst (.gd false v) undef hd (by simp [RelV])⟩, k⟩
  | true =>
    rw [if_pos rfl]
    have h1 := (h rfl).r hd S (fun x hx => Sub.un _ (by have := List.all_eq_true.1 (hs rfl) x (by simpa using hx); exact this)) (fun _ _ h => h) (fun n h => by cases h) a w ⟨σ, hc⟩
    refine Oper.wp_mono (fun a' w' h' => ⟨_, ?_, k⟩) h1
    obtain ⟨σ', hc'⟩ := h'
    cases hdst : o.dst with
    | none => rw [hdst] at hc'; exact ⟨σ', hc'⟩
    | some d' =>
      rw [hdst] at hc'
      refine ⟨σ', ⟨hc'.ok, hc'.defers, hc'.size, hc'.kept, hc'.σ0, hc'.inj, hc'.blk, hc'.env, fun t => ?_⟩⟩
      have := hc'.slot t
      simp only [St.upd] at this ⊢
      rw [getF_cons] at this ⊢
      split
      · rename_i e; rw [if_pos e] at this; simp only [RelV]; exact ⟨fun _ => this, fun h => by cases h⟩
      · rename_i e; rw [if_neg e] at this; exact this
end Go.Fy
/- The engine, 3: operations that leave memory alone (my own text; any program). -/
set_option linter.unusedSimpArgs false
namespace Go.Fy
open Go.RowKit
/-! ### Closed facts on types -/
def aggDesc : TypeDesc → Bool
  | .struct _ | .array _ _ => true
  | _ => false
def tyOf (P : Program) (t : TypeId) : Option (Bool × Nat) :=
  match P.underlying t, P.info? t with
  | some d, some i => some (aggDesc d, i.size)
  | _, _ => none
def fldOf (P : Program) (t : TypeId) (k : Nat) : Option (Nat × Nat × Bool) :=
  match P.underlying t with
  | some (.struct fs) => match fs[k]? with
    | some f => match P.underlying f.type, P.info? f.type with
      | some d, some i => some (f.offset, i.size, aggDesc d)
      | _, _ => none
    | none => none
  | _ => none
/-- A slice type's elements: their type, their cells. -/
def elOf (P : Program) (t : TypeId) : Option (TypeId × Nat) :=
  match P.underlying t with
  | some (.slice e) => match P.info? e with
    | some i => some (e, i.size)
    | none => none
  | _ => none
def arrOf (P : Program) (t : TypeId) : Option (Nat × Nat × Bool) :=
  match P.underlying t with
  | some (.array n e) => match P.underlying e, P.info? e with
    | some d, some i => some (n, i.size, aggDesc d)
    | _, _ => none
  | _ => none
theorem tyOf_spec {P : Program} {t : TypeId} {b : Bool} {n : Nat} (h : tyOf P t = some (b, n)) :
    (∀ w, (isAgg t).run P w = .ok b w) ∧ (∀ w, (sizeOf t).run P w = .ok n w) := by
  unfold tyOf at h
  split at h
  · rename_i d i h1 h2
    simp only [Option.some.injEq, Prod.mk.injEq] at h
    obtain ⟨rfl, rfl⟩ := h
    refine ⟨fun w => ?_, fun w => ?_⟩
    · unfold isAgg
      simp only [Sem.run_bind, run_underlying h1, Result.andThen]
      cases d <;> rfl
    · simp [sizeOf, typeInfo, h2]
  · cases h
section
variable {V : Env} {o : Oper} {ρ : Operand → AV} {η : Nat → Option AV}
theorem opp_val {v : AV}
    (h : ∀ (E : RE) (ε : Operand → Value), E.V = V → EnvOK E → (∀ x, x ∈ o.op.operands → RelV E (ρ x) (ε x)) → (∀ i y, η i = some y → i ∈ E.nm ∧ Blk E (E.σ i) y) →
    ∃ u, (execOp ε o).run V.P E.w = .ok (.value u) E.w ∧ RelV E v u) : OpP V o ρ η v :=
  fun E ε h1 h2 h3 h4 => let ⟨u, h5, h6⟩ := h E ε h1 h2 h3 h4; ⟨.value u, h5, .inl ⟨u, rfl, h6⟩⟩
theorem opp_move (x : Operand) (ho : o.op = .move x) : OpP V o ρ η (ρ x) :=
  opp_val fun E ε _ _ h _ => ⟨ε x, by simp [execOp, ho], h x (by simp [ho, Op.operands])⟩
theorem opp_assign (x : Operand) (ho : o.op = .assign x) : OpP V o ρ η (ρ x) :=
  opp_val fun E ε _ _ h _ => ⟨ε x, by simp [execOp, ho], h x (by simp [ho, Op.operands])⟩
theorem opp_mv {x : Operand} {v : AV} (ho : o.op = .move x) (hx : ρ x = v) : OpP V o ρ η v := hx ▸ opp_move x ho
theorem opp_as {x : Operand} {v : AV} (ho : o.op = .assign x) (hx : ρ x = v) : OpP V o ρ η v := hx ▸ opp_assign x ho
theorem opp_not {t : TypeId} {x : Operand} {b : Bool} (ho : o.op = .unOp .not t x) (hx : ρ x = .bool b) : OpP V o ρ η (.bool (!b)) :=
  opp_val fun E ε _ _ h _ => by
    have h1 := h x (by simp [ho, Op.operands])
    rw [hx] at h1; simp only [RelV] at h1
    exact ⟨.bool (!b), by simp [execOp, ho, h1, Op.unary], by simp [RelV]⟩
theorem eqGuard_int (P : Program) (w : World) (op : BinOp) (t : TypeId) (x y : Operand) (k l : IntKind) (a b : Int) : (eqGuard op t x y (.int k a) (.int l b)).run P w = .ok () w := by
  unfold eqGuard; split <;> rfl
/-- Integer arithmetic: the value as the caller would have it. -/
theorem opp_arith {op : BinOp} {t u : TypeId} {x y : Operand} {k : IntKind} {a b n : Int} (ho : o.op = .binOp op t x y u) (hx : ρ x = .int k a) (hy : ρ y = .int k b)
    (hop : (op = .add ∧ k.wrap (a + b) = n) ∨ (op = .sub ∧ k.wrap (a - b) = n) ∨ (op = .mul ∧ k.wrap (a * b) = n) ∨
      (op = .quo ∧ b ≠ 0 ∧ k.wrap (a.tdiv b) = n) ∨ (op = .rem ∧ b ≠ 0 ∧ a.tmod b = n) ∨
      (op = .and ∧ k.wrap (BitVec.ofInt k.bits a &&& BitVec.ofInt k.bits b).toNat = n) ∨ (op = .or ∧ k.wrap (BitVec.ofInt k.bits a ||| BitVec.ofInt k.bits b).toNat = n) ∨
      (op = .xor ∧ k.wrap (BitVec.ofInt k.bits a ^^^ BitVec.ofInt k.bits b).toNat = n) ∨ (op = .andNot ∧ k.wrap (BitVec.ofInt k.bits a &&& ~~~ BitVec.ofInt k.bits b).toNat = n)) :
    OpP V o ρ η (.int k n) :=
  opp_val fun E ε _ _ h _ => by
    have h1 := h x (by simp [ho, Op.operands])
    have h2 := h y (by simp [ho, Op.operands])
    rw [hx] at h1; rw [hy] at h2
    simp only [RelV] at h1 h2
    refine ⟨.int k n, ?_, by simp [RelV]⟩
    simp only [execOp, ho, h1, h2, Sem.run_bind, eqGuard_int, Result.andThen]
    rcases hop with ⟨rfl, rfl⟩ | ⟨rfl, rfl⟩ | ⟨rfl, rfl⟩ | ⟨rfl, hb, rfl⟩ | ⟨rfl, hb, rfl⟩ | ⟨rfl, rfl⟩ | ⟨rfl, rfl⟩ | ⟨rfl, rfl⟩ | ⟨rfl, rfl⟩ <;>
      simp [binOp, Op.intArith, Op.intDiv, Op.intBits, Result.andThen, *]
theorem opp_shift {op : BinOp} {t u : TypeId} {x y : Operand} {k l : IntKind} {a b n : Int} (ho : o.op = .binOp op t x y u) (hx : ρ x = .int k a) (hy : ρ y = .int l b) (hb : 0 ≤ b)
    (hop : (op = .shl ∧ k.wrap (a * 2 ^ (min b.toNat k.bits)) = n) ∨ (op = .shr ∧ a.fdiv (2 ^ (min b.toNat k.bits)) = n)) : OpP V o ρ η (.int k n) :=
  opp_val fun E ε _ _ h _ => by
    have h1 := h x (by simp [ho, Op.operands])
    have h2 := h y (by simp [ho, Op.operands])
    rw [hx] at h1; rw [hy] at h2
    simp only [RelV] at h1 h2
    refine ⟨.int k n, ?_, by simp [RelV]⟩
    simp only [execOp, ho, h1, h2, Sem.run_bind, eqGuard_int, Result.andThen]
    rcases hop with ⟨rfl, rfl⟩ | ⟨rfl, rfl⟩ <;> simp [binOp, Op.shift, Result.andThen, Int.not_lt.2 hb]
def cmpI : BinOp → Int → Int → Bool
  | .eql, a, b => decide (a = b)
  | .neq, a, b => !decide (a = b)
  | .lss, a, b => decide (a < b)
  | .leq, a, b => decide (a ≤ b)
  | .gtr, a, b => decide (b < a)
  | .geq, a, b => decide (b ≤ a)
  | _, _, _ => false
def isCmp : BinOp → Bool
  | .eql | .neq | .lss | .leq | .gtr | .geq => true
  | _ => false
theorem opp_cmp {op : BinOp} {t u : TypeId} {x y : Operand} {k : IntKind} {a b : Int} (ho : o.op = .binOp op t x y u) (hx : ρ x = .int k a) (hy : ρ y = .int k b) (hop : isCmp op = true) :
    OpP V o ρ η (.bool (cmpI op a b)) :=
  opp_val fun E ε _ _ h _ => by
    have h1 := h x (by simp [ho, Op.operands])
    have h2 := h y (by simp [ho, Op.operands])
    rw [hx] at h1; rw [hy] at h2
    simp only [RelV] at h1 h2
    refine ⟨.bool (cmpI op a b), ?_, by simp [RelV]⟩
    simp only [execOp, ho, h1, h2, Sem.run_bind, eqGuard_int, Result.andThen]
    cases op <;> simp [isCmp] at hop <;> simp [binOp, Op.intCmp, Result.andThen, cmpI] <;> rfl
theorem opp_convInt {s d : TypeId} {x : Operand} {k l : IntKind} {a n : Int} (ho : o.op = .convert s d x) (hx : ρ x = .int k a) (hs : (V.P.underlying s).isSome = true)
    (hd : V.P.underlying d = some (.int l)) (hn : l.wrap a = n) : OpP V o ρ η (.int l n) :=
  opp_val fun E ε _ _ h _ => by
    have h1 := h x (by simp [ho, Op.operands])
    rw [hx] at h1; simp only [RelV] at h1
    refine ⟨.int l n, ?_, by simp [RelV]⟩
    obtain ⟨ds, hs⟩ := Option.isSome_iff_exists.1 hs
    simp only [execOp, ho, h1, convert, Sem.run_bind, run_underlying hs, run_underlying hd, Result.andThen]
    cases ds <;> simp [Conv.intToInt, hn, Result.andThen]
/-! ### Strings -/
theorem eqGuard_str (P : Program) (w : World) (op : BinOp) (t : TypeId) (x y : Operand) (a b : ByteArray) : (eqGuard op t x y (.string a) (.string b)).run P w = .ok () w := by
  unfold eqGuard; split <;> rfl
theorem opp_strEq {op : BinOp} {t u : TypeId} {x y : Operand} {a b : List UInt8} {r : Bool} (ho : o.op = .binOp op t x y u) (hx : ρ x = .str a) (hy : ρ y = .str b)
    (hop : (op = .eql ∧ r = decide (a = b)) ∨ (op = .neq ∧ r = !decide (a = b))) : OpP V o ρ η (.bool r) :=
  opp_val fun E ε _ _ h _ => by
    have h1 := h x (by simp [ho, Op.operands])
    have h2 := h y (by simp [ho, Op.operands])
    rw [hx] at h1; rw [hy] at h2
    simp only [RelV, Rel, List.cons.injEq, and_true] at h1 h2
    refine ⟨.bool r, ?_, by simp [RelV]⟩
    simp only [execOp, ho, h1, h2, Sem.run_bind, eqGuard_str, Result.andThen]
    rcases hop with ⟨rfl, rfl⟩ | ⟨rfl, rfl⟩ <;> simp [binOp, Op.stringOp, Result.andThen] <;> (rw [Bool.eq_iff_iff]; simp)
/-- The length of a slice. -/
theorem opp_lenSl {x : Operand} {t e : TypeId} {z : Nat} {nn : Bool} {n : Nat} {f : Nat → AV} (ho : o.op = .call { callee := .builtin .len, args := #[x], argTypes := #[t] })
    (hx : ρ x = .sl z nn n f) (ht : V.P.underlying t = some (.slice e)) : OpP V o ρ η (.int .i64 n) :=
  opp_val fun E ε _ _ h _ => by
    have h1 := h x (by simp [ho, Op.operands, Call.operands])
    rw [hx] at h1
    simp only [RelV, Rel] at h1
    obtain ⟨a, cap, h1, -⟩ := h1
    simp only [List.cons.injEq, and_true] at h1
    refine ⟨.int .i64 n, ?_, by simp [RelV]⟩
    simp [execOp, ho, h1, resolve, invoke, builtin, Builtin.len_, Result.andThen, run_underlying ht, goInt]
theorem opp_lenOsl {x : Operand} {t e : TypeId} {i z of n c : Nat} (ho : o.op = .call { callee := .builtin .len, args := #[x], argTypes := #[t] }) (hx : ρ x = .osl i z of n c)
    (ht : V.P.underlying t = some (.slice e)) : OpP V o ρ η (.int .i64 n) :=
  opp_val fun E ε _ _ h _ => by
    have h1 := h x (by simp [ho, Op.operands, Call.operands])
    rw [hx] at h1
    simp only [RelV, Rel] at h1
    obtain ⟨-, -, a, c', h1, -⟩ := h1
    simp only [List.cons.injEq, and_true] at h1
    refine ⟨.int .i64 n, ?_, by simp [RelV]⟩
    simp [execOp, ho, h1, resolve, invoke, builtin, Builtin.len_, Result.andThen, run_underlying ht, goInt]
theorem asIntOf_run (P : Program) (w : World) (k : IntKind) (n : Int) : (asIntOf (.int k n)).run P w = .ok (k, n) w := rfl
/-- s[l:h] of a string; either bound may be missing. -/
def bound (d : Int) : Option AV → Option Int
  | none => some d
  | some (.int _ n) => some n
  | _ => none
theorem sliceBounds_run {P : Program} {w : World} (b : Bool) (len cap : Nat) (lo hi : Option Value) (l h : Int) (hlo : lo = none ∧ l = 0 ∨ ∃ k, lo = some (.int k l)) (hhi : hi = none ∧ h = len ∨ ∃ k, hi = some (.int k h))
    (h0 : 0 ≤ l) (h1 : l ≤ h) (h2 : h ≤ cap) : (Instr.sliceBounds b len cap lo hi none).run P w = .ok (l.toNat, h.toNat, cap) w := by
  have h3 : 0 ≤ h := by omega
  have h4 : l ≤ ((h.toNat : Nat) : Int) := by omega
  rcases hhi with ⟨rfl, e⟩ | ⟨k, rfl⟩ <;> rcases hlo with ⟨rfl, e'⟩ | ⟨k', rfl⟩
  · subst e; subst e'; simp [Instr.sliceBounds, Result.andThen]
  · subst e; simp only [Int.toNat_natCast] at h4; simp [Instr.sliceBounds, run_sliceBound _ _ _ _ _ h0 h4, Result.andThen]
  · subst e'; simp [Instr.sliceBounds, run_sliceBound _ _ _ _ _ h3 h2, Result.andThen]
  · simp [Instr.sliceBounds, run_sliceBound _ _ _ _ _ h3 h2, run_sliceBound _ _ _ _ _ h0 h4, Result.andThen]
end
end Go.Fy
/- The engine, 4: paths into what is laid; loads, addresses, slices (my own text; any program). -/
set_option linter.unusedSimpArgs false
namespace Go.Fy
open Go.RowKit
/-! ### Paths -/
def getP : List Nat → AV → Option AV
  | [], x => some x
  | k :: p, .agg l => match l[k]? with
    | some y => getP p y
    | none => none
  | k :: p, .arr _ _ f => getP p (f k)
  | _ :: _, _ => none
def inP : List Nat → AV → Prop
  | k :: p, .agg l => match l[k]? with
    | some y => inP p y
    | none => True
  | k :: p, .arr _ n f => k < n ∧ inP p (f k)
  | _, _ => True
def offP : List Nat → AV → Nat
  | k :: p, .agg l => match l[k]? with
    | some y => AV.szL (l.take k) + offP p y
    | none => 0
  | k :: p, .arr e _ f => k * e + offP p (f k)
  | _, _ => 0
/-- Does the path go through an array? -/
def thruA : List Nat → AV → Bool
  | k :: p, .agg l => match l[k]? with
    | some y => thruA p y
    | none => false
  | _ :: _, .arr _ _ _ => true
  | _, _ => false
def setP : List Nat → AV → AV → AV
  | [], _, y => y
  | k :: p, .agg l, y => match l[k]? with
    | some x => .agg (l.set k (setP p x y))
    | none => .agg l
  | k :: p, .arr e n f, y => .arr e n fun j => if j = k then setP p (f k) y else f j
  | _ :: _, x, _ => x
theorem take_drop_sub {α : Type} (cs : List α) (a s b t : Nat) (h : b + t ≤ s) : (((cs.drop a).take s).drop b).take t = (cs.drop (a + b)).take t := by
  rw [List.drop_take, List.take_take, List.drop_drop, Nat.min_eq_left (by omega)]
theorem RelL.get {E : RE} : ∀ (l : List AV) (cs : List Value) (k : Nat) (y : AV), RelL E l cs → l[k]? = some y →
    Rel E y ((cs.drop (AV.szL (l.take k))).take y.sz) ∧ AV.szL (l.take k) + y.sz ≤ cs.length
  | [], _, _, _, _, h => by simp at h
  | x :: l, cs, 0, y, h, hk => by
    simp only [RelL] at h
    obtain ⟨c, d, rfl, h1, h2⟩ := h
    simp at hk; subst hk
    have := Rel.length x c h1
    simp only [List.take_zero, AV.szL, List.drop_zero, Nat.zero_add, List.length_append]
    rw [← this, List.take_left' rfl]
    exact ⟨h1, by omega⟩
  | x :: l, cs, k + 1, y, h, hk => by
    simp only [RelL] at h
    obtain ⟨c, d, rfl, h1, h2⟩ := h
    obtain ⟨h3, h4⟩ := RelL.get l d k y h2 (by simpa using hk)
    have := Rel.length x c h1
    simp only [List.take_succ_cons, AV.szL, List.length_append]
    rw [← this, List.drop_length_add_append]
    exact ⟨h3, by omega⟩
theorem rel_getP {E : RE} : ∀ (p : List Nat) (t : AV) (cs : List Value) (x : AV), Rel E t cs → getP p t = some x → inP p t →
    Rel E x ((cs.drop (offP p t)).take x.sz) ∧ offP p t + x.sz ≤ cs.length
  | [], t, cs, x, h, hg, _ => by
    simp only [getP, Option.some.injEq] at hg
    subst hg
    have := Rel.length t cs h
    cases t <;> simp only [offP, List.drop_zero, Nat.zero_add, ← this, List.take_length] <;> exact ⟨h, Nat.le_refl _⟩
  | k :: p, .agg l, cs, x, h, hg, hi => by
    simp only [getP, inP, offP] at hg hi ⊢
    cases hk : l[k]? with
    | none => simp [hk] at hg
    | some y =>
      simp only [hk] at hg hi ⊢
      simp only [Rel] at h
      obtain ⟨h1, h2⟩ := RelL.get l cs k y h hk
      have hl := Rel.length y _ h1
      obtain ⟨h3, h4⟩ := rel_getP p y _ x h1 hg hi
      rw [hl] at h4
      rw [take_drop_sub _ _ _ _ _ h4] at h3
      exact ⟨h3, by omega⟩
  | k :: p, .arr e n f, cs, x, h, hg, hi => by
    simp only [getP, inP, offP] at hg hi ⊢
    simp only [Rel] at h
    obtain ⟨h1, h2⟩ := h.2 k hi.1
    obtain ⟨h3, h4⟩ := rel_getP p (f k) _ x (Rel.le E.bare_le _ _ h1) hg hi.2
    rw [h2] at h4
    rw [take_drop_sub _ _ _ _ _ h4] at h3
    refine ⟨h3, ?_⟩
    rw [List.length_take, List.length_drop] at h2
    have := Nat.mul_le_mul_right e (Nat.le_of_lt hi.1)
    omega
  | _ :: _, .top, _, _, _, h, _ | _ :: _, .bool _, _, _, _, h, _ | _ :: _, .int _ _, _, _, _, h, _ | _ :: _, .str _, _, _, _, h, _ | _ :: _, .val _, _, _, _, h, _ | _ :: _, .err _, _, _, _, h, _
  | _ :: _, .sl _ _ _ _, _, _, _, h, _ | _ :: _, .fptr _, _, _, _, h, _ | _ :: _, .ptr _ _ _, _, _, _, h, _ | _ :: _, .osl _ _ _ _ _, _, _, _, h, _ | _ :: _, .tup _, _, _, _, h, _
  | _ :: _, .fn _ _, _, _, _, h, _ | _ :: _, .gd _ _, _, _, _, h, _ | _ :: _, .mp _ _, _, _, _, h, _ => by simp [getP] at h
/-- Cells put in the place of cells. -/
def splice (cs : List Value) (a : Nat) (ds : List Value) : List Value := cs.take a ++ ds ++ cs.drop (a + ds.length)
theorem splice_length {cs ds : List Value} {a : Nat} (h : a + ds.length ≤ cs.length) : (splice cs a ds).length = cs.length := by
  simp only [splice, List.length_append, List.length_take, List.length_drop]; omega
theorem splice_append_left {c d ds : List Value} {a : Nat} (h : a + ds.length ≤ c.length) : splice (c ++ d) a ds = splice c a ds ++ d := by
  simp only [splice]
  rw [List.take_append_of_le_length (by omega), List.drop_append_of_le_length h, List.append_assoc, List.append_assoc, List.append_assoc]
theorem splice_append_right {c d ds : List Value} {a : Nat} : splice (c ++ d) (c.length + a) ds = c ++ splice d a ds := by
  simp only [splice]
  rw [show c.length + a + ds.length = c.length + (a + ds.length) by omega, List.take_length_add_append, List.drop_length_add_append, List.append_assoc, List.append_assoc, List.append_assoc]
theorem splice_getElem? {cs ds : List Value} {a j : Nat} (h : a + ds.length ≤ cs.length) : (splice cs a ds)[j]? = if a ≤ j ∧ j < a + ds.length then ds[j - a]? else cs[j]? := by
  simp only [splice]
  rw [List.append_assoc, List.getElem?_append]
  simp only [List.length_take, Nat.min_eq_left (show a ≤ cs.length by omega)]
  split
  · rename_i h1; rw [if_neg (by omega), List.getElem?_take_of_lt h1]
  · rename_i h1
    rw [List.getElem?_append]
    split
    · rw [if_pos (by omega)]
    · rw [if_neg (by omega), List.getElem?_drop]; congr 1; omega
theorem RelL.set {E : RE} : ∀ (l : List AV) (cs : List Value) (k : Nat) (y z : AV) (ds : List Value), RelL E l cs → l[k]? = some y → Rel E z ds → z.sz = y.sz →
    RelL E (l.set k z) (splice cs (AV.szL (l.take k)) ds)
  | [], _, _, _, _, _, _, h, _, _ => by simp at h
  | x :: l, cs, 0, y, z, ds, h, hk, hz, hs => by
    simp only [RelL] at h
    obtain ⟨c, d, rfl, h1, h2⟩ := h
    simp at hk; subst hk
    have e1 := Rel.length x c h1
    have e2 := Rel.length z ds hz
    simp only [List.take_zero, AV.szL, List.set_cons_zero, RelL]
    refine ⟨ds, d, ?_, hz, h2⟩
    simp only [splice, List.take_zero, List.nil_append, Nat.zero_add]
    rw [show ds.length = c.length by omega, List.drop_left' rfl]
  | x :: l, cs, k + 1, y, z, ds, h, hk, hz, hs => by
    simp only [RelL] at h
    obtain ⟨c, d, rfl, h1, h2⟩ := h
    have ih := RelL.set l d k y z ds h2 (by simpa using hk) hz hs
    have e1 := Rel.length x c h1
    simp only [List.take_succ_cons, AV.szL, List.set_cons_succ, RelL]
    exact ⟨c, _, by rw [← e1, splice_append_right], h1, ih⟩
theorem take_drop_splice_in {cs ds : List Value} {a s b : Nat} (hb : b + ds.length ≤ s) (ha : a + s ≤ cs.length) :
    ((splice cs (a + b) ds).drop a).take s = splice ((cs.drop a).take s) b ds := by
  apply List.ext_getElem?
  intro j
  have hl : ((cs.drop a).take s).length = s := by rw [List.length_take, List.length_drop]; omega
  rw [splice_getElem? (by omega)]
  by_cases hj : j < s
  · rw [List.getElem?_take_of_lt hj, List.getElem?_drop, splice_getElem? (by omega), List.getElem?_take_of_lt hj, List.getElem?_drop]
    by_cases hc : b ≤ j ∧ j < b + ds.length
    · rw [if_pos hc, if_pos (by omega)]; congr 1; omega
    · rw [if_neg hc, if_neg (by omega)]
  · rw [if_neg (by omega), List.getElem?_eq_none (by rw [List.length_take]; omega), List.getElem?_eq_none (by rw [hl]; omega)]
theorem take_drop_splice_out {cs ds : List Value} {a s b : Nat} (h : b + ds.length ≤ a ∨ a + s ≤ b) (hb : b + ds.length ≤ cs.length) :
    ((splice cs b ds).drop a).take s = (cs.drop a).take s := by
  apply List.ext_getElem?
  intro j
  by_cases hj : j < s
  · rw [List.getElem?_take_of_lt hj, List.getElem?_drop, splice_getElem? hb, List.getElem?_take_of_lt hj, List.getElem?_drop, if_neg (by omega)]
  · rw [List.getElem?_eq_none (by rw [List.length_take]; omega), List.getElem?_eq_none (by rw [List.length_take]; omega)]
theorem rel_setP {E : RE} : ∀ (p : List Nat) (t : AV) (cs : List Value) (x y : AV) (ds : List Value), Rel E t cs → getP p t = some x → inP p t → Rel E y ds → y.sz = x.sz → (thruA p t = true → y.noN = true) →
    Rel E (setP p t y) (splice cs (offP p t) ds)
  | [], t, cs, x, y, ds, h, hg, _, hy, hs, _ => by
    simp only [getP, Option.some.injEq] at hg
    subst hg
    have e1 := Rel.length t cs h
    have e2 := Rel.length y ds hy
    have : splice cs (offP [] t) ds = ds := by
      cases t <;> simp only [offP, splice, List.take_zero, List.nil_append, Nat.zero_add] <;> rw [List.drop_eq_nil_of_le (by omega), List.append_nil]
    rw [this]
    simpa only [setP] using hy
  | k :: p, .agg l, cs, x, y, ds, h, hg, hi, hy, hs, hn => by
    simp only [getP, inP, offP, setP, thruA] at hg hi hn ⊢
    cases hk : l[k]? with
    | none => simp [hk] at hg
    | some z =>
      simp only [hk] at hg hi hn ⊢
      simp only [Rel] at h ⊢
      obtain ⟨h1, h2⟩ := RelL.get l cs k z h hk
      have hl := Rel.length z _ h1
      have h3 := rel_setP p z _ x y ds h1 hg hi hy hs hn
      have h5 := (rel_getP p z _ x h1 hg hi).2
      have e2 := Rel.length y ds hy
      rw [hl] at h5
      have hlen := Rel.length _ _ h3
      rw [splice_length (by omega), hl] at hlen
      have h6 := RelL.set l cs k z (setP p z y) _ h hk h3 hlen.symm
      have : splice cs (AV.szL (l.take k)) (splice ((cs.drop (AV.szL (l.take k))).take z.sz) (offP p z) ds) = splice cs (AV.szL (l.take k) + offP p z) ds := by
        apply List.ext_getElem?
        intro j
        have hl2 : (splice ((cs.drop (AV.szL (l.take k))).take z.sz) (offP p z) ds).length = z.sz := by rw [splice_length (by omega), hl]
        rw [splice_getElem? (by omega), splice_getElem? (by omega), hl2]
        by_cases hj : AV.szL (l.take k) ≤ j ∧ j < AV.szL (l.take k) + z.sz
        · rw [if_pos hj, splice_getElem? (by omega)]
          by_cases hq : offP p z ≤ j - AV.szL (l.take k) ∧ j - AV.szL (l.take k) < offP p z + ds.length
          · rw [if_pos hq, if_pos (by omega)]; congr 1; omega
          · rw [if_neg hq, if_neg (by omega), List.getElem?_take_of_lt (by omega), List.getElem?_drop]; congr 1; omega
        · rw [if_neg hj, splice_getElem? (by omega), if_neg (by omega)]
      rwa [this] at h6
  | k :: p, .arr e n f, cs, x, y, ds, h, hg, hi, hy, hs, hn => by
    simp only [getP, inP, offP, setP, thruA] at hg hi hn ⊢
    simp only [Rel] at h ⊢
    obtain ⟨h1, h2⟩ := h.2 k hi.1
    have hy' := Rel.noN y ds (hn trivial) hy
    have h3 := rel_setP (E := E.bare) p (f k) _ x y ds h1 hg hi.2 hy' hs (fun _ => hn trivial)
    have h5 := (rel_getP p (f k) _ x h1 hg hi.2).2
    have e2 := Rel.length y ds hy
    rw [h2] at h5
    have hkn : k * e + e ≤ n * e := by
      have : (k + 1) * e ≤ n * e := Nat.mul_le_mul_right e hi.1
      rw [Nat.add_mul, Nat.one_mul] at this; exact this
    rw [splice_length (by rw [h.1]; omega)]
    refine ⟨h.1, fun j hj => ?_⟩
    have hjn : j * e + e ≤ n * e := by
      have : (j + 1) * e ≤ n * e := Nat.mul_le_mul_right e hj
      rw [Nat.add_mul, Nat.one_mul] at this; exact this
    by_cases hjk : j = k
    · subst hjk
      rw [if_pos rfl, take_drop_splice_in (by omega) (by rw [h.1]; omega)]
      exact ⟨h3, by rw [splice_length (by omega), h2]⟩
    · rw [if_neg hjk, take_drop_splice_out ?_ (by rw [h.1]; omega)]
      · exact h.2 j hj
      · rcases Nat.lt_or_gt_of_ne hjk with hlt | hgt
        · right
          have : (j + 1) * e ≤ k * e := Nat.mul_le_mul_right e hlt
          rw [Nat.add_mul, Nat.one_mul] at this; omega
        · left
          have : (k + 1) * e ≤ j * e := Nat.mul_le_mul_right e hgt
          rw [Nat.add_mul, Nat.one_mul] at this; omega
  | _ :: _, .top, _, _, _, _, _, h, _, _, _, _ | _ :: _, .bool _, _, _, _, _, _, h, _, _, _, _ | _ :: _, .int _ _, _, _, _, _, _, h, _, _, _, _ | _ :: _, .str _, _, _, _, _, _, h, _, _, _, _ | _ :: _, .val _, _, _, _, _, _, h, _, _, _, _
  | _ :: _, .err _, _, _, _, _, _, h, _, _, _, _ | _ :: _, .sl _ _ _ _, _, _, _, _, _, h, _, _, _, _ | _ :: _, .fptr _, _, _, _, _, _, h, _, _, _, _ | _ :: _, .ptr _ _ _, _, _, _, _, _, h, _, _, _, _
  | _ :: _, .osl _ _ _ _ _, _, _, _, _, _, h, _, _, _, _ | _ :: _, .tup _, _, _, _, _, _, h, _, _, _, _ | _ :: _, .fn _ _, _, _, _, _, _, h, _, _, _, _ | _ :: _, .gd _ _, _, _, _, _, _, h, _, _, _, _ | _ :: _, .mp _ _, _, _, _, _, _, h, _, _, _, _ => by simp [getP] at h
theorem Rel.arr_congr {E : RE} {e n : Nat} {f g : Nat → AV} {cs : List Value} (h : Rel E (.arr e n f) cs) (hf : ∀ j, j < n → f j = g j) : Rel E (.arr e n g) cs := by
  simp only [Rel] at *
  exact ⟨h.1, fun j hj => by rw [← hf j hj]; exact h.2 j hj⟩
end Go.Fy
/- The engine, 5: loads, addresses, slices of what stays as it is (my own text; any program). -/
set_option linter.unusedSimpArgs false
namespace Go.Fy
open Go.RowKit
def AV.isAgg : AV → Bool
  | .agg _ | .arr _ _ _ => true
  | _ => false
theorem add_eq {a : Addr} (hs : a.spot = none) (n : Nat) : a.add n = ⟨a.block, a.off + n, none⟩ := by
  cases a with
  | mk b o s =>
    simp only at hs; subst hs
    unfold Addr.add
    split
    · rename_i h; subst h; rfl
    · rfl
theorem Rel.toV' {E : RE} {x : AV} {ds : List Value} (h : Rel E x ds) (ha : x.isAgg = true) : RelV E x (.agg ds.toArray) := by
  cases x <;> simp [AV.isAgg] at ha
  · simp only [RelV]; exact ⟨ds.toArray, rfl, by simpa [Rel] using h⟩
  · simp only [RelV]; exact ⟨ds.toArray, rfl, by simpa using h⟩
theorem Rel.one_of {E : RE} {x : AV} {ds : List Value} (h : Rel E x ds) (ha : x.isAgg = false) : x.one = true ∧ ∃ v, ds = [v] := by
  have hl := Rel.length x ds h
  cases x <;> simp [AV.isAgg] at ha <;> simp [AV.one, AV.sz, Rel] at * <;> exact List.length_eq_one_iff.1 hl
theorem loadAt_run {E : RE} {t : TypeId} {a : Addr} {x : AV} {ds : List Value} (hs : a.spot = none) (h : Holds E.w a 0 ds) (hr : Rel E x ds) (ht : tyOf E.V.P t = some (x.isAgg, x.sz)) :
    ∃ u, (Instr.loadAt t (.pointer (some a))).run E.V.P E.w = .ok u E.w ∧ RelV E x u := by
  obtain ⟨h1, h2⟩ := tyOf_spec ht
  have hl := Rel.length x ds hr
  cases hx : x.isAgg with
  | true =>
    refine ⟨.agg ds.toArray, ?_, hr.toV' hx⟩
    have hc := run_loadCells_list (P := E.V.P) E.w a ds (fun j v hj => by rw [add_eq hs]; simpa using h j v hj)
    rw [hl] at hc
    simp only [Instr.loadAt, Instr.sureAddr, loadVar, Sem.run_bind, Sem.run_pure, Result.andThen, h1, h2, hx, if_true, hc]
  | false =>
    obtain ⟨h3, v, rfl⟩ := hr.one_of hx
    refine ⟨v, ?_, hr.toV h3⟩
    have hc : E.w.cell? a = some v := by
      have := h 0 v rfl
      rw [← this]; cases a; simp only at hs; subst hs; rfl
    simp only [Instr.loadAt, Instr.sureAddr, loadVar, Sem.run_bind, Sem.run_pure, Result.andThen, h1, h2, hx, if_false, Bool.false_eq_true, run_load, hc]
theorem fieldAt_run {P : Program} {w : World} {t : TypeId} {k off sz : Nat} {b : Bool} {a : Addr} (h : fldOf P t k = some (off, sz, b)) (h0 : (sz == 0) = false) :
    (Instr.fieldAt t (.pointer (some a)) k).run P w = .ok (.pointer (some (a.add off))) w := by
  unfold fldOf at h
  split at h
  · rename_i fs hu
    split at h
    · rename_i f hf
      split at h
      · rename_i d i hd hi
        simp only [Option.some.injEq, Prod.mk.injEq] at h
        obtain ⟨rfl, rfl, rfl⟩ := h
        have : i.size ≠ 0 := by simpa using h0
        simp [Instr.fieldAt, run_underlying hu, Result.andThen, hf, Instr.sureAddr, fieldPlace, sizeOf, typeInfo, hi, this]
      · cases h
    · cases h
  · cases h
theorem Holds.part {w : World} {a : Addr} {o n s : Nat} {ds : List Value} (h : Holds w a o ds) : Holds w a (o + n) ((ds.drop n).take s) := by
  intro k v hk
  have hlt : k < s := by
    rcases Nat.lt_or_ge k s with h' | h'
    · exact h'
    · rw [List.getElem?_eq_none (by rw [List.length_take]; omega)] at hk; cases hk
  rw [List.getElem?_take_of_lt hlt, List.getElem?_drop] at hk
  have := h _ v hk
  rw [show o + n + k = o + (n + k) by omega]
  exact this
theorem Holds.at {w : World} {a : Addr} (hs : a.spot = none) {o n : Nat} {ds : List Value} (h : Holds w a (n + o) ds) : Holds w (a.add n) o ds := by
  intro k v hk
  rw [add_eq hs]
  have := h k v hk
  simp only [Nat.add_assoc] at this ⊢
  exact this
theorem Blk.holds {E : RE} {b : Nat} {t x : AV} {p : List Nat} (h : Blk E b t) (hg : getP p t = some x) (hi : inP p t) :
    ∃ ds, Holds E.w ⟨b, offP p t, none⟩ 0 ds ∧ Rel E x ds ∧ ds.length = x.sz := by
  obtain ⟨c, ty, fr, cs, rest, h1, h2, h3, h4⟩ := h
  obtain ⟨h5, h6⟩ := rel_getP p t cs x h3 hg hi
  refine ⟨_, fun k v hk => ?_, h5, Rel.length _ _ h5⟩
  have hlt : k < x.sz := by
    rcases Nat.lt_or_ge k x.sz with h' | h'
    · exact h'
    · rw [List.getElem?_eq_none (by rw [List.length_take]; omega)] at hk; cases hk
  rw [List.getElem?_take_of_lt hlt, List.getElem?_drop] at hk
  have : c[offP p t + k]? = some v := by
    rw [← Array.getElem?_toList, h2, List.getElem?_append_left (by omega)]; exact hk
  simp only [World.cell?, h1, Option.isSome_none, Bool.false_eq_true, if_false, Nat.zero_add]
  exact this
section
variable {V : Env} {o : Oper} {ρ : Operand → AV} {η : Nat → Option AV}
theorem opp_loadF {t : TypeId} {x : Operand} {y : AV} (ho : o.op = .load t x) (hx : ρ x = .fptr y) (ht : tyOf V.P t = some (y.isAgg, y.sz)) : OpP V o ρ η y :=
  opp_val fun E ε hV _ h _ => by
    have h1 := h x (by simp [ho, Op.operands])
    rw [hx] at h1
    simp only [RelV, Rel, List.cons.injEq, and_true] at h1
    obtain ⟨b, hb, hs, hG, ds, hh, hr⟩ := h1
    subst hV
    obtain ⟨u, hu, hv⟩ := loadAt_run hs hh (Rel.le E.bare_le _ _ hr) ht
    exact ⟨u, by simp only [execOp, ho, hb, Sem.run_bind, hu, Result.andThen, Sem.run_pure], hv⟩
theorem opp_loadP {t : TypeId} {x : Operand} {i : Nat} {p : List Nat} {off : Nat} {tr y : AV} (ho : o.op = .load t x) (hx : ρ x = .ptr i p off) (hH : η i = some tr)
    (hg : getP p tr = some y) (hi : inP p tr) (hoff : offP p tr = off) (ht : tyOf V.P t = some (y.isAgg, y.sz)) : OpP V o ρ η y :=
  opp_val fun E ε hV _ h hB => by
    have h1 := h x (by simp [ho, Op.operands])
    rw [hx] at h1
    simp only [RelV, Rel, List.cons.injEq, and_true] at h1
    obtain ⟨-, h1⟩ := h1
    obtain ⟨ds, hh, hr, -⟩ := (hB i tr hH).2.holds hg hi
    subst hV
    rw [hoff] at hh
    obtain ⟨u, hu, hv⟩ := loadAt_run rfl hh hr ht
    exact ⟨u, by simp only [execOp, ho, h1, Sem.run_bind, hu, Result.andThen, Sem.run_pure], hv⟩
theorem opp_fieldF {t : TypeId} {x : Operand} {k : Nat} {l : List AV} {y : AV} {off sz : Nat} {b : Bool} (ho : o.op = .fieldAddr t x k) (hx : ρ x = .fptr (.agg l)) (hy : l[k]? = some y)
    (ht : fldOf V.P t k = some (off, sz, b)) (h0 : (sz == 0) = false) (hoff : AV.szL (l.take k) = off) : OpP V o ρ η (.fptr y) :=
  opp_val fun E ε hV _ h _ => by
    have h1 := h x (by simp [ho, Op.operands])
    rw [hx] at h1
    simp only [RelV, Rel, List.cons.injEq, and_true] at h1
    obtain ⟨a, ha, hs, hG, ds, hh, hr⟩ := h1
    refine ⟨.pointer (some (a.add off)), by simp only [execOp, ho, ha, Sem.run_bind, fieldAt_run ht h0, Result.andThen, Sem.run_pure], ?_⟩
    simp only [RelV, Rel, List.cons.injEq, and_true, Value.pointer.injEq, Option.some.injEq, exists_eq_left']
    obtain ⟨h3, h4⟩ := RelL.get l ds k y hr hy
    rw [hoff] at h3
    refine ⟨by rw [add_eq hs], by rw [add_eq hs]; exact hG, _, ?_, h3⟩
    exact Holds.at hs (by have := hh.part (n := off) (s := y.sz); simpa using this)
theorem opp_fieldP {t : TypeId} {x : Operand} {k : Nat} {i : Nat} {p : List Nat} {off : Nat} {fo sz : Nat} {b : Bool} (ho : o.op = .fieldAddr t x k) (hx : ρ x = .ptr i p off)
    (ht : fldOf V.P t k = some (fo, sz, b)) (h0 : (sz == 0) = false) : OpP V o ρ η (.ptr i (p ++ [k]) (off + fo)) :=
  opp_val fun E ε hV _ h _ => by
    have h1 := h x (by simp [ho, Op.operands])
    rw [hx] at h1
    simp only [RelV, Rel, List.cons.injEq, and_true] at h1
    obtain ⟨h1, h2⟩ := h1
    refine ⟨.pointer (some ((⟨E.σ i, off, none⟩ : Addr).add fo)), by simp only [execOp, ho, h2, Sem.run_bind, fieldAt_run ht h0, Result.andThen, Sem.run_pure], ?_⟩
    simp only [RelV, Rel, List.cons.injEq, and_true, Value.pointer.injEq, Option.some.injEq]
    exact ⟨h1, add_eq rfl fo⟩
theorem opp_nilCheckP {x : Operand} {i : Nat} {p : List Nat} {off : Nat} (ho : o.op = .nilCheck x) (hx : ρ x = .ptr i p off) : OpP V o ρ η (.ptr i p off) :=
  opp_val fun E ε hV _ h _ => by
    have h1 := h x (by simp [ho, Op.operands])
    rw [hx] at h1
    refine ⟨ε x, ?_, h1⟩
    simp only [RelV, Rel, List.cons.injEq, and_true] at h1
    simp only [execOp, ho, h1.2, Sem.run_pure]
theorem opp_nilCheckF {x : Operand} {y : AV} (ho : o.op = .nilCheck x) (hx : ρ x = .fptr y) : OpP V o ρ η (.fptr y) :=
  opp_val fun E ε hV _ h _ => by
    have h1 := h x (by simp [ho, Op.operands])
    rw [hx] at h1
    refine ⟨ε x, ?_, h1⟩
    simp only [RelV, Rel, List.cons.injEq, and_true] at h1
    obtain ⟨b, hb, -⟩ := h1
    simp only [execOp, ho, hb, Sem.run_pure]
theorem opp_extract {x : Operand} {k : Nat} {l : List AV} {y : AV} (ho : o.op = .extract x k) (hx : ρ x = .tup l) (hy : l[k]? = some y) : OpP V o ρ η y :=
  opp_val fun E ε hV _ h _ => by
    have h1 := h x (by simp [ho, Op.operands])
    rw [hx] at h1
    simp only [RelV] at h1
    obtain ⟨vs, hv, hr⟩ := h1
    have key : ∀ (l : List AV) (vs : List Value) (k : Nat), RelT E l vs → l[k]? = some y → ∃ u, vs[k]? = some u ∧ RelV E y u := by
      intro l
      induction l with
      | nil => intro vs k _ h; simp at h
      | cons z l ih =>
        intro vs k hr hk
        simp only [RelT] at hr
        obtain ⟨c, d, rfl, h1, h2⟩ := hr
        cases k with
        | zero => simp at hk; subst hk; exact ⟨c, rfl, h1⟩
        | succ k => simpa using ih d k h2 (by simpa using hk)
    obtain ⟨u, h3, h4⟩ := key l vs.toList k hr hy
    have : vs[k]? = some u := by simpa using h3
    exact ⟨u, by simp only [execOp, ho, hv, Instr.extract, this, Sem.run_bind, Sem.run_pure, Result.andThen], h4⟩
theorem elOf_spec {P : Program} {t e : TypeId} {z : Nat} (h : elOf P t = some (e, z)) : P.underlying t = some (.slice e) ∧ ∀ w, (sizeOf e).run P w = .ok z w := by
  unfold elOf at h
  split at h
  · rename_i e' hu
    split at h
    · rename_i i hi
      simp only [Option.some.injEq, Prod.mk.injEq] at h
      obtain ⟨rfl, rfl⟩ := h
      exact ⟨hu, fun w => by simp [sizeOf, typeInfo, hi]⟩
    · cases h
  · cases h
theorem opp_indexSl {t : TypeId} {x i : Operand} {z : Nat} {nn : Bool} {n : Nat} {f : Nat → AV} {k : IntKind} {j : Int} {e : TypeId} (ho : o.op = .indexAddr t x i) (hx : ρ x = .sl z nn n f)
    (hi : ρ i = .int k j) (ht : elOf V.P t = some (e, z)) (h0 : 0 ≤ j) (hn : j < n) : OpP V o ρ η (.fptr (f j.toNat)) :=
  opp_val fun E ε hV _ h _ => by
    have h1 := h x (by simp [ho, Op.operands])
    have h2 := h i (by simp [ho, Op.operands])
    rw [hx] at h1; rw [hi] at h2
    simp only [RelV, Rel, List.cons.injEq, and_true] at h1 h2
    obtain ⟨a, cap, ha, hc, hnn, hnil, hA⟩ := h1
    obtain ⟨hu, hz⟩ := elOf_spec ht
    cases a with
    | none => have := hnil rfl; omega
    | some b =>
      obtain ⟨hs, hG, hel⟩ := hA b rfl
      have hs := hs (by omega)
      obtain ⟨ds, hl, hh, hr⟩ := hel j.toNat (by omega)
      refine ⟨.pointer (some (b.add (j.toNat * z))), ?_, ?_⟩
      · simp only [execOp, ho, ha, h2, Instr.indexAt, asIntOf_run, Sem.run_bind, run_underlying hu, Result.andThen, Sem.run_pure, if_pos (And.intro h0 hn), hz]
      · simp only [RelV, Rel, List.cons.injEq, and_true, Value.pointer.injEq, Option.some.injEq, exists_eq_left']
        exact ⟨by rw [add_eq hs], by rw [add_eq hs]; exact hG (by omega), ds, Holds.at hs hh, hr⟩
theorem opp_indexOsl {t : TypeId} {x i : Operand} {b z of n c : Nat} {k : IntKind} {j : Int} {e : TypeId} (ho : o.op = .indexAddr t x i) (hx : ρ x = .osl b z of n c) (hi : ρ i = .int k j)
    (ht : elOf V.P t = some (e, z)) (h0 : 0 ≤ j) (hn : j < n) : OpP V o ρ η (.ptr b [of + j.toNat] ((of + j.toNat) * z)) :=
  opp_val fun E ε hV _ h _ => by
    have h1 := h x (by simp [ho, Op.operands])
    have h2 := h i (by simp [ho, Op.operands])
    rw [hx] at h1; rw [hi] at h2
    simp only [RelV, Rel, List.cons.injEq, and_true] at h1 h2
    obtain ⟨hm, hc, o', c', ha, hcc, ho', -⟩ := h1
    obtain ⟨hu, hz⟩ := elOf_spec ht
    have ho'' := ho' (by omega)
    subst ho''
    refine ⟨.pointer (some ((⟨E.σ b, of * z, none⟩ : Addr).add (j.toNat * z))), ?_, ?_⟩
    · simp only [execOp, ho, ha, h2, Instr.indexAt, asIntOf_run, Sem.run_bind, run_underlying hu, Result.andThen, Sem.run_pure, if_pos (And.intro h0 hn), hz]
    · simp only [RelV, Rel, List.cons.injEq, and_true, Value.pointer.injEq, Option.some.injEq]
      refine ⟨hm, ?_⟩
      rw [add_eq rfl, Nat.add_mul]
theorem opp_indexOsl0 {t : TypeId} {x i : Operand} {b z n c : Nat} {k : IntKind} {j : Int} {e : TypeId} (ho : o.op = .indexAddr t x i) (hx : ρ x = .osl b z 0 n c) (hi : ρ i = .int k j)
    (ht : elOf V.P t = some (e, z)) (h0 : 0 ≤ j) (hn : j < n) : OpP V o ρ η (.ptr b [j.toNat] (j.toNat * z)) := by
  have := opp_indexOsl (η := η) ho hx hi ht h0 hn
  rwa [Nat.zero_add] at this
theorem arrOf_spec {P : Program} {t : TypeId} {n z : Nat} {b : Bool} (h : arrOf P t = some (n, z, b)) : ∃ e, P.underlying t = some (.array n e) ∧ (∀ w, (sizeOf e).run P w = .ok z w) ∧ (∀ w, (isAgg e).run P w = .ok b w) := by
  unfold arrOf at h
  split at h
  · rename_i n' e hu
    split at h
    · rename_i d i hd hi
      simp only [Option.some.injEq, Prod.mk.injEq] at h
      obtain ⟨rfl, rfl, rfl⟩ := h
      exact ⟨e, hu, fun w => by simp [sizeOf, typeInfo, hi], fun w => by unfold isAgg; simp only [Sem.run_bind, run_underlying hd, Result.andThen]; cases d <;> rfl⟩
    · cases h
  · cases h
theorem opp_indexArrP {t : TypeId} {x i : Operand} {b : Nat} {p : List Nat} {off : Nat} {k : IntKind} {j : Int} {n z : Nat} {g : Bool} (ho : o.op = .indexAddr t x i) (hx : ρ x = .ptr b p off)
    (hi : ρ i = .int k j) (ht : arrOf V.P t = some (n, z, g)) (h0 : 0 ≤ j) (hn : j < n) : OpP V o ρ η (.ptr b (p ++ [j.toNat]) (off + j.toNat * z)) :=
  opp_val fun E ε hV _ h _ => by
    have h1 := h x (by simp [ho, Op.operands])
    have h2 := h i (by simp [ho, Op.operands])
    rw [hx] at h1; rw [hi] at h2
    simp only [RelV, Rel, List.cons.injEq, and_true] at h1 h2
    obtain ⟨hm, ha⟩ := h1
    obtain ⟨e, hu, hz, -⟩ := arrOf_spec ht
    refine ⟨.pointer (some ((⟨E.σ b, off, none⟩ : Addr).add (j.toNat * z))), ?_, ?_⟩
    · simp only [execOp, ho, ha, h2, Instr.indexAt, asIntOf_run, Sem.run_bind, run_underlying hu, Result.andThen, Sem.run_pure, Instr.sureAddr, if_pos (And.intro h0 hn), hz]
    · simp only [RelV, Rel, List.cons.injEq, and_true, Value.pointer.injEq, Option.some.injEq]
      exact ⟨hm, add_eq rfl _⟩
/-- s[l:h] of a slice that stays as it is. -/
theorem opp_sliceSl {x : Operand} {lo hi : Option Operand} {t : TypeId} {z : Nat} {nn : Bool} {n : Nat} {f : Nat → AV} {l h : Int} {e : TypeId} (ho : o.op = .slice t x lo hi none)
    (hx : ρ x = .sl z nn n f) (hlo : bound 0 (lo.map ρ) = some l) (hhi : bound n (hi.map ρ) = some h) (ht : elOf V.P t = some (e, z)) (h0 : 0 ≤ l) (h1 : l ≤ h) (h2 : h ≤ n) :
    OpP V o ρ η (.sl z nn (h - l).toNat fun j => f (l.toNat + j)) :=
  opp_val fun E ε _ _ hr _ => by
    have e1 := hr x (by simp [ho, Op.operands])
    rw [hx] at e1
    simp only [RelV, Rel, List.cons.injEq, and_true] at e1
    obtain ⟨a, cap, ha, hc, hnn, hnil, hA⟩ := e1
    have e2 : lo.map ε = none ∧ l = 0 ∨ ∃ k, lo.map ε = some (.int k l) := by
      cases lo with
      | none => simp [bound] at hlo; left; exact ⟨rfl, hlo.symm⟩
      | some y =>
        have e := hr y (by simp [ho, Op.operands])
        simp only [Option.map_some] at hlo ⊢
        cases hy : ρ y <;> simp only [hy, bound] at hlo <;> first | (cases hlo; done) | skip
        rw [hy] at e; simp only [RelV] at e
        right; simp only [Option.some.injEq] at hlo; subst hlo; exact ⟨_, by rw [e]⟩
    have e3 : hi.map ε = none ∧ h = n ∨ ∃ k, hi.map ε = some (.int k h) := by
      cases hi with
      | none => simp [bound] at hhi; left; exact ⟨rfl, hhi.symm⟩
      | some y =>
        have e := hr y (by simp [ho, Op.operands])
        simp only [Option.map_some] at hhi ⊢
        cases hy : ρ y <;> simp only [hy, bound] at hhi <;> first | (cases hhi; done) | skip
        rw [hy] at e; simp only [RelV] at e
        right; simp only [Option.some.injEq] at hhi; subst hhi; exact ⟨_, by rw [e]⟩
    obtain ⟨hu, hz⟩ := elOf_spec ht
    refine ⟨.slice (if cap = l.toNat then a else a.map (·.add (l.toNat * z))) (h.toNat - l.toNat) (cap - l.toNat), ?_, ?_⟩
    · simp only [execOp, ho, ha, Option.map_none, Instr.sliceAt, Instr.slice, Sem.run_bind, run_underlying hu, Result.andThen, Sem.run_pure,
        sliceBounds_run true n cap _ _ l h e2 e3 h0 h1 (by omega), hz]
    · simp only [RelV, Rel, List.cons.injEq, and_true, Value.slice.injEq]
      refine ⟨_, _, ⟨rfl, by omega, rfl⟩, by omega, ?_, ?_, ?_⟩
      · rw [hnn]; split <;> cases a <;> rfl
      · intro hn
        have : a = none := by revert hn; split <;> cases a <;> simp
        have := hnil this
        omega
      · intro b hb
        by_cases hcl : cap = l.toNat
        · rw [if_pos hcl] at hb
          obtain ⟨hs, hG, hel⟩ := hA b hb
          exact ⟨fun h3 => by omega, fun h3 => by omega, fun j hj => by omega⟩
        · rw [if_neg hcl] at hb
          cases a with
          | none => simp at hb
          | some a0 =>
            simp only [Option.map_some, Option.some.injEq] at hb
            subst hb
            obtain ⟨hs, hG, hel⟩ := hA a0 rfl
            refine ⟨fun h3 => by rw [add_eq (hs (by omega))], fun h3 => by rw [add_eq (hs (by omega))]; exact hG (by omega), fun j hj => ?_⟩
            obtain ⟨ds, h5, h6, h7⟩ := hel (l.toNat + j) (by omega)
            exact ⟨ds, h5, Holds.at (hs (by omega)) (by rw [← Nat.add_mul]; exact h6), h7⟩
/-- string(b). -/
theorem opp_bytesStr {x : Operand} {s d e : TypeId} {nn : Bool} {n : Nat} {f : Nat → AV} (ho : o.op = .convert s d x) (hx : ρ x = .sl 1 nn n f) (l : List UInt8) (hl : l.length = n)
    (hf : ∀ j, j < n → f j = .int .u8 ((l.getD j 0).toNat : Int)) (hs : V.P.underlying s = some (.slice e)) (he : V.P.underlying e = some (.int .u8))
    (hd : V.P.underlying d = some .string) : OpP V o ρ η (.str l) :=
  opp_val fun E ε _ _ hr _ => by
    have e1 := hr x (by simp [ho, Op.operands])
    rw [hx] at e1
    simp only [RelV, Rel, List.cons.injEq, and_true] at e1
    obtain ⟨a, cap, ha, hc, hnn, hnil, hA⟩ := e1
    refine ⟨.string ⟨l.toArray⟩, ?_, by simp [RelV, Rel]⟩
    cases a with
    | none =>
      have := hnil rfl
      have : l = [] := List.length_eq_zero_iff.1 (by omega)
      subst this
      simp only [execOp, ho, ha, Sem.run_bind, run_convert_bytes_string E.w s d e none n cap hs he hd, Conv.bytesToString, Sem.run_pure, Result.andThen]
      rfl
    | some b =>
      obtain ⟨hsp, hG, hel⟩ := hA b rfl
      have := run_convert_bytes_back (P := V.P) E.w s d e b cap l hs he hd (fun j hj => by
        obtain ⟨ds, h5, h6, h7⟩ := hel j (by omega)
        rw [hf j (by omega)] at h7
        simp only [Rel] at h7
        subst h7
        have := h6 0 _ rfl
        rw [add_eq (hsp (by omega))]
        simpa [List.getD, hj] using this)
      rw [hl] at this
      simp only [execOp, ho, ha, Sem.run_bind, this, Result.andThen, Sem.run_pure]
end
end Go.Fy
/- The engine, 6: operations that make or write memory (my own text; any program). -/
set_option linter.unusedSimpArgs false
namespace Go.Fy
open Go.RowKit
/-- From a world to a later one: what was live may have been written, what is new lies behind. -/
structure Step (H : List (Nat × Option AV)) (nm : List Nat) (w : World) (σ : Nat → Nat) (H' : List (Nat × Option AV)) (nm' : List Nat) (w' : World) (σ' : Nat → Nat) : Prop where
  os : w'.os = w.os
  tape : w'.tape = w.tape
  output : w'.output = w.output
  le : w.heap.size ≤ w'.heap.size
  sig : ∀ i, i ∈ nm → σ' i = σ i
  names : ∀ i, i ∈ nm → i ∈ nm'
  live : ∀ i x, getH H' i = some x → (∃ j y, getH H j = some y ∧ j ∈ nm ∧ σ j = σ' i) ∨ w.heap.size ≤ σ' i
  block : ∀ b, b < w.heap.size → (∀ i x, getH H i = some x → σ i ≠ b) → w'.heap[b]? = w.heap[b]?
  cells : ∀ (b : Nat) (c : Array Value) (t : TypeId) (fr : Nat × Nat), w.heap[b]? = some (.cells c t fr) → ∃ (c' : Array Value) (t' : TypeId) (fr' : Nat × Nat), w'.heap[b]? = some (.cells c' t' fr') ∧ (c.size, fr) = (c'.size, fr')
theorem ConcS.le {C : Ctx} {S S' : St} {a : Act} {w w' : World} {σ σ' : Nat → Nat} (hc : ConcS C S a w σ) (h : Step S.H S.nm w σ S'.H S'.nm w' σ') : (C.RE S w σ).le (C.RE S' w' σ') := by
  refine ⟨rfl, h.sig, h.names, fun b hb => ?_, fun b hb o v hv => (cell_of_block ?_ o none).trans hv, h.cells, fun b _ es cl hb => ?_⟩
  case refine_3 =>
    refine (h.block b (Array.getElem?_eq_some_iff.1 hb).1 fun i x hi e => ?_).trans hb
    obtain ⟨c, t, fr, cs, rest, h1, -⟩ := (hc.blk i x hi).2.2.2
    rw [e] at h1
    have h2 : w.heap[b]? = some (.cells c t fr) := h1
    have h3 : w.heap[b]? = some (.map es cl) := hb
    rw [h3] at h2; cases h2
  · rcases hb with hb | ⟨h1, h2, h3⟩
    · exact .inl hb
    · refine .inr ⟨h1, by have := h.le; omega, fun i x hi e => ?_⟩
      rcases h.live i x hi with ⟨j, y, h5, h4, h6⟩ | h4
      · exact h3 j y h5 (h6.trans e)
      · omega
  · rcases hb with hb | ⟨h1, h2, h3⟩
    · have hlt := hc.ok.lt b hb
      refine h.block b (by have := hc.kept.size; omega) fun i x hi e => ?_
      exact (hc.blk i x hi).2.1 (by rw [e]; exact hb)
    · exact h.block b h2 h3
/-- The frame and the rest go on. -/
theorem ConcS.step {C : Ctx} {S S' : St} {a : Act} {w w' : World} {σ σ' : Nat → Nat} (hc : ConcS C S a w σ) (h : Step S.H S.nm w σ S'.H S'.nm w' σ')
    (hinj : ∀ i j x y, getH S'.H i = some x → getH S'.H j = some y → σ' i = σ' j → i = j)
    (hblk : ∀ i x, getH S'.H i = some x → i ∈ S'.nm ∧ Blk (C.RE S' w' σ') (σ' i) x) (hF : S'.F = S.F) : ConcS C S' a w' σ' := by
  have hle := hc.le h
  have hmk : Marks C.w0.heap.size w' a.defers := hc.defers.mono fun D _ hD => by
    refine (h.block D (Array.getElem?_eq_some_iff.1 hD).1 fun i x hi e => ?_).trans hD
    obtain ⟨c, t, fr, cs, rest, h1, -⟩ := (hc.blk i x hi).2.2.2
    rw [e] at h1
    have h2 : w.heap[D]? = some (.cells c t fr) := h1
    rw [hD] at h2; cases h2
  refine ⟨hc.ok, hmk, hc.size, ?_, ?_, hinj, ?_, hc.env.le hle, fun t => ?_⟩
  · refine ⟨h.os.trans hc.kept.os, h.tape.trans hc.kept.tape, h.output.trans hc.kept.output, Nat.le_trans hc.kept.size h.le, fun b hb hn => ?_, fun b c t fr hb => ?_⟩
    case refine_2 =>
      obtain ⟨c', t', fr', h1, h2⟩ := hc.kept.cells b c t fr hb
      obtain ⟨c'', t'', fr'', h3, h4⟩ := h.cells b c' t' fr' h1
      exact ⟨c'', t'', fr'', h3, h2.trans h4⟩
    rw [h.block b (by have := hc.kept.size; omega) fun i x hi e => ?_]
    · exact hc.kept.block b hb hn
    · rcases (hc.blk i x hi).2.2.1 with h1 | h1
      · exact hn (by rw [← e]; exact h1)
      · omega
  · intro i hi
    obtain ⟨h1, h2⟩ := hc.σ0 i hi
    exact ⟨by rw [h.sig i h2]; exact h1, h.names i h2⟩
  · intro i x hi
    refine ⟨(hblk i x hi).1, ?_, ?_, (hblk i x hi).2⟩
    · rcases h.live i x hi with ⟨j, y, h5, h4, h6⟩ | h4
      · rw [← h6]; exact (hc.blk j y h5).2.1
      · intro hg; have := hc.ok.lt _ hg; have := hc.kept.size; omega
    · rcases h.live i x hi with ⟨j, y, h5, h4, h6⟩ | h4
      · rw [← h6]; exact (hc.blk j y h5).2.2.1
      · right; have := hc.kept.size; omega
  · rw [hF]; exact RelV.le hle _ _ (hc.slot t)
theorem Blk.le0 {E E' : RE} {b b' : Nat} {x : AV} (hb : Blk E b x) (h : E.le0 E') (hh : E'.w.heap[b']? = E.w.heap[b]?) : Blk E' b' x := by
  obtain ⟨c, t, fr, cs, rest, h1, h2, h3, h4⟩ := hb
  refine ⟨c, t, fr, cs, rest, by rw [hh]; exact h1, h2, Rel.le0 h _ _ h3, fun o ho => ?_⟩
  have := h4 o ho
  simp only [World.frozen?, hh, h1] at this ⊢
  exact this
theorem Blk.le {E E' : RE} {b b' : Nat} {x : AV} (hb : Blk E b x) (h : E.le E') (hh : E'.w.heap[b']? = E.w.heap[b]?) : Blk E' b' x := hb.le0 h.le0 hh
/-- The world goes on without a touch on what is named (a draw, a block that nobody names). -/
theorem ConcS.world {C : Ctx} {S : St} {a : Act} {w w' : World} {σ : Nat → Nat} (hc : ConcS C S a w σ) (h : Below w.heap.size w w') : ConcS C S a w' σ := by
  have hst : Step S.H S.nm w σ S.H S.nm w' σ := ⟨h.os, h.tape, h.output, h.size, fun _ _ => rfl, fun _ h => h, fun i x hi => .inl ⟨i, x, hi, (hc.blk i x hi).1, rfl⟩, fun b hb _ => h.block b hb,
    fun b c t fr hb => ⟨c, t, fr, by
      have hlt : b < w.heap.size := by
        rcases Nat.lt_or_ge b w.heap.size with h' | h'
        · exact h'
        · rw [Array.getElem?_eq_none h'] at hb; cases hb
      rw [h.block b hlt]; exact hb, rfl⟩⟩
  refine hc.step hst hc.inj (fun i x hi => ⟨(hc.blk i x hi).1, (hc.blk i x hi).2.2.2.le (hc.le hst) ?_⟩) rfl
  obtain ⟨c, t, fr, cs, rest, h1, -⟩ := (hc.blk i x hi).2.2.2
  have h1' : w.heap[σ i]? = some (.cells c t fr) := h1
  refine h.block _ ?_
  rcases Nat.lt_or_ge (σ i) w.heap.size with h' | h'
  · exact h'
  · rw [Array.getElem?_eq_none h'] at h1'; cases h1'
theorem Blk.lt {E : RE} {b : Nat} {x : AV} (h : Blk E b x) : b < E.w.heap.size := by
  obtain ⟨c, t, fr, cs, rest, h1, -⟩ := h
  rcases Nat.lt_or_ge b E.w.heap.size with h' | h'
  · exact h'
  · rw [Array.getElem?_eq_none h'] at h1; cases h1
/-- A new own block, named n. -/
theorem ConcS.alloc {C : Ctx} {S : St} {a : Act} {w : World} {σ : Nat → Nat} (hc : ConcS C S a w σ) (n : Nat) (hn : n ∉ S.nm) (x : AV) (c : Array Value) (t : TypeId) (fr : Nat × Nat) (cs rest : List Value)
    (hcs : c.toList = cs ++ rest) (hfr : ∀ o, o < c.size → ¬ (fr.1 ≤ o ∧ o < fr.2)) (hx : ∀ E : RE, (C.RE S w σ).le E → Rel E x cs) :
    ConcS C ⟨S.F, (n, some x) :: S.H, n :: S.nm⟩ a (w.alloc (.cells c t fr)) (fun i => if i = n then w.heap.size else σ i) := by
  have hsz : (w.alloc (.cells c t fr)).heap.size = w.heap.size + 1 := by show (w.heap.push _).size = _; simp
  have hnew : (w.alloc (.cells c t fr)).heap[w.heap.size]? = some (.cells c t fr) := by show (w.heap.push _)[w.heap.size]? = _; simp
  have hold : ∀ b, b < w.heap.size → (w.alloc (.cells c t fr)).heap[b]? = w.heap[b]? := fun b hb => Below.heap_alloc w _ b hb
  have hst : Step S.H S.nm w σ ((n, some x) :: S.H) (n :: S.nm) (w.alloc (.cells c t fr)) (fun i => if i = n then w.heap.size else σ i) := by
    refine ⟨rfl, rfl, rfl, by omega, fun i hi => if_neg (fun e : i = n => hn (e ▸ hi)), fun i hi => List.mem_cons_of_mem _ hi, fun i y hi => ?_, fun b hb _ => hold b hb, fun b c' t' fr' hb => ⟨c', t', fr', ?_, rfl⟩⟩
    · rw [getH_cons] at hi
      by_cases e : n = i
      · right; simp [e]
      · rw [if_neg e] at hi; exact .inl ⟨i, y, hi, (hc.blk i y hi).1, (if_neg (Ne.symm e)).symm⟩
    · rw [hold b ?_]; exact hb
      rcases Nat.lt_or_ge b w.heap.size with h' | h'
      · exact h'
      · rw [Array.getElem?_eq_none h'] at hb; cases hb
  have hle := hc.le (S' := ⟨S.F, (n, some x) :: S.H, n :: S.nm⟩) hst
  refine hc.step (S' := ⟨S.F, (n, some x) :: S.H, n :: S.nm⟩) hst ?_ ?_ rfl
  · intro i j y z hi hj he
    simp only [getH_cons] at hi hj
    by_cases e1 : n = i <;> by_cases e2 : n = j
    · omega
    · rw [if_neg e2] at hj
      have := (hc.blk j z hj).2.2.2.lt
      simp only [if_pos e1.symm, if_neg (Ne.symm e2)] at he
      have h' : σ j < w.heap.size := this
      omega
    · rw [if_neg e1] at hi
      have := (hc.blk i y hi).2.2.2.lt
      simp only [if_pos e2.symm, if_neg (Ne.symm e1)] at he
      have h' : σ i < w.heap.size := this
      omega
    · rw [if_neg e1] at hi; rw [if_neg e2] at hj
      simp only [if_neg (Ne.symm e1), if_neg (Ne.symm e2)] at he
      exact hc.inj i j y z hi hj he
  · intro i y hi
    simp only [getH_cons] at hi
    by_cases e : n = i
    · rw [if_pos e] at hi
      simp only [Option.some.injEq] at hi
      subst hi
      refine ⟨by simp [e], c, t, fr, cs, rest, ?_, hcs, hx _ hle, fun o ho => ?_⟩
      · simp only [if_pos e.symm]; exact hnew
      · simp only [if_pos e.symm]
        show (w.alloc (.cells c t fr)).frozen? ⟨w.heap.size, o, none⟩ = false
        simp only [World.frozen?, hnew]
        have := hfr o ho
        rcases fr with ⟨lo, hi⟩
        simp only at this ⊢
        simp only [Bool.and_eq_false_iff, decide_eq_false_iff_not]
        omega
    · rw [if_neg e] at hi
      refine ⟨List.mem_cons_of_mem _ (hc.blk i y hi).1, ?_⟩
      simp only [if_neg (Ne.symm e)]
      refine (hc.blk i y hi).2.2.2.le hle ?_
      exact hold _ (hc.blk i y hi).2.2.2.lt
/-- A cell-value: what can be laid into memory. -/
def AV.layable : AV → Bool
  | .top | .tup _ | .gd _ _ | .mp _ _ => false
  | _ => true
theorem RelV.cells {E : RE} {x : AV} {v : Value} (h : RelV E x v) (hx : x.layable = true) : Rel E x v.cells.toList := by
  cases x <;> simp only [AV.layable] at hx <;> first
    | (cases hx; done)
    | skip
  case agg l => simp only [RelV] at h; obtain ⟨cs, rfl, h⟩ := h; simpa [Rel, Value.cells] using h
  case arr e n f => simp only [RelV] at h; obtain ⟨cs, rfl, h⟩ := h; simpa only [Value.cells] using h
  all_goals
    have h1 := h.toRel rfl (by simp)
    have h2 := h1.one rfl
    have : v.cells.toList = [v] := by cases v <;> simp [Value.oneCell'] at h2 <;> rfl
    rw [this]; exact h1
/-- What a zero value of a type is, in any memory. -/
def Zero (P : Program) (t : TypeId) (x : AV) : Prop := ∃ i z, P.info? t = some i ∧ i.zero = some z ∧ z.cells.size = i.size ∧ ∀ E : RE, Rel E x z.cells.toList
section
variable {C : Ctx} {o : Oper} {ρ : Operand → AV} {η : Nat → Option AV}
theorem opr_alloc {t : TypeId} {z : AV} {n : Nat} (ho : o.op = .alloc t) (hz : Zero C.V.P t z) : OpR C o ρ η ⟨.ptr n [] 0, [(n, some z)], [n]⟩ := by
  intro hd S hρ hη hn a w ⟨σ, hc⟩
  obtain ⟨i, v, hi, hv, hs, hr⟩ := hz
  unfold Oper.wp
  have hrun : (execOp a.eval o).run C.V.P w = .ok (.value (.pointer (some ⟨w.heap.size, 0, none⟩))) (w.alloc (.cells v.cells t (0, 0))) := by
    simp [execOp, ho, Instr.alloc, zeroValue, typeInfo, hi, hv, newVar, newRow, Result.andThen]
  rw [hrun]
  have h1 := hc.alloc n (hn n (by simp)) z v.cells t (0, 0) v.cells.toList [] (by simp) (by simp) (fun E _ => hr E)
  exact ⟨_, h1.put o.dst (.ptr n [] 0) _ hd (by simp [RelV, Rel, Ctx.RE])⟩
theorem opr_box {t : TypeId} {x : Operand} {y : AV} {n : Nat} (ho : o.op = .box t x) (hx : ρ x = y) (hy : y.layable = true) : OpR C o ρ η ⟨.ptr n [] 0, [(n, some y)], [n]⟩ := by
  intro hd S hρ hη hn a w ⟨σ, hc⟩
  unfold Oper.wp
  have hrun : (execOp a.eval o).run C.V.P w = .ok (.value (.pointer (some ⟨w.heap.size, 0, none⟩))) (w.alloc (.cells (a.eval x).cells t (0, 0))) := by
    simp [execOp, ho, Instr.box, newVar, newRow, Result.andThen]
  rw [hrun]
  have hv : RelV (C.RE S w σ) y (a.eval x) := by
    have := hρ x (by simp [ho, Op.operands]) _ _ rfl (ev_rel hc x)
    rwa [hx] at this
  have h1 := hc.alloc n (hn n (by simp)) y (a.eval x).cells t (0, 0) (a.eval x).cells.toList [] (by simp) (by simp) (fun E hE => Rel.le hE _ _ (hv.cells hy))
  exact ⟨_, h1.put o.dst (.ptr n [] 0) _ hd (by simp [RelV, Rel, Ctx.RE])⟩
theorem setCells_heap (b : Nat) : ∀ (vs : List Value) (k : Nat) (w : World) (c : Array Value) (t : TypeId) (fr : Nat × Nat), w.heap[b]? = some (.cells c t fr) → k + vs.length ≤ c.size →
    (w.setCells b k vs).heap[b]? = some (.cells (splice c.toList k vs).toArray t fr)
  | [], k, w, c, t, fr, h, _ => by
    rw [World.setCells, h]
    simp [splice]
  | v :: r, k, w, c, t, fr, h, hk => by
    have h1 : (w.setCell ⟨b, k, none⟩ v).heap[b]? = some (.cells (c.setIfInBounds k v) t fr) := by
      simp [World.setCell, Array.getElem?_modify, h]
    rw [World.setCells, setCells_heap b r (k + 1) _ _ t fr h1 (by simp at hk ⊢; omega)]
    congr 2
    apply Array.ext'
    apply List.ext_getElem?
    intro j
    simp only [List.length_cons] at hk
    rw [splice_getElem? (by simp; omega), splice_getElem? (by simp; omega)]
    simp only [Array.toList_setIfInBounds, List.length_cons]
    by_cases h2 : k + 1 ≤ j ∧ j < k + 1 + r.length
    · rw [if_pos h2, if_pos (by omega), show j - k = (j - (k + 1)) + 1 by omega, List.getElem?_cons_succ]
    · rw [if_neg h2]
      by_cases h3 : j = k
      · subst h3; rw [if_pos (by omega), Nat.sub_self, List.getElem?_cons_zero, List.getElem?_set_self (by simp; omega)]
      · rw [if_neg (by omega), List.getElem?_set_ne (by omega)]
theorem setCells_other (b : Nat) : ∀ (vs : List Value) (k : Nat) (w : World) (b' : Nat), b' ≠ b → (w.setCells b k vs).heap[b']? = w.heap[b']?
  | [], _, _, _, _ => rfl
  | v :: r, k, w, b', h => by rw [World.setCells, setCells_other b r (k + 1) _ b' h, Below.heap_setCell _ _ _ _ h]
theorem setCells_meta (b : Nat) : ∀ (vs : List Value) (k : Nat) (w : World), (w.setCells b k vs).heap.size = w.heap.size ∧ (w.setCells b k vs).os = w.os ∧ (w.setCells b k vs).tape = w.tape ∧ (w.setCells b k vs).output = w.output
  | [], _, _ => ⟨rfl, rfl, rfl, rfl⟩
  | v :: r, k, w => by
    obtain ⟨h1, h2, h3, h4⟩ := setCells_meta b r (k + 1) (w.setCell ⟨b, k, none⟩ v)
    exact ⟨by rw [World.setCells, h1]; simp [World.setCell], by rw [World.setCells, h2]; rfl, by rw [World.setCells, h3]; rfl, by rw [World.setCells, h4]; rfl⟩
/-- Cells of an own block are written. -/
theorem ConcS.write {C : Ctx} {S : St} {a : Act} {w : World} {σ : Nat → Nat} (hc : ConcS C S a w σ) (i : Nat) (tr tr' : AV) (hi : getH S.H i = some tr) (k : Nat) (ds : List Value)
    (hlen : ∀ c t fr, w.heap[σ i]? = some (.cells c t fr) → k + ds.length ≤ c.size)
    (hw : ∀ E : RE, (C.RE S w σ).le E → ∀ cs rest, Rel E tr cs → (∃ c t fr, w.heap[σ i]? = some (.cells c t fr) ∧ c.toList = cs ++ rest) → ∃ cs' rest', splice (cs ++ rest) k ds = cs' ++ rest' ∧ Rel E tr' cs') :
    ConcS C ⟨S.F, (i, some tr') :: S.H, S.nm⟩ a (w.setCells (σ i) k ds) σ := by
  obtain ⟨c, t, fr, cs, rest, h1, h2, h3, h4⟩ := (hc.blk i tr hi).2.2.2
  have h1' : w.heap[σ i]? = some (.cells c t fr) := h1
  obtain ⟨m1, m2, m3, m4⟩ := setCells_meta (σ i) ds k w
  have hnew := setCells_heap (σ i) ds k w c t fr h1' (hlen c t fr h1')
  have hlive : ∀ j x, getH ((i, some tr') :: S.H) j = some x → ∃ y, getH S.H j = some y := fun j x hj => by
    rw [getH_cons] at hj
    by_cases e : i = j
    · subst e; exact ⟨tr, hi⟩
    · rw [if_neg e] at hj; exact ⟨x, hj⟩
  have hst : Step S.H S.nm w σ ((i, some tr') :: S.H) S.nm (w.setCells (σ i) k ds) σ := by
    refine ⟨m2, m3, m4, by omega, fun _ _ => rfl, fun _ h => h, fun j x hj => ?_, fun b _ hb => setCells_other _ _ _ _ _ (Ne.symm (hb i tr hi)), fun b c' t' fr' hb => ?_⟩
    · obtain ⟨y, hy⟩ := hlive j x hj
      exact .inl ⟨j, y, hy, (hc.blk j y hy).1, rfl⟩
    · by_cases e : b = σ i
      · subst e
        rw [h1'] at hb
        simp only [Option.some.injEq, Obj.cells.injEq] at hb
        obtain ⟨rfl, rfl, rfl⟩ := hb
        exact ⟨_, _, _, hnew, by have e1 := hlen c t fr h1'; have e2 := splice_length (cs := c.toList) (ds := ds) (a := k) (by simpa using e1); simpa using e2.symm⟩
      · exact ⟨c', t', fr', by rw [setCells_other _ _ _ _ _ e]; exact hb, rfl⟩
  have hle := hc.le (S' := ⟨S.F, (i, some tr') :: S.H, S.nm⟩) hst
  refine hc.step (S' := ⟨S.F, (i, some tr') :: S.H, S.nm⟩) hst ?_ ?_ rfl
  · intro j l x y hj hl he
    obtain ⟨x', hx'⟩ := hlive j x hj
    obtain ⟨y', hy'⟩ := hlive l y hl
    exact hc.inj j l x' y' hx' hy' he
  · intro j x hj
    rw [getH_cons] at hj
    by_cases e : i = j
    · subst e
      rw [if_pos rfl] at hj
      simp only [Option.some.injEq] at hj
      subst hj
      obtain ⟨cs', rest', h5, h6⟩ := hw _ hle cs rest (Rel.le hle _ _ h3) ⟨c, t, fr, h1', h2⟩
      refine ⟨(hc.blk i tr hi).1, _, t, fr, cs', rest', hnew, by rw [List.toList_toArray, h2]; exact h5, h6, fun o' ho' => ?_⟩
      have := h4 o' (by rw [List.size_toArray, splice_length (by have := hlen c t fr h1'; simpa using this)] at ho'; simpa using ho')
      show (w.setCells (σ i) k ds).frozen? _ = false
      rw [World.frozen?_setCells]
      exact this
    · rw [if_neg e] at hj
      refine ⟨(hc.blk j x hj).1, (hc.blk j x hj).2.2.2.le hle ?_⟩
      exact setCells_other _ _ _ _ _ (fun he => e (hc.inj j i x tr hj hi he).symm)
theorem opr_store {t : TypeId} {x y : Operand} {i : Nat} {p : List Nat} {off : Nat} {tr old : AV} {v : AV} {b : Bool} {trn : AV} (ho : o.op = .store t x y) (hx : ρ x = .ptr i p off)
    (hH : η i = some tr) (hg : getP p tr = some old) (hin : inP p tr) (hoff : offP p tr = off) (hy : ρ y = v) (hl : v.layable = true) (hs : v.sz = old.sz)
    (hnn : thruA p tr = true → v.noN = true) (ht : tyOf C.V.P t = some (b, v.sz)) (htr : ∀ (E : RE) cs, Rel E (setP p tr v) cs → Rel E trn cs) : OpR C o ρ η ⟨.top, [(i, some trn)], []⟩ := by
  intro hd S hρ hη hn a w ⟨σ, hc⟩
  have hi := hη i tr hH
  have h1 := hρ x (by simp [ho, Op.operands]) _ _ rfl (ev_rel hc x)
  have h2 := hρ y (by simp [ho, Op.operands]) _ _ rfl (ev_rel hc y)
  rw [hx] at h1; rw [hy] at h2
  simp only [RelV, Rel, List.cons.injEq, and_true] at h1
  have hv := h2.cells hl
  have hvl := Rel.length v _ hv
  obtain ⟨c, ty, fr, cs, rest, e1, e2, e3, e4⟩ := (hc.blk i tr hi).2.2.2
  have e1' : w.heap[σ i]? = some (.cells c ty fr) := e1
  obtain ⟨g1, g2⟩ := rel_getP p tr cs old e3 hg hin
  rw [hoff] at g1 g2
  have hcl : cs.length ≤ c.size := by rw [← Array.length_toList, e2]; simp
  have hcells : ∀ j, j < (a.eval y).cells.toList.length → (w.cell? ⟨σ i, off + 0 + j, none⟩).isSome = true := fun j hj => by
    rw [hvl, hs] at hj
    simp only [World.cell?, e1', Option.isSome_none, Bool.false_eq_true, if_false, Nat.add_zero]
    rw [Array.getElem?_eq_getElem (by omega)]; rfl
  have hfroz : ∀ j, j < (a.eval y).cells.toList.length → w.frozen? ⟨σ i, off + 0 + j, none⟩ = false := fun j hj => by
    rw [hvl, hs] at hj
    exact e4 _ (by omega)
  have hst := run_storeCells_cells (P := C.V.P) (σ i) off (a.eval y).cells.toList 0 w hcells hfroz (Rel.cells v _ hv)
  obtain ⟨-, hsz⟩ := tyOf_spec ht
  have hrun : (execOp a.eval o).run C.V.P w = .ok .skip (w.setCells (σ i) off (a.eval y).cells.toList) := by
    have hsize : (a.eval y).cells.size = v.sz := by rw [← hvl]; simp
    have h1' : a.eval x = .pointer (some ⟨σ i, off, none⟩) := h1.2
    simp only [execOp, ho, h1', Instr.storeAt, Instr.sureAddr, storeVar, Sem.run_bind, Sem.run_pure, Result.andThen, hsz, hsize, ne_eq, not_true_eq_false, if_false, Sem.run_ite]
    simp only [Nat.add_zero] at hst
    rw [hst]
  unfold Oper.wp
  rw [hrun]
  have hw := hc.write i tr trn hi off (a.eval y).cells.toList (fun c' t' fr' hc' => by
      rw [e1'] at hc'; simp only [Option.some.injEq, Obj.cells.injEq] at hc'; obtain ⟨rfl, -, -⟩ := hc'; rw [hvl, hs]; omega)
    (fun E hE cs' rest' hr' _ => by
      have g3 := (rel_getP p tr cs' old hr' hg hin).2
      have := rel_setP p tr cs' old v (a.eval y).cells.toList hr' hg hin (Rel.le hE _ _ hv) hs hnn
      rw [hoff] at this g3
      exact ⟨_, rest', splice_append_left (by rw [hvl, hs]; exact g3), htr E _ this⟩)
  exact ⟨σ, hw.put o.dst .top undef hd (by simp [RelV])⟩
/-- An element of an own row is written. -/
theorem opr_storeA {t : TypeId} {x y : Operand} {i k off z m : Nat} {f : Nat → AV} {v : AV} {b : Bool} (ho : o.op = .store t x y) (hx : ρ x = .ptr i [k] off)
    (hH : η i = some (.arr z m f)) (hk : k < m) (hoff : k * z = off) (hy : ρ y = v) (hl : v.layable = true) (hs : v.sz = (f k).sz)
    (hnn : v.noN = true) (ht : tyOf C.V.P t = some (b, v.sz)) : OpR C o ρ η ⟨.top, [(i, some (.arr z m fun j => if j = k then v else f j))], []⟩ :=
  opr_store (trn := .arr z m fun j => if j = k then v else f j) ho hx hH rfl ⟨hk, trivial⟩ (by simpa [offP] using hoff) hy hl hs (fun _ => hnn) ht (fun E cs h => by simpa [setP] using h)
end
end Go.Fy
/- The engine, 7: contracts of functions; a function's body; a call (my own text; any program). -/
set_option linter.unusedSimpArgs false
namespace Go.Fy
open Go.RowKit
def bnd (H : List (Nat × Option AV)) (i : Nat) : Bool := H.any fun p => p.1 == i
def GAfter (G : Nat → Prop) (w w' : World) (H' : List (Nat × Option AV)) (σ' : Nat → Nat) (b : Nat) : Prop :=
  G b ∨ (w.heap.size ≤ b ∧ b < w'.heap.size ∧ ∀ i x, getH H' i = some x → σ' i ≠ b)
/-- A contract: called with what these abstract values say, own blocks as H tells, the function returns; what comes back and what the blocks then hold is as Q tells.
    'fr': the answer leads to new memory alone (and to what the own blocks led to), so that arguments may be views of memory that the caller goes on writing. -/
def ACalls (V : Env) (f : FuncId) (args : List AV) (H : List (Nat × Option AV)) (fr : Bool) (Q : AV → List (Nat × Option AV) → List Nat → Prop) : Prop :=
  ∀ (w : World) (σ : Nat → Nat) (G Gall : Nat → Prop) (vals : Array Value),
    (∀ x, Gall x → x < w.heap.size) → (∀ x, G x → Gall x) → (fr = false → ∀ x, Gall x → G x) → EnvOK ⟨V, w, σ, H.map (·.1), G⟩ →
    (∀ i j x y, getH H i = some x → getH H j = some y → σ i = σ j → i = j) →
    (∀ i x, getH H i = some x → ¬ Gall (σ i) ∧ Blk ⟨V, w, σ, H.map (·.1), G⟩ (σ i) x) →
    RelT ⟨V, w, σ, H.map (·.1), Gall⟩ args vals.toList →
    Calls V.P f vals w fun e w' => ∃ v r H' nm' σ', e = .returned v ∧ Q r H' nm' ∧ Step H (H.map (·.1)) w σ H' nm' w' σ' ∧ (∀ i, bnd H i = true → bnd H' i = true) ∧
      (∀ i j x y, getH H' i = some x → getH H' j = some y → σ' i = σ' j → i = j) ∧
      (∀ i x, getH H' i = some x → i ∈ nm' ∧ Blk ⟨V, w', σ', nm', GAfter G w w' H' σ'⟩ (σ' i) x) ∧ RelV ⟨V, w', σ', nm', GAfter G w w' H' σ'⟩ r v
theorem ACalls.mono {V : Env} {f : FuncId} {args : List AV} {H : List (Nat × Option AV)} {fr : Bool} {Q Q' : AV → List (Nat × Option AV) → List Nat → Prop}
    (h : ACalls V f args H fr Q) (hq : ∀ r H' n, Q r H' n → Q' r H' n) : ACalls V f args H fr Q' :=
  fun w σ G Gall vals h1 h2 h3 h4 h5 h6 h7 => (h w σ G Gall vals h1 h2 h3 h4 h5 h6 h7).mono fun _ _ ⟨v, r, H', nm', σ', a, b, c⟩ => ⟨v, r, H', nm', σ', a, hq _ _ _ b, c⟩
/-- Where one says what another says (of a slot; of cells). -/
def WkV (y x : AV) : Prop := ∀ (E : RE) (v : Value), RelV E y v → RelV E x v
def WkC (y x : AV) : Prop := ∀ (E : RE) (cs : List Value), Rel E y cs → Rel E x cs
theorem WkV.refl (x : AV) : WkV x x := fun _ _ h => h
theorem WkC.refl (x : AV) : WkC x x := fun _ _ h => h
theorem WkC.of {x y : AV} (h : y = x) : WkC y x := h ▸ WkC.refl _
theorem WkV.of {x y : AV} (h : y = x) : WkV y x := h ▸ WkV.refl _
/-- The commonest: no own block comes in or out. -/
def APure (V : Env) (f : FuncId) (args : List AV) (fr : Bool) (r : AV) : Prop := ACalls V f args [] fr fun r' H' nm' => WkV r' r ∧ H' = [] ∧ nm' = []
/-! ### A body -/
def frame0 : List AV → Nat → List (Nat × AV)
  | [], _ => []
  | x :: l, k => (k, x) :: frame0 l (k + 1)
theorem frame0_get {E : RE} : ∀ (args : List AV) (vs : List Value) (k : Nat), RelT E args vs → ∀ t, k ≤ t → RelV E (getF (frame0 args k) t) (vs.getD (t - k) undef)
  | [], vs, k, _, t, _ => by simp only [frame0, getF, RelV]
  | x :: l, vs, k, h, t, ht => by
    simp only [RelT] at h
    obtain ⟨c, d, rfl, h1, h2⟩ := h
    simp only [frame0]
    rw [getF_cons]
    by_cases e : k = t
    · subst e; simpa using h1
    · rw [if_neg e]
      have := frame0_get l d (k + 1) h2 t (by omega)
      rwa [show t - k = (t - (k + 1)) + 1 by omega, List.getD_cons_succ]
theorem RelT.length {E : RE} : ∀ (l : List AV) (vs : List Value), RelT E l vs → vs.length = l.length
  | [], _, h => by simp only [RelT] at h; subst h; rfl
  | x :: l, vs, h => by
    simp only [RelT] at h
    obtain ⟨c, d, rfl, h1, h2⟩ := h
    simp [RelT.length l d h2]
/-- What the function hands back, in this state. -/
def Res (C : Ctx) (S : St) (fn : Func) (r : AV) : Prop :=
  ∀ a w σ, ConcS C S a w σ → ∃ v, (results fn a.tmps).run C.V.P w = .ok v w ∧ RelV (C.RE S w σ) r v
/-- From what holds within the body to what holds for the caller; no own block stays but those that came in. -/
def Cv (S : St) (nm : List Nat) (fr : Bool) (r0 r : AV) : Prop :=
  ∀ (E E' : RE) (v : Value), E'.V = E.V → E'.w = E.w → (fr = false → ∀ b, E.G b → E'.G b) → (∀ i, i ∈ nm → E'.σ i = E.σ i ∧ i ∈ E'.nm) →
    (nm = [] → ∀ i y, getH S.H i = some y → E'.G (E.σ i) ∧ Blk E (E.σ i) y) → RelV E r0 v → RelV E' r v
def AEnd (C : Ctx) (fn : Func) (H : List (Nat × Option AV)) (fr : Bool) (Q : AV → List (Nat × Option AV) → List Nat → Prop) (S : St) : Prop :=
  ∃ (r0 r : AV) (H' : List (Nat × Option AV)), Res C S fn r0 ∧ Q r H' (H.map (·.1)) ∧ (fr = true → H = []) ∧ (∀ i, bnd H i = true → bnd H' i = true) ∧
    (∀ i x, getH H' i = some x → i ∈ H.map (·.1) ∧ x.noN = true ∧ getH S.H i = some x ∧ ∃ y, getH H i = some y) ∧
    Cv S (H.map (·.1)) fr r0 r
def APost (C : Ctx) (fn : Func) (H : List (Nat × Option AV)) (fr : Bool) (Q : AV → List (Nat × Option AV) → List Nat → Prop) : Exit → St → Prop
  | .normal, S | .ret, S => AEnd C fn H fr Q S
  | _, _ => False
theorem apost_ret {C : Ctx} {fn : Func} {H : List (Nat × Option AV)} {fr : Bool} {Q : AV → List (Nat × Option AV) → List Nat → Prop} {S : St} (h : AEnd C fn H fr Q S) : APost C fn H fr Q .ret S := h
/-- A mark is taken: its block is shut. -/
theorem ConcS.shutD {C : Ctx} {S : St} {a a' : Act} {w : World} {σ : Nat → Nat} {D : Nat} {Ds : List Nat} (hc : ConcS C S a w σ) (ha : a.defers = (D :: Ds).map mark) (ht : a'.tmps = a.tmps) (ha' : a'.defers = Ds.map mark)
    (hD : w.heap[D]? = some (.deferred (some []))) : ConcS C S a' (w.putObj D (.deferred none)) σ := by
  obtain ⟨Ds', e1, hnd, hall⟩ := hc.defers
  have hDD : Ds' = D :: Ds := by
    have e2 := ha.symm.trans e1
    have hinj : ∀ (l m : List Nat), l.map mark = m.map mark → l = m := by
      intro l
      induction l with
      | nil => intro m h; cases m with
        | nil => rfl
        | cons y m => simp at h
      | cons x l ih => intro m h; cases m with
        | nil => simp at h
        | cons y m =>
          simp only [List.map_cons, List.cons.injEq] at h
          obtain ⟨h1, h2⟩ := h
          have : x = y := by
            have h3 : (mark x).target = (mark y).target := by rw [h1]
            simpa [mark] using h3
          rw [this, ih m h2]
    exact (hinj _ _ e2).symm
  subst hDD
  have hge : C.w0.heap.size ≤ D := (hall D (by simp)).1
  have hoth : ∀ b, b ≠ D → (w.putObj D (.deferred none)).heap[b]? = w.heap[b]? := fun b hb => World.putObj_heap_other hb
  have hsz : (w.putObj D (.deferred none)).heap.size = w.heap.size := by simp
  have hsame : (w.putObj D (.deferred none)).heap[D]? = some (.deferred none) := World.putObj_heap_same (Array.getElem?_eq_some_iff.1 hD).1
  have hcell : ∀ b o s, (w.putObj D (.deferred none)).cell? ⟨b, o, s⟩ = w.cell? ⟨b, o, s⟩ := fun b o s => by
    by_cases e : b = D
    · subst e; simp only [World.cell?, hsame, hD]
    · exact cell_of_block (hoth b e) o s
  have hcl : ∀ (b : Nat) (c : Array Value) (t : TypeId) (fr : Nat × Nat), w.heap[b]? = some (.cells c t fr) → (w.putObj D (.deferred none)).heap[b]? = some (.cells c t fr) := fun b c t fr h => by
    refine (hoth b fun e => ?_).trans h
    subst e; rw [hD] at h; cases h
  have hle : (C.RE S w σ).le (C.RE S (w.putObj D (.deferred none)) σ) :=
    ⟨rfl, fun _ _ => rfl, fun _ h => h, fun b hb => by
      rcases hb with hb | ⟨h1, h2, h3⟩
      · exact .inl hb
      · exact .inr ⟨h1, by rw [hsz]; exact h2, h3⟩, fun b _ o v hv => (hcell b o none).trans hv, fun b c t fr h => ⟨c, t, fr, hcl b c t fr h, rfl⟩, fun b _ es cl h => (hoth b fun e => by
        have h9 : w.heap[b]? = some (.map es cl) := h
        rw [e, hD] at h9; cases h9).trans h⟩
  refine ⟨hc.ok, ⟨Ds, ha', (List.nodup_cons.1 hnd).2, fun E hE => ⟨(hall E (by simp [hE])).1, (hoth E fun e => (List.nodup_cons.1 hnd).1 (by rw [← e]; exact hE)).trans (hall E (by simp [hE])).2⟩⟩, by rw [ht]; exact hc.size,
    ⟨hc.kept.os, hc.kept.tape, hc.kept.output, by rw [hsz]; exact hc.kept.size, fun b hb hn => (hoth b (by omega)).trans (hc.kept.block b hb hn), fun b c t fr hb => ?_⟩, hc.σ0, hc.inj, fun i x hi => ?_, hc.env.le hle, fun t => ?_⟩
  · obtain ⟨c', t', fr', h1, h2⟩ := hc.kept.cells b c t fr hb
    exact ⟨c', t', fr', hcl _ _ _ _ h1, h2⟩
  · obtain ⟨h1, h2, h3, h4⟩ := hc.blk i x hi
    refine ⟨h1, h2, h3, h4.le hle (hoth _ fun e => ?_)⟩
    obtain ⟨c, t, fr, cs, rest, h5, -⟩ := h4
    rw [e] at h5
    have h6 : w.heap[D]? = some (.cells c t fr) := h5
    rw [hD] at h6; cases h6
  · rw [ht]; exact RelV.le hle _ _ (hc.slot t)
theorem leaves_marks {C : Ctx} {S : St} {fn : Func} {R : Ending → World → Prop} {σ : Nat → Nat} : ∀ (Ds : List Nat) (a : Act) (w : World), a.defers = Ds.map mark → ConcS C S a w σ →
    (∀ a2 w2, a2.tmps = a.tmps → ConcS C S a2 w2 σ → ∃ v, (results fn a2.tmps).run C.V.P w2 = .ok v w2 ∧ R (.returned v) w2) → LeavesInM Fence.wide 0 C.V.P fn a.tmps R (Ds.map mark) .returning w
  | [], a, w, _, hc, h => h a w rfl hc
  | D :: Ds, a, w, ha, hc, h => by
    have hD : w.heap[D]? = some (.deferred (some [])) := by
      obtain ⟨Ds', e1, -, hall⟩ := hc.defers
      have h1 : mark D ∈ Ds'.map mark := by rw [← e1, ha]; simp
      obtain ⟨E, hE, he⟩ := List.mem_map.1 h1
      have : E = D := by
        have h3 : (mark E).target = (mark D).target := by rw [he]
        simpa [mark] using h3
      subst this; exact (hall E hE).2
    refine ⟨(by intro h; cases h), .inl ⟨D, _, rfl, run_takeDeferred hD, ?_⟩⟩
    exact leaves_marks Ds { a with defers := Ds.map mark } _ rfl (hc.shutD ha rfl rfl hD) h
/-- From a walk of a function's body to the function. -/
theorem calls_of_awp {C : Ctx} {S0 : St} {f : FuncId} {fn : Func} {c : Code} {vals : Array Value} {w : World} {σ : Nat → Nat} {Q : Exit → St → Prop} {R : Ending → World → Prop} (hf : C.V.P.funcs[f]? = some fn) (hb : fn.body = some c)
    (hc : ConcS C S0 { tmps := vals ++ Array.replicate (fn.ntmps - vals.size) undef, defers := [] } w σ) (h : AWP C c Q S0)
    (hend : ∀ e S' a' w' σ', ConcS C S' a' w' σ' → Q e S' → (e = .normal ∨ e = .ret) ∧ ∃ v, (results fn a'.tmps).run C.V.P w' = .ok v w' ∧ R (.returned v) w') : Calls C.V.P f vals w R := by
  refine (callsIn_wide (n := 0)).1 (callsIn_of_wp_marks hf hb trivial (wpIn_wide.2 (wp_mono (h _ w ⟨σ, hc⟩) fun e a' w' ⟨S', ⟨σ', hc'⟩, hq⟩ => ?_)))
  obtain ⟨Ds, e1, -, -⟩ := hc'.defers
  have hl : LeavesInM Fence.wide 0 C.V.P fn a'.tmps R a'.defers .returning w' := by
    rw [e1]
    exact leaves_marks Ds a' w' e1 hc' fun a2 w2 _ hc2 => (hend e S' a2 w2 σ' hc2 hq).2
  rcases (hend e S' a' w' σ' hc' hq).1 with rfl | rfl
  · exact hl
  · exact hl
theorem acalls_of_body {V : Env} {f : FuncId} {fn : Func} {c : Code} {args : List AV} {H : List (Nat × Option AV)} {fr : Bool} {Q : AV → List (Nat × Option AV) → List Nat → Prop}
    (hf : V.P.funcs[f]? = some fn) (hb : fn.body = some c) {N : Nat} (hN : fn.ntmps = N) (hle : args.length ≤ N)
    (h : ∀ C : Ctx, C.V = V → C.N = N → C.nm0 = H.map (·.1) → (∀ b, C.own0 b → ∃ j, j ∈ C.nm0 ∧ C.σ0 j = b) → AWP C c (APost C fn H fr Q) ⟨frame0 args 0, H, H.map (·.1)⟩) : ACalls V f args H fr Q := by
  intro w σ G Gall vals h1 h2 h3 h4 h5 h6 h7
  let C : Ctx := { V := V, N := N, w0 := w, G0 := Gall, σ0 := σ, nm0 := H.map (·.1), own0 := fun b => ∃ i x, getH H i = some x ∧ σ i = b }
  have hlen := RelT.length args _ h7
  simp only [Array.length_toList] at hlen
  have hGall : ∀ S : St, S.H = H → ∀ b, C.G S.H w σ b ↔ Gall b := fun S hS b => by
    constructor
    · rintro (hb | ⟨h8, h9, -⟩)
      · exact hb
      · exact absurd h9 (Nat.not_lt.2 h8)
    · exact .inl
  have hle0 : (⟨V, w, σ, H.map (·.1), Gall⟩ : RE).le (C.RE ⟨frame0 args 0, H, H.map (·.1)⟩ w σ) :=
    ⟨rfl, fun _ _ => rfl, fun _ h => h, fun b hb => .inl hb, fun _ _ _ _ h => h, fun _ c t fr h => ⟨c, t, fr, h, rfl⟩, fun _ _ _ _ h => h⟩
  have hleG : (⟨V, w, σ, H.map (·.1), G⟩ : RE).le ⟨V, w, σ, H.map (·.1), Gall⟩ :=
    ⟨rfl, fun _ _ => rfl, fun _ h => h, fun b hb => h2 b hb, fun _ _ _ _ h => h, fun _ c t fr h => ⟨c, t, fr, h, rfl⟩, fun _ _ _ _ h => h⟩
  have hnm : ∀ i x, getH H i = some x → i ∈ H.map (·.1) := by
    have : ∀ (L : List (Nat × Option AV)) i x, getH L i = some x → i ∈ L.map (·.1) := by
      intro L
      induction L with
      | nil => intro i x h; simp [getH] at h
      | cons p L ih =>
        intro i x h
        obtain ⟨d, v⟩ := p
        rw [getH_cons] at h
        by_cases e : d = i
        · simp [e]
        · rw [if_neg e] at h; simp [ih i x h]
    exact this H
  have hc : ConcS C ⟨frame0 args 0, H, H.map (·.1)⟩ { tmps := vals ++ Array.replicate (fn.ntmps - vals.size) undef, defers := [] } w σ := by
    refine ⟨⟨h1, fun b hb ⟨i, x, hi, he⟩ => (h6 i x hi).1 (by rw [he]; exact hb)⟩, Marks.nil _ _, ?_, ⟨rfl, rfl, rfl, Nat.le_refl _, fun _ _ _ => rfl, fun _ c t fr h => ⟨c, t, fr, h, rfl⟩⟩, fun i hi => ⟨rfl, hi⟩, h5, fun i x hi => ⟨hnm i x hi, (h6 i x hi).1, .inl ⟨i, x, hi, rfl⟩, ?_⟩,
      h4.le (hleG.trans hle0), fun t => ?_⟩
    · show (vals ++ Array.replicate (fn.ntmps - vals.size) undef).size = N
      rw [Array.size_append, Array.size_replicate, hN]; omega
    · exact (h6 i x hi).2.le (hleG.trans hle0) rfl
    · have := RelV.le hle0 _ _ (frame0_get args vals.toList 0 h7 t (Nat.zero_le t))
      rw [Nat.sub_zero] at this
      show RelV _ (getF (frame0 args 0) t) ((vals ++ Array.replicate (fn.ntmps - vals.size) undef).getD t undef)
      have e : (vals ++ Array.replicate (fn.ntmps - vals.size) undef).getD t undef = vals.toList.getD t undef := by
        simp only [Array.getD_eq_getD_getElem?, List.getD_eq_getElem?_getD, Array.getElem?_append, Array.getElem?_toList]
        split
        · rfl
        · rename_i hlt
          rw [Array.getElem?_replicate, Array.getElem?_eq_none (by omega)]
          split <;> rfl
      rw [e]; exact this
  refine calls_of_awp (C := C) (σ := σ) hf hb hc (h C rfl rfl rfl (fun b ⟨i, x, hi, he⟩ => ⟨i, hnm i x hi, he⟩)) fun e S' a' w' σ' hc' hp => ?_
  have hend : AEnd C fn H fr Q S' → ∃ v, (results fn a'.tmps).run V.P w' = .ok v w' ∧ ∃ v0 r H' nm' σ', Ending.returned v = .returned v0 ∧ Q r H' nm' ∧ Step H (H.map (·.1)) w σ H' nm' w' σ' ∧
      (∀ i, bnd H i = true → bnd H' i = true) ∧ (∀ i j x y, getH H' i = some x → getH H' j = some y → σ' i = σ' j → i = j) ∧
      (∀ i x, getH H' i = some x → i ∈ nm' ∧ Blk ⟨V, w', σ', nm', GAfter G w w' H' σ'⟩ (σ' i) x) ∧ RelV ⟨V, w', σ', nm', GAfter G w w' H' σ'⟩ r v0 := by
    rintro ⟨r0, r, H', hres, hQ, hfr, hbnd, hH', hcv⟩
    obtain ⟨v, hrun, hv⟩ := hres a' w' σ' hc'
    refine ⟨v, hrun, v, r, H', H.map (·.1), σ', rfl, hQ, ?_, hbnd, ?_, ?_, ?_⟩
    · refine ⟨hc'.kept.os, hc'.kept.tape, hc'.kept.output, hc'.kept.size, fun i hi => (hc'.σ0 i hi).1, fun _ h => h, fun i x hi => ?_, fun b hb hn => ?_, fun b cc t f hb => ?_⟩
      · obtain ⟨k1, -, -, k2⟩ := hH' i x hi
        obtain ⟨y, k2⟩ := k2
        exact .inl ⟨i, y, k2, k1, (hc'.σ0 i k1).1.symm⟩
      · exact hc'.kept.block b hb fun ⟨i, x, hi, he⟩ => hn i x hi he
      · exact hc'.kept.cells b cc t f hb
    · intro i j x y hi hj he
      exact hc'.inj i j x y (hH' i x hi).2.2.1 (hH' j y hj).2.2.1 he
    · intro i x hi
      obtain ⟨k1, k2, k3, k4⟩ := hH' i x hi
      refine ⟨k1, ?_⟩
      obtain ⟨c1, t1, f1, cs, rest, g1, g2, g3, g4⟩ := (hc'.blk i x k3).2.2.2
      refine ⟨c1, t1, f1, cs, rest, g1, g2, ?_, g4⟩
      have g5 := Rel.noN x cs k2 g3
      refine Rel.le ?_ _ _ g5
      cases fr with
      | true => have := hfr rfl; subst this; simp at k1
      | false =>
        refine ⟨rfl, (fun _ hi => by simp [RE.bare] at hi), (fun _ hi => by simp [RE.bare] at hi), fun b hb => ?_, fun _ _ _ _ h => h, fun _ c t f h => ⟨c, t, f, h, rfl⟩, fun _ _ _ _ h => h⟩
        rcases hb with hb | ⟨m1, m2, m3⟩
        · exact .inl (h3 rfl b hb)
        · exact .inr ⟨m1, m2, fun j y hj => m3 j y (hH' j y hj).2.2.1⟩
    · refine hcv (C.RE S' w' σ') ⟨V, w', σ', H.map (·.1), GAfter G w w' H' σ'⟩ v rfl rfl ?_ (fun i hi => ⟨rfl, hi⟩) ?_ hv
      · intro hf' b hb
        rcases hb with hb | ⟨m1, m2, m3⟩
        · exact .inl (h3 hf' b hb)
        · exact .inr ⟨m1, m2, fun j y hj => m3 j y (hH' j y hj).2.2.1⟩
      · intro hnil i y hi
        have hB := hc'.blk i y hi
        have hH : H = [] := List.map_eq_nil_iff.1 hnil
        refine ⟨.inr ⟨?_, hB.2.2.2.lt, fun j x hj _ => ?_⟩, hB.2.2.2⟩
        · rcases hB.2.2.1 with ⟨j, x, hj, -⟩ | h8
          · rw [hH] at hj; simp [getH] at hj
          · exact h8
        · have := (hH' j x hj).1
          rw [hH] at this; simp at this
  cases e <;> first
    | exact ⟨.inl rfl, hend hp⟩
    | exact ⟨.inr rfl, hend hp⟩
    | exact hp.elim
end Go.Fy
/- The engine, 8: what comes back, what a call does (my own text; any program). -/
set_option linter.unusedSimpArgs false
namespace Go.Fy
open Go.RowKit
/-! ### Results -/
inductive ResL (C : Ctx) (S : St) : List ResultVar → List AV → Prop
  | nil : ResL C S [] []
  | tmp {t : Tmp} {l : List ResultVar} {xs : List AV} (h : ResL C S l xs) : ResL C S (.tmp t :: l) (getF S.F t :: xs)
  | cell {t : Tmp} {ty : TypeId} {l : List ResultVar} {xs : List AV} {i : Nat} {p : List Nat} {off : Nat} {tr x : AV} (h1 : getF S.F t = .ptr i p off) (h2 : getH S.H i = some tr) (h3 : getP p tr = some x)
      (h4 : inP p tr) (h5 : offP p tr = off) (h6 : tyOf C.V.P ty = some (x.isAgg, x.sz)) (h : ResL C S l xs) : ResL C S (.cell t ty :: l) (x :: xs)
def resF (tmps : Array Value) : ResultVar → Sem Value
  | .tmp t => pure (tmps.getD t undef)
  | .cell b t => do loadVar t (← asAddr (tmps.getD b undef))
theorem resL_run {C : Ctx} {S : St} {l : List ResultVar} {xs : List AV} (h : ResL C S l xs) : ∀ a w σ, ConcS C S a w σ → ∃ vs : List Value,
    (l.mapM (resF a.tmps)).run C.V.P w = .ok vs w ∧ RelT (C.RE S w σ) xs vs ∧ vs.length = xs.length := by
  induction h with
  | nil => intro a w σ _; exact ⟨[], by simp, by simp [RelT], rfl⟩
  | @tmp t l xs _ ih =>
    intro a w σ hc
    obtain ⟨vs, h1, h2, h3⟩ := ih a w σ hc
    refine ⟨a.tmps.getD t undef :: vs, ?_, by simp only [RelT]; exact ⟨_, _, rfl, hc.slot t, h2⟩, by simp [h3]⟩
    have e : (resF a.tmps (.tmp t)).run C.V.P w = .ok (a.tmps.getD t undef) w := rfl
    simp only [List.mapM_cons, Sem.run_bind, Sem.run_pure, Result.andThen, e, h1]
  | @cell t ty l xs i p off tr x e1 e2 e3 e4 e5 e6 _ ih =>
    intro a w σ hc
    obtain ⟨vs, h1, h2, h3⟩ := ih a w σ hc
    obtain ⟨ds, g1, g2, g3⟩ := (hc.blk i tr e2).2.2.2.holds e3 e4
    rw [e5] at g1
    obtain ⟨u, g4, g5⟩ := loadAt_run (E := C.RE S w σ) (a := ⟨σ i, off, none⟩) rfl g1 g2 e6
    have hs := hc.slot t
    rw [e1] at hs
    simp only [RelV, Rel, List.cons.injEq, and_true] at hs
    have hs2 : a.tmps.getD t undef = .pointer (some ⟨σ i, off, none⟩) := hs.2
    refine ⟨u :: vs, ?_, by simp only [RelT]; exact ⟨_, _, rfl, g5, h2⟩, by simp [h3]⟩
    have g4' : (loadVar ty ⟨σ i, off, none⟩).run C.V.P w = .ok u w := by
      simp only [Instr.loadAt, Instr.sureAddr, Sem.run_bind, Sem.run_pure, Result.andThen] at g4
      exact g4
    have e : (resF a.tmps (.cell t ty)).run C.V.P w = .ok u w := by
      simp only [resF, hs2, asAddr, Sem.run_bind, Sem.run_pure, Result.andThen, g4']
    simp only [List.mapM_cons, Sem.run_bind, Sem.run_pure, Result.andThen, h1, e]
theorem res_list {C : Ctx} {S : St} {fn : Func} {xs : List AV} (h : ResL C S fn.results.toList xs) : ∀ a w σ, ConcS C S a w σ → ∃ vs : List Value, (results fn a.tmps).run C.V.P w =
    .ok (if h : vs.toArray.size = 1 then vs.toArray[0] else .tuple vs.toArray) w ∧ RelT (C.RE S w σ) xs vs ∧ vs.length = xs.length := by
  intro a w σ hc
  obtain ⟨vs, h1, h2, h3⟩ := resL_run h a w σ hc
  refine ⟨vs, ?_, h2, h3⟩
  have e : results fn a.tmps = (do let vs ← fn.results.mapM (resF a.tmps); pure (if h : vs.size = 1 then vs[0] else .tuple vs)) := by
    unfold results
    congr 1
  have e2 : (fn.results.mapM (resF a.tmps)).run C.V.P w = .ok vs.toArray w := by
    have : fn.results = fn.results.toList.toArray := by simp
    rw [this, List.mapM_toArray]
    simp only [Sem.run_map, h1, Result.andThen]
  rw [e]
  simp only [Sem.run_bind, e2, Result.andThen, Sem.run_pure]
theorem res_one {C : Ctx} {S : St} {fn : Func} {x : AV} (h : ResL C S fn.results.toList [x]) : Res C S fn x := by
  intro a w σ hc
  obtain ⟨vs, h1, h2, h3⟩ := res_list h a w σ hc
  simp only [RelT] at h2
  obtain ⟨c, d, rfl, h4, rfl⟩ := h2
  exact ⟨c, by simpa using h1, h4⟩
theorem res_many {C : Ctx} {S : St} {fn : Func} {xs : List AV} (h : ResL C S fn.results.toList xs) (hn : xs.length ≠ 1) : Res C S fn (.tup xs) := by
  intro a w σ hc
  obtain ⟨vs, h1, h2, h3⟩ := res_list h a w σ hc
  rw [dif_neg (by simpa [h3] using hn)] at h1
  exact ⟨_, h1, by simp only [RelV]; exact ⟨vs.toArray, rfl, by simpa using h2⟩⟩
/-! ### From within to without -/
theorem cv_noN {S : St} {nm : List Nat} {x : AV} (hx : x.noN = true) : Cv S nm false x x := by
  intro E E' v h1 h2 h3 h4 h5 hv
  have key : ∀ (x : AV), x.noN = true → ∀ v, RelV E x v → RelV E' x v := by
    have hb : E.bare.le E'.bare := ⟨h1, (fun _ hi => by simp [RE.bare] at hi), (fun _ hi => by simp [RE.bare] at hi), h3 rfl, fun b _ _ => by simp [RE.bare, h2], fun b c t fr hh => ⟨c, t, fr, by simpa [RE.bare, h2] using hh, rfl⟩, fun b _ es cl hh => by simpa [RE.bare, h2] using hh⟩
    have hone : ∀ (x : AV) cs, x.noN = true → Rel E x cs → Rel E' x cs := fun x cs hn h => Rel.le (hb.trans E'.bare_le) _ _ (Rel.noN x cs hn h)
    have hL : ∀ (l : List AV) cs, AV.noNL l = true → RelL E l cs → RelL E' l cs := fun l cs hn h => RelL.le (hb.trans E'.bare_le) _ _ (RelL.noN l cs hn h)
    intro x
    have hT : ∀ l : List AV, (∀ x ∈ l, x.noN = true → ∀ v, RelV E x v → RelV E' x v) → AV.noNL l = true → ∀ vs, RelT E l vs → RelT E' l vs := by
      intro l
      induction l with
      | nil => intro _ _ vs h; simpa only [RelT] using h
      | cons y l ih =>
        intro hy hn vs h
        simp only [RelT, AV.noNL, Bool.and_eq_true] at *
        obtain ⟨c, d, e1, e2, e3⟩ := h
        exact ⟨c, d, e1, hy y (by simp) hn.1 c e2, ih (fun z hz => hy z (by simp [hz])) hn.2 d e3⟩
    refine AV.rec (motive_1 := fun x => x.noN = true → ∀ v, RelV E x v → RelV E' x v) (motive_2 := fun l => ∀ x ∈ l, x.noN = true → ∀ v, RelV E x v → RelV E' x v)
      ?_ ?_ ?_ ?_ ?_ ?_ ?_ ?_ ?_ ?_ ?_ ?_ ?_ ?_ ?_ ?_ ?_ ?_ x
    · intro _ v _; simp only [RelV]
    · intro b _ v h; simpa only [RelV] using h
    · intro k n _ v h; simpa only [RelV] using h
    · intro s _ v h; simpa only [RelV, Rel] using h
    · intro u _ v h; simpa only [RelV, Rel] using h
    · intro e _ v h; simp only [RelV] at *; exact (ErrRel.bare e v).2 (((ErrRel.bare e v).1 h).le hb)
    · intro a b c d _ hn v h; simp only [RelV] at *; exact hone _ _ hn h
    · intro y _ hn v h; simp only [RelV] at *; exact hone _ _ hn h
    · intro i p o hn; simp [AV.noN] at hn
    · intro i a b c d hn; simp [AV.noN] at hn
    · intro l _ hn v h
      simp only [RelV, AV.noN] at *
      obtain ⟨cs, e1, e2⟩ := h
      exact ⟨cs, e1, hL l _ hn e2⟩
    · intro a n f _ hn v h
      simp only [RelV] at *
      obtain ⟨cs, e1, e2⟩ := h
      exact ⟨cs, e1, hone _ _ rfl e2⟩
    · intro l ih hn v h
      simp only [RelV, AV.noN] at *
      obtain ⟨vs, e1, e2⟩ := h
      exact ⟨vs, e1, hT l ih hn _ e2⟩
    · intro f l _ hn v h; simp only [RelV] at *; exact hone _ _ hn h
    · intro g y ih hn v h
      simp only [RelV, AV.noN] at *
      exact ⟨fun hg => ih hn v (h.1 hg), h.2⟩
    · intro lo f _ v h
      simp only [RelV] at *
      obtain ⟨D, es, cl, e1, e2, e3, e4, e5⟩ := h
      exact ⟨D, es, cl, e1, e2, h3 (by trivial) _ e3, by rw [h2]; exact e4, e5⟩
    · intro z hz; cases hz
    · intro y l h1 h2 z hz
      rcases List.mem_cons.1 hz with rfl | hz
      · exact h1
      · exact h2 z hz
  exact key x hx v hv
mutual
/-- It leads to no memory but own blocks (and sentinels): whatever stays as it is needn't stay. -/
def AV.free : AV → Bool
  | .bool _ | .int _ _ | .str _ | .val _ | .top => true
  | .err .nil => true
  | .err (.code _) => true
  | .sl _ _ 0 _ => true
  | .agg l => AV.freeL l
  | .tup l => AV.freeL l
  | _ => false
def AV.freeL : List AV → Bool
  | [] => true
  | x :: l => x.free && AV.freeL l
end
mutual
theorem Rel.free {E E' : RE} (hV : E'.V = E.V) : ∀ (x : AV) (cs : List Value), x.free = true → Rel E x cs → Rel E' x cs
  | .bool _, _, _, h => by simp only [Rel] at *; exact h
  | .int _ _, _, _, h => by simp only [Rel] at *; exact h
  | .str _, _, _, h => by simp only [Rel] at *; exact h
  | .val _, _, _, h => by simp only [Rel] at *; exact h
  | .top, _, _, h => by simp only [Rel] at *; exact h
  | .err .nil, _, _, h => by simp only [Rel, ErrRel] at *; exact h
  | .err (.code _), _, _, h => by simp only [Rel, ErrRel, hV] at *; exact h
  | .err (.at _ _), _, hf, _ => by simp [AV.free] at hf
  | .sl z nn 0 f, cs, _, h => by
    simp only [Rel] at *
    obtain ⟨a, cap, h1, h2, h3, h4, h5⟩ := h
    exact ⟨a, cap, h1, h2, h3, h4, fun b hb => ⟨(h5 b hb).1, fun h => absurd h (by omega), fun j hj => absurd hj (by omega)⟩⟩
  | .sl _ _ (_ + 1) _, _, hf, _ => by simp [AV.free] at hf
  | .agg l, cs, hf, h => by simp only [Rel, AV.free] at *; exact RelL.free hV l cs hf h
  | .tup _, _, _, h => by simp only [Rel] at h
  | .gd _ _, _, hf, _ => by simp [AV.free] at hf
  | .fptr _, _, hf, _ => by simp [AV.free] at hf
  | .ptr _ _ _, _, hf, _ => by simp [AV.free] at hf
  | .osl _ _ _ _ _, _, hf, _ => by simp [AV.free] at hf
  | .arr _ _ _, _, hf, _ => by simp [AV.free] at hf
  | .fn _ _, _, hf, _ => by simp [AV.free] at hf
  | .mp _ _, _, hf, _ => by simp [AV.free] at hf
theorem RelL.free {E E' : RE} (hV : E'.V = E.V) : ∀ (l : List AV) (cs : List Value), AV.freeL l = true → RelL E l cs → RelL E' l cs
  | [], _, _, h => by simp only [RelL] at *; exact h
  | x :: l, cs, hf, h => by
    simp only [RelL, AV.freeL, Bool.and_eq_true] at *
    obtain ⟨c, d, h1, h2, h3⟩ := h
    exact ⟨c, d, h1, Rel.free hV x c hf.1 h2, RelL.free hV l d hf.2 h3⟩
end
/-- One result among several, or alone: as it is; or an own row that is handed away. -/
inductive CvX (S : St) (nm : List Nat) (fr : Bool) : AV → AV → Prop
  | noN {x : AV} (hf : fr = false) (h : x.noN = true) : CvX S nm fr x x
  | free {x : AV} (ho : x.one = true) (ht : x ≠ .top) (h : x.free = true) : CvX S nm fr x x
  | freeAgg {l : List AV} (h : AV.freeL l = true) : CvX S nm fr (.agg l) (.agg l)
  | row {i z of n c m : Nat} {f : Nat → AV} (hn : nm = []) (hi : getH S.H i = some (.arr z m f)) (hle : of + n ≤ m) (hf : fr = false ∨ ∀ j, j < m → (f j).free = true) (g : Nat → AV)
      (hg : ∀ j, j < n → g j = f (of + j)) : CvX S nm fr (.osl i z of n c) (.sl z false n g)
theorem CvX.cv {S : St} {nm : List Nat} {fr : Bool} {r0 r : AV} (h : CvX S nm fr r0 r) : Cv S nm fr r0 r := by
  cases h with
  | noN hf h => subst hf; exact cv_noN h
  | free ho ht h =>
    intro E E' v h1 h2 _ _ _ hv
    exact (Rel.free h1 _ _ h (hv.toRel ho ht)).toV ho
  | freeAgg h =>
    intro E E' v h1 h2 _ _ _ hv
    simp only [RelV] at *
    obtain ⟨cs, e1, e2⟩ := hv
    exact ⟨cs, e1, RelL.free h1 _ _ h e2⟩
  | @row i z of n c m f hn hi hle hf g hg =>
    intro E E' v h1 h2 h3 _ h5 hv
    simp only [RelV, Rel, List.cons.injEq, and_true] at hv ⊢
    obtain ⟨hm, hc, o, cc, hv, hcc, ho, c', t', fr', hh, hsz⟩ := hv
    obtain ⟨hG, c1, t1, fr1, cs, rest, g1, g2, g3, g4⟩ := h5 hn i _ hi
    refine ⟨_, cc, hv, by omega, rfl, by simp, fun b hb => ?_⟩
    simp only [Option.some.injEq] at hb
    subst hb
    refine ⟨fun _ => rfl, fun _ => hG, fun j hj => ?_⟩
    have ho' := ho (by omega)
    subst ho'
    simp only [Rel] at g3
    obtain ⟨g5, g6⟩ := g3.2 (of + j) (by omega)
    refine ⟨_, g6, fun k u hk => ?_, ?_⟩
    · have hk' : k < z := by rw [← g6]; exact (List.getElem?_eq_some_iff.1 hk).1
      rw [List.getElem?_take_of_lt hk', List.getElem?_drop] at hk
      have hm1 := Nat.mul_le_mul_right z (show of + j + 1 ≤ m by omega)
      rw [Nat.add_mul (of + j) 1 z, Nat.one_mul] at hm1
      have hl : (of + j) * z + k < cs.length := by rw [g3.1]; omega
      simp only [World.cell?, h2, g1, Option.isSome_none, Bool.false_eq_true, if_false]
      rw [← Array.getElem?_toList, g2, show of * z + (j * z + k) = (of + j) * z + k by rw [Nat.add_mul]; omega, List.getElem?_append_left hl]
      exact hk
    · rw [hg j hj]
      rcases hf with hf | hf
      · refine Rel.le ?_ _ _ g5
        exact ⟨h1, (fun _ hi => by simp [RE.bare] at hi), (fun _ hi => by simp [RE.bare] at hi), h3 hf, fun b _ _ => by simp [RE.bare, h2], fun b c t fr hh => ⟨c, t, fr, by simpa [RE.bare, h2] using hh, rfl⟩, fun b _ es cl hh => by simpa [RE.bare, h2] using hh⟩
      · exact Rel.free (by simp [RE.bare, h1]) _ _ (hf _ (by omega)) g5
inductive CvL (S : St) (nm : List Nat) (fr : Bool) : List AV → List AV → Prop
  | nil : CvL S nm fr [] []
  | cons {x y : AV} {l m : List AV} (h : CvX S nm fr x y) (t : CvL S nm fr l m) : CvL S nm fr (x :: l) (y :: m)
theorem CvL.cv {S : St} {nm : List Nat} {fr : Bool} {l m : List AV} (h : CvL S nm fr l m) : Cv S nm fr (.tup l) (.tup m) := by
  intro E E' v h1 h2 h3 h4 h5 hv
  simp only [RelV] at *
  obtain ⟨vs, rfl, hv⟩ := hv
  refine ⟨vs, rfl, ?_⟩
  generalize vs.toList = us at hv
  induction h generalizing us with
  | nil => simpa only [RelT] using hv
  | cons hx _ ih =>
    simp only [RelT] at *
    obtain ⟨c, d, rfl, e1, e2⟩ := hv
    exact ⟨c, d, rfl, hx.cv E E' c h1 h2 h3 h4 h5 e1, ih d e2⟩
/-- The end of a function that takes and leaves no own block. -/
theorem aend1 {C : Ctx} {S : St} {fn : Func} {fr : Bool} {r0 r : AV} (h : ResL C S fn.results.toList [r0]) (hc : CvX S [] fr r0 r) {Q : AV → List (Nat × Option AV) → List Nat → Prop} (hq : Q r [] []) : AEnd C fn [] fr Q S :=
  ⟨r0, r, [], res_one h, hq, fun _ => rfl, fun _ h => h, fun i x h => by simp [getH] at h, hc.cv⟩
theorem aend {C : Ctx} {S : St} {fn : Func} {fr : Bool} {l m : List AV} (h : ResL C S fn.results.toList l) (hn : l.length ≠ 1) (hc : CvL S [] fr l m) {Q : AV → List (Nat × Option AV) → List Nat → Prop} (hq : Q (.tup m) [] []) :
    AEnd C fn [] fr Q S :=
  ⟨.tup l, .tup m, [], res_many h hn, hq, fun _ => rfl, fun _ h => h, fun i x h => by simp [getH] at h, hc.cv⟩
end Go.Fy
/- The engine, 9: calls (my own text; any program). -/
set_option linter.unusedSimpArgs false
namespace Go.Fy
open Go.RowKit
/-- A function with a body, which a call enters. -/
def Ent (P : Program) (g : FuncId) : Prop := ∃ fn, P.funcs[g]? = some fn ∧ (fn.name == "runtime.NumGoroutine") = false ∧ fn.body.isNone = false
theorem callFunc_run {P : Program} {g : FuncId} (h : Ent P g) (args : Array Value) (w : World) : (callFunc g args).run P w = .ok (.enter g args) w := by
  obtain ⟨fn, h1, h2, h3⟩ := h
  simp only [callFunc, Sem.run_bind, run_program, Result.andThen, h1, h2, h3, Bool.false_eq_true, if_false, Sem.run_pure]
/-- The value of a slot, seen by a callee that can write the blocks 'H' (named there r i here) and no others. -/
def AView (η : Nat → Option AV) (nm : List Nat) (r : Nat → Nat) (fr : Bool) (a a' : AV) : Prop :=
  ∀ (E E' : RE) (v : Value), E'.V = E.V → E'.w = E.w → (∀ b, E.G b → E'.G b) → (∀ i, i ∈ nm → i ∈ E'.nm ∧ E'.σ i = E.σ (r i)) →
    (fr = true → ∀ i y, η i = some y → (∀ j, j ∈ nm → r j ≠ i) → E'.G (E.σ i) ∧ Blk E (E.σ i) y) → RelV E a v → RelV E' a' v
theorem aview_noN {η : Nat → Option AV} {nm : List Nat} {r : Nat → Nat} {fr : Bool} {a : AV} (h : a.noN = true) : AView η nm r fr a a := by
  intro E E' v h1 h2 h3 _ _ hv
  -- as1 at a function's end: nothing of it hangs on names
  have := cv_noN (S := ⟨[], [], []⟩) (nm := []) h E E' v h1 h2 (fun _ => h3) (fun i hi => by cases hi) (fun _ i y hi => by simp [getH] at hi) hv
  exact this
/-- An own row, read by a callee. -/
theorem aview_osl {η : Nat → Option AV} {nm : List Nat} {r : Nat → Nat} {i z of n c m : Nat} {f : Nat → AV} (hi : η i = some (.arr z m f)) (hno : ∀ j, j ∈ nm → r j ≠ i) (hle : of + n ≤ m) (g : Nat → AV)
    (hg : ∀ j, j < n → g j = f (of + j)) : AView η nm r true (.osl i z of n c) (.sl z false n g) := by
  intro E E' v h1 h2 h3 _ h5 hv
  obtain ⟨hG, hB⟩ := h5 rfl i _ hi hno
  -- as1 at a function's end
  have := (CvX.row (S := ⟨[], [(i, some (.arr z m f))], []⟩) (nm := []) (fr := false) (c := c) rfl (by simp [getH]) hle (.inl rfl) g hg).cv E E' v h1 h2 (fun _ => h3) (fun i hi => by cases hi)
    (fun _ j y hj => by
      simp only [getH] at hj
      by_cases e : i = j
      · subst e; simp at hj; subst hj; exact ⟨hG, hB⟩
      · rw [show Nat.beq i j = false from Bool.eq_false_iff.2 fun h => e (Nat.eq_of_beq_eq_true h)] at hj; simp at hj) hv
  exact this
inductive AViews (η : Nat → Option AV) (nm : List Nat) (r : Nat → Nat) (fr : Bool) : List AV → List AV → Prop
  | nil : AViews η nm r fr [] []
  | cons {x y : AV} {l m : List AV} (h : AView η nm r fr x y) (t : AViews η nm r fr l m) : AViews η nm r fr (x :: l) (y :: m)
theorem AViews.refl {η : Nat → Option AV} {nm : List Nat} {r : Nat → Nat} {fr : Bool} : ∀ (l : List AV), AV.noNL l = true → AViews η nm r fr l l
  | [], _ => .nil
  | x :: l, h => by
    simp only [AV.noNL, Bool.and_eq_true] at h
    exact .cons (aview_noN h.1) (AViews.refl l h.2)
theorem AViews.rel {η : Nat → Option AV} {nm : List Nat} {r : Nat → Nat} {fr : Bool} {E E' : RE} (h1 : E'.V = E.V) (h2 : E'.w = E.w) (h3 : ∀ b, E.G b → E'.G b) (h4 : ∀ i, i ∈ nm → i ∈ E'.nm ∧ E'.σ i = E.σ (r i))
    (h5 : fr = true → ∀ i y, η i = some y → (∀ j, j ∈ nm → r j ≠ i) → E'.G (E.σ i) ∧ Blk E (E.σ i) y) {l m : List AV} (h : AViews η nm r fr l m) : ∀ vs, RelT E l vs → RelT E' m vs := by
  induction h with
  | nil => intro vs hv; simpa only [RelT] using hv
  | cons hx _ ih =>
    intro vs hv
    simp only [RelT] at *
    obtain ⟨c, d, rfl, e1, e2⟩ := hv
    exact ⟨c, d, rfl, hx E E' c h1 h2 h3 h4 h5 e1, ih d e2⟩
theorem relT_map {E : RE} (ρ : Operand → AV) (ε : Operand → Value) : ∀ (l : List Operand), (∀ x ∈ l, RelV E (ρ x) (ε x)) → RelT E (l.map ρ) (l.map ε)
  | [], _ => by simp only [List.map_nil, RelT]
  | x :: l, h => by
    simp only [List.map_cons, RelT]
    exact ⟨_, _, rfl, h x (by simp), relT_map ρ ε l fun y hy => h y (by simp [hy])⟩
theorem relT_caps {E : RE} : ∀ (l : List AV) (vs : List Value), RelC E l vs → (∀ x ∈ l, x.one = true) → RelT E l vs
  | [], vs, h, _ => by simp only [RelC] at h; simp only [RelT]; exact h
  | x :: l, vs, h, ho => by
    simp only [RelC] at h
    obtain ⟨c, d, e1, e2, e3⟩ := h
    simp only [RelT]
    exact ⟨c, d, e1, e2.toV (ho x (by simp)), relT_caps l d e3 fun y hy => ho y (by simp [hy])⟩
theorem relT_append {E : RE} : ∀ (l m : List AV) (us vs : List Value), RelT E l us → RelT E m vs → RelT E (l ++ m) (us ++ vs)
  | [], m, us, vs, h, k => by simp only [RelT] at h; subst h; exact k
  | x :: l, m, us, vs, h, k => by
    simp only [RelT] at h
    obtain ⟨c, d, rfl, e2, e3⟩ := h
    simp only [List.cons_append, RelT]
    exact ⟨c, _, rfl, e2, relT_append l m d vs e3 k⟩
section
variable {C : Ctx} {o : Oper} {ρ : Operand → AV} {η : Nat → Option AV}
theorem call_run {fo : Operand} {as1 : Array Operand} {ts : Array TypeId} (ho : o.op = .call { callee := .value fo, args := as1, argTypes := ts }) {ε : Operand → Value} {g : FuncId} {cv : Array Value}
    (hf : ε fo = .func (.func g) #[] cv) {P : Program} (he : Ent P g) (w : World) : (execOp ε o).run P w = .ok (.enter g (as1.map ε ++ cv)) w := by
  simp only [execOp, ho, resolve, hf, Deferred.ofValue, Sem.run_bind, Sem.run_pure, Result.andThen, invoke, Array.empty_append, callFunc_run he]
/-- A call of a function that takes no own block. -/
theorem opr_call {fo : Operand} {as1 : Array Operand} {ts : Array TypeId} {g : FuncId} {caps : List AV} {args : List AV} {fr : Bool} {r : AV}
    (ho : o.op = .call { callee := .value fo, args := as1, argTypes := ts }) (hf : ρ fo = .fn g caps) (he : Ent C.V.P g) (hcap : (caps.all AV.one) = true)
    (h : APure C.V g args fr r) (hv : AViews η [] (fun i => i) fr (as1.toList.map ρ ++ caps) args) :
    OpR C o ρ η ⟨r, [], []⟩ := by
  intro hd S hρ hη hn a w ⟨σ, hc⟩
  have h1 : ∀ x, x ∈ o.op.operands → RelV (C.RE S w σ) (ρ x) (a.eval x) := fun x hx => hρ x hx _ _ rfl (ev_rel hc x)
  have hfo := h1 fo (by simp [ho, Op.operands, Call.operands])
  rw [hf] at hfo
  simp only [RelV, Rel, List.cons.injEq, and_true] at hfo
  obtain ⟨cv, hfo, hcv⟩ := hfo
  unfold Oper.wp
  rw [call_run ho hfo he, Oper.upon_enter]
  have hargs : RelT (C.RE S w σ) (as1.toList.map ρ ++ caps) (as1.map a.eval ++ cv).toList := by
    rw [Array.toList_append, Array.toList_map]
    refine relT_append _ _ _ _ (relT_map ρ a.eval as1.toList fun x hx => h1 x ?_) (relT_caps _ _ hcv fun x hx => List.all_eq_true.1 hcap x hx)
    have : x ∈ as1 := by simpa using hx
    simp [ho, Op.operands, Call.operands, this]
  -- what the callee may lean on
  let Gall : Nat → Prop := fun b => C.G S.H w σ b ∨ (fr = true ∧ ∃ i y, getH S.H i = some y ∧ σ i = b)
  have hsub : ∀ x, C.G S.H w σ x → x < w.heap.size := fun x hx => by
    rcases hx with hx | ⟨-, hx, -⟩
    · have := hc.ok.lt x hx; have := hc.kept.size; omega
    · exact hx
  have hle : (⟨C.V, w, σ, [], C.G S.H w σ⟩ : RE).bare.le (C.RE S w σ).bare := ⟨rfl, (fun _ hi => by simp [RE.bare] at hi), (fun _ hi => by simp [RE.bare] at hi), fun _ h => h, fun _ _ _ _ h => h, fun _ c t f h => ⟨c, t, f, h, rfl⟩, fun _ _ _ _ h => h⟩
  have henv : EnvOK ⟨C.V, w, σ, [], C.G S.H w σ⟩ := ⟨hc.env.glob, hc.env.sent, hc.env.inj, hc.env.cold⟩
  have hcall := h w σ (C.G S.H w σ) Gall (as1.map a.eval ++ cv)
    (fun x hx => by
      rcases hx with hx | ⟨-, i, y, hi, rfl⟩
      · exact hsub x hx
      · exact (hc.blk i y hi).2.2.2.lt)
    (fun x hx => .inl hx) (fun hf x hx => hx.elim id fun h' => by have := h'.1; rw [hf] at this; cases this) henv (fun i j x y hi => by simp [getH] at hi) (fun i x hi => by simp [getH] at hi)
    (AViews.rel (E := C.RE S w σ) (E' := ⟨C.V, w, σ, [], Gall⟩) rfl rfl (fun b hb => .inl hb) (fun i hi => by cases hi) (fun hf i y hi _ => ⟨.inr ⟨hf, i, y, hη i y hi, rfl⟩, (hc.blk i y (hη i y hi)).2.2.2⟩) hv _ hargs)
  refine hcall.mono fun e w' ⟨v, r', H', nm', σ', he, ⟨hr, hH', hnm'⟩, hst, _, _, _, hrel⟩ => ?_
  subst he; subst hH'; subst hnm'; replace hrel := hr _ _ hrel
  have hbl : Below w.heap.size w w' := ⟨hst.os, hst.tape, hst.output, hst.le, fun b hb => hst.block b hb (fun i x hi => by simp [getH] at hi)⟩
  have hc' := hc.world hbl
  refine ⟨σ, hc'.put o.dst _ v hd ?_⟩
  -- the result's names: none
  have hGG : ∀ b, GAfter (C.G S.H w σ) w w' [] σ' b → C.G S.H w' σ b := fun b hb => by
    rcases hb with (hb | ⟨h2, h3, h4⟩) | ⟨h2, h3, -⟩
    · exact .inl hb
    · exact .inr ⟨h2, by have := hst.le; omega, h4⟩
    · refine .inr ⟨by have := hc.kept.size; omega, h3, fun i x hi e => ?_⟩
      have h5 : σ i < w.heap.size := (hc.blk i x hi).2.2.2.lt
      omega
  refine RelV.le ?_ _ _ hrel
  exact ⟨rfl, (fun _ hi => by cases hi), (fun _ hi => by cases hi), hGG, fun _ _ _ _ h => h, fun _ c t f h => ⟨c, t, f, h, rfl⟩, fun _ _ _ _ h => h⟩
end
end Go.Fy
/- The engine, 10: steps in the form in which a program prints them (my own text; any program). -/
set_option linter.unusedSimpArgs false
namespace Go.Fy
open Go.RowKit
theorem awp_cond {C : Ctx} {c : Operand} {x y : Code} {Q : Exit → St → Prop} {S : St} (b : Bool) (hc : ev C.V S.F c = .bool b) (ht : b = true → AWP C x Q S) (hf : b = false → AWP C y Q S) : AWP C (.cond c x y) Q S := by
  intro a w ⟨σ, h⟩
  have h1 := ev_rel h c
  rw [hc] at h1
  simp only [RelV] at h1
  cases b with
  | true => exact wp_cond_true h1 (ht rfl a w ⟨σ, h⟩)
  | false => exact wp_cond_false h1 (hf rfl a w ⟨σ, h⟩)
section
variable {C : Ctx} {ops : Array Oper} {o : Oper} {r : List Oper} {K : St → Prop} {F : List (Nat × AV)} {H : List (Nat × Option AV)} {nm : List Nat}
theorem sP {d : Nat} {v : AV} (h : OpP C.V o (ev C.V F) (getH H) v) (hd : o.dst = some d) (hg : o.guard = none) (k : AL C ops r K ⟨(d, v) :: F, H, nm⟩) : AL C ops (o :: r) K ⟨F, H, nm⟩ :=
  aopP v hg h (by simp only [St.upd, hd]; exact k)
theorem sR {d : Nat} {v : AV} {Hd : List (Nat × Option AV)} {nd : List Nat} (h : OpR C o (ev C.V F) (getH H) ⟨v, Hd, nd⟩) (hd : o.dst = some d) (hg : o.guard = none)
    (hn : (nd.all fun n => !nm.contains n) = true) (k : AL C ops r K ⟨(d, v) :: F, Hd ++ H, nd ++ nm⟩) : AL C ops (o :: r) K ⟨F, H, nm⟩ :=
  aop ⟨v, Hd, nd⟩ hg h (fun n hn' => by have := List.all_eq_true.1 hn n hn'; simpa using this) (by simp only [St.upd, hd]; exact k)
theorem sR0 {v : AV} {Hd : List (Nat × Option AV)} {nd : List Nat} (h : OpR C o (ev C.V F) (getH H) ⟨v, Hd, nd⟩) (hd : o.dst = none) (hg : o.guard = none)
    (hn : (nd.all fun n => !nm.contains n) = true) (k : AL C ops r K ⟨F, Hd ++ H, nd ++ nm⟩) : AL C ops (o :: r) K ⟨F, H, nm⟩ :=
  aop ⟨v, Hd, nd⟩ hg h (fun n hn' => by have := List.all_eq_true.1 hn n hn'; simpa using this) (by simp only [St.upd, hd]; exact k)
/-- Its guards hold. -/
def AV.gsP : AV → Prop
  | .gd g x => g = true ∧ x.gsP
  | _ => True
theorem gsP_gs : ∀ x : AV, x.gsP → x.gs = true
  | .gd g x, h => by simp only [AV.gsP] at h; simp [AV.gs, h.1, gsP_gs x h.2]
  | .top, _ | .bool _, _ | .int _ _, _ | .str _, _ | .val _, _ | .err _, _ | .sl _ _ _ _, _ | .fptr _, _ | .ptr _ _ _, _ | .osl _ _ _ _ _, _ | .agg _, _ | .arr _ _ _, _ | .tup _, _ | .fn _ _, _ | .mp _ _, _ => rfl
def gsL (V : Env) (F : List (Nat × AV)) : List Operand → Prop
  | [] => True
  | x :: l => (ev V F x).gsP ∧ gsL V F l
theorem gsL_all {V : Env} {F : List (Nat × AV)} : ∀ l, gsL V F l → (l.all fun x => (ev V F x).gs) = true
  | [], _ => rfl
  | x :: l, h => by simp only [gsL] at h; simp [gsP_gs _ h.1, gsL_all l h.2]
theorem sG {d : Nat} {v : AV} {j e : Nat} {want : Bool} (c : Bool) (hg : o.guard = some (j, want)) (hj : (ops[j]?).bind (·.dst) = some e) (hgd : (getF F e).guard want = some c) (hd : o.dst = some d)
    (hs : c = true → gsL C.V F o.op.operands.toList) (h : c = true → OpP C.V o (fun x => (ev C.V F x).un) (getH H) v) (k : AL C ops r K ⟨(d, .gd c v) :: F, H, nm⟩) : AL C ops (o :: r) K ⟨F, H, nm⟩ :=
  aopG v c hg hj hgd (fun hc => gsL_all _ (hs hc)) h (by simp only [St.upd, hd]; exact k)
/-- A guarded operation of which a contract speaks. -/
theorem sGR {d : Nat} {v : AV} {j e : Nat} {want : Bool} (c : Bool) (hg : o.guard = some (j, want)) (hj : (ops[j]?).bind (·.dst) = some e) (hgd : (getF F e).guard want = some c) (hd : o.dst = some d)
    (hs : c = true → gsL C.V F o.op.operands.toList) (h : c = true → OpR C o (fun x => (ev C.V F x).un) (getH H) ⟨v, [], []⟩) (k : AL C ops r K ⟨(d, .gd c v) :: F, H, nm⟩) : AL C ops (o :: r) K ⟨F, H, nm⟩ := by
  intro hdl a w ⟨σ, hc⟩
  rw [wanted_spec hc hg hj hgd]
  have hk : AL C ops r K (St.upd ⟨F, H, nm⟩ o.dst ⟨.gd c v, [], []⟩) := by simp only [St.upd, hd]; exact k
  cases c with
  | false =>
    rw [if_neg (by simp)]
    exact ⟨_, ⟨σ, hc.put o.dst (.gd false v) undef hdl (by simp [RelV])⟩, hk⟩
  | true =>
    rw [if_pos rfl]
    have h1 := (h rfl) hdl ⟨F, H, nm⟩ (fun x hx => Sub.un _ (by have := List.all_eq_true.1 (gsL_all _ (hs rfl)) x (by simpa using hx); exact this)) (fun _ _ h => h) (fun n h => by cases h) a w ⟨σ, hc⟩
    refine Oper.wp_mono (fun a' w' h' => ⟨_, ?_, hk⟩) h1
    obtain ⟨σ', hc'⟩ := h'
    rw [hd] at hc' ⊢
    refine ⟨σ', ⟨hc'.ok, hc'.defers, hc'.size, hc'.kept, hc'.σ0, hc'.inj, hc'.blk, hc'.env, fun t => ?_⟩⟩
    have := hc'.slot t
    simp only [St.upd] at this ⊢
    rw [getF_cons] at this ⊢
    split
    · rename_i e'; rw [if_pos e'] at this; simp only [RelV]; exact ⟨fun _ => this, fun h => by cases h⟩
    · rename_i e'; rw [if_neg e'] at this; exact this
theorem gsP_un {E : RE} {x : AV} {v : Value} (h : x.gsP) (hv : RelV E x v) : RelV E x.un v := Sub.un (V := E.V) x (gsP_gs x h) E v rfl hv
theorem pick_run {a : Act} {w : World} {σ : Nat → Nat} {S : St} (hc : ConcS C S a w σ) {c x y : Operand} (ho : o.op = .pick c x y) {t p q : Bool} (hct : (ev C.V S.F c).un = .bool t) (hcg : (ev C.V S.F c).gsP)
    (hx : (ev C.V S.F x).un = .bool p) (hy : (ev C.V S.F y).un = .bool q) (hgx : t = true → (ev C.V S.F x).gsP) (hgy : t = false → (ev C.V S.F y).gsP) :
    (execOp a.eval o).run C.V.P w = .ok (.value (.bool (cond t p q))) w := by
  have h1 := gsP_un hcg (ev_rel hc c)
  rw [hct] at h1; simp only [RelV] at h1
  cases t with
  | true =>
    have h2 := gsP_un (hgx rfl) (ev_rel hc x)
    rw [hx] at h2; simp only [RelV] at h2
    simp only [execOp, ho, h1, h2]; rfl
  | false =>
    have h2 := gsP_un (hgy rfl) (ev_rel hc y)
    rw [hy] at h2; simp only [RelV] at h2
    simp only [execOp, ho, h1, h2]; rfl
theorem sPick {d : Nat} {c x y : Operand} (ho : o.op = .pick c x y) (hd : o.dst = some d) (hg : o.guard = none) {t p q : Bool} (hct : (ev C.V F c).un = .bool t) (hcg : (ev C.V F c).gsP)
    (hx : (ev C.V F x).un = .bool p) (hy : (ev C.V F y).un = .bool q) (hgx : t = true → (ev C.V F x).gsP) (hgy : t = false → (ev C.V F y).gsP)
    (k : AL C ops r K ⟨(d, .bool (cond t p q)) :: F, H, nm⟩) : AL C ops (o :: r) K ⟨F, H, nm⟩ := by
  intro hdl a w ⟨σ, hc⟩
  rw [if_pos (by simp [Region.wanted, hg])]
  unfold Oper.wp
  rw [pick_run hc ho hct hcg hx hy hgx hgy]
  have := hc.put o.dst (.bool (cond t p q)) (.bool (cond t p q)) hdl (by simp [RelV])
  refine ⟨_, ⟨σ, this⟩, ?_⟩
  simp only [St.upd, hd]; exact k
end
theorem ev_glob {V : Env} {F : List (Nat × AV)} {g : Nat} {x : AV} (h : V.glob g = some x) : ev V F (.global g) = .fptr x := by simp only [ev, h]
theorem athen_ret {K : St → Prop} {Q : Exit → St → Prop} {S : St} (h : Q .ret S) : AThen K Q .ret S := h
theorem ain_ret {id : Nat} {Q : Exit → St → Prop} {S : St} (h : Q .ret S) : AIn id Q .ret S := h
def ErrD.isNil : ErrD → Bool
  | .nil => true
  | _ => false
/-- err == nil, err != nil: the literal nil on the right. -/
theorem opp_errNil {V : Env} {o : Oper} {ρ : Operand → AV} {η : Nat → Option AV} {op : BinOp} {t u : TypeId} {x : Operand} {e : ErrD} {r : Bool} (ho : o.op = .binOp op t x (.const .nilIface) u) (hx : ρ x = .err e) (hy : ρ (.const .nilIface) = .err .nil) (hu : V.P.underlying t = some (.interface (V.P.methodsAt t))) (hop : (op = .eql ∧ r = e.isNil) ∨ (op = .neq ∧ r = !e.isNil)) :
    OpP V o ρ η (.bool r) :=
  opp_val fun E ε hV _ h _ => by
    have h1 := h x (by simp [ho, Op.operands])
    have h2 := h (.const .nilIface) (by simp [ho, Op.operands])
    rw [hx] at h1; rw [hy] at h2
    simp only [RelV, ErrRel] at h1 h2
    refine ⟨.bool r, ?_, by simp [RelV]⟩
    cases e with
    | nil =>
      simp only [ErrRel] at h1
      have hg : (eqGuard op t x (.const .nilIface) .nilIface .nilIface).run V.P E.w = .ok () E.w := by
        rcases hop with ⟨rfl, rfl⟩ | ⟨rfl, rfl⟩ <;> simp [eqGuard]
      simp only [execOp, ho, h1, h2, Sem.run_bind, hg, Result.andThen]
      rcases hop with ⟨rfl, rfl⟩ | ⟨rfl, rfl⟩
      · simp only [run_eql_nil_nil E.w t hu, Sem.run_pure, ErrD.isNil]
      · simp only [run_neq_nil_nil E.w t hu, Sem.run_pure, ErrD.isNil, Bool.not_true]
    | code c =>
      simp only [ErrRel] at h1
      have hg : ∀ (q : TypeId) (y : Value), (eqGuard op t x (.const .nilIface) (.iface q y) .nilIface).run V.P E.w = .ok () E.w := fun q y => by
        rcases hop with ⟨rfl, rfl⟩ | ⟨rfl, rfl⟩ <;> rfl
      simp only [execOp, ho, h1, h2, Sem.run_bind, hg, Result.andThen]
      rcases hop with ⟨rfl, rfl⟩ | ⟨rfl, rfl⟩
      · simp only [run_eql_held_nil E.w t _ _ hu, Sem.run_pure, ErrD.isNil]
      · simp only [run_neq_held_nil E.w t _ _ hu, Sem.run_pure, ErrD.isNil, Bool.not_false]
    | «at» p e =>
      simp only [ErrRel] at h1
      obtain ⟨b, o', u', h1, -⟩ := h1
      have hg : ∀ (q : TypeId) (y : Value), (eqGuard op t x (.const .nilIface) (.iface q y) .nilIface).run V.P E.w = .ok () E.w := fun q y => by
        rcases hop with ⟨rfl, rfl⟩ | ⟨rfl, rfl⟩ <;> rfl
      simp only [execOp, ho, h1, h2, Sem.run_bind, hg, Result.andThen]
      rcases hop with ⟨rfl, rfl⟩ | ⟨rfl, rfl⟩
      · simp only [run_eql_held_nil E.w t _ _ hu, Sem.run_pure, ErrD.isNil]
      · simp only [run_neq_held_nil E.w t _ _ hu, Sem.run_pure, ErrD.isNil, Bool.not_false]
end Go.Fy
/- The engine, 11: regions that draw their order: one walk in the order of the text serves every order (my own text; any program). -/
set_option linter.unusedSimpArgs false
namespace Go.Fy
open Go.RowKit
/-- Two states that say the same. -/
structure St.Eqv (S S' : St) : Prop where
  F : ∀ t, getF S.F t = getF S'.F t
  H : ∀ n, getH S.H n = getH S'.H n
  nm : ∀ n, n ∈ S.nm ↔ n ∈ S'.nm
theorem St.Eqv.refl (S : St) : S.Eqv S := ⟨fun _ => rfl, fun _ => rfl, fun _ => Iff.rfl⟩
theorem St.Eqv.symm {S S' : St} (h : S.Eqv S') : S'.Eqv S := ⟨fun t => (h.F t).symm, fun n => (h.H n).symm, fun n => (h.nm n).symm⟩
theorem St.Eqv.trans {A B D : St} (h : A.Eqv B) (k : B.Eqv D) : A.Eqv D := ⟨fun t => (h.F t).trans (k.F t), fun n => (h.H n).trans (k.H n), fun n => (h.nm n).trans (k.nm n)⟩
theorem Conc.eqv {C : Ctx} {S S' : St} {a : Act} {w : World} (h : S.Eqv S') (hc : Conc C S a w) : Conc C S' a w := by
  obtain ⟨σ, hc⟩ := hc
  have hG : ∀ b, C.G S.H w σ b ↔ C.G S'.H w σ b := fun b => by
    constructor
    · rintro (hb | ⟨h1, h2, h3⟩)
      · exact .inl hb
      · exact .inr ⟨h1, h2, fun i x hi => h3 i x ((h.H i).trans hi)⟩
    · rintro (hb | ⟨h1, h2, h3⟩)
      · exact .inl hb
      · exact .inr ⟨h1, h2, fun i x hi => h3 i x ((h.H i).symm.trans hi)⟩
  have hle : (C.RE S w σ).le (C.RE S' w σ) := ⟨rfl, fun _ _ => rfl, fun i hi => (h.nm i).1 hi, fun b hb => (hG b).1 hb, fun _ _ _ _ h => h, fun _ c t fr hh => ⟨c, t, fr, hh, rfl⟩, fun _ _ _ _ h => h⟩
  refine ⟨σ, hc.ok, hc.defers, hc.size, hc.kept, fun i hi => ⟨(hc.σ0 i hi).1, (h.nm i).1 (hc.σ0 i hi).2⟩, fun i j x y hi hj => hc.inj i j x y ((h.H i).trans hi) ((h.H j).trans hj), fun i x hi => ?_, hc.env.le hle, fun t => ?_⟩
  · obtain ⟨h1, h2, h3, h4⟩ := hc.blk i x ((h.H i).trans hi)
    exact ⟨(h.nm i).1 h1, h2, h3, h4.le hle rfl⟩
  · rw [← h.F t]; exact RelV.le hle _ _ (hc.slot t)
/-- What an operation of such a region does, and which own blocks it looks at or writes. -/
structure Dt where
  v : AV
  Hd : List (Nat × Option AV)
  nd : List Nat
  t : Nat → Bool
def Dt.u (D : Dt) : Upd := ⟨D.v, D.Hd, D.nd⟩
/-- In every state that agrees on what the operation looks at. -/
def Valid (C : Ctx) (ops : Array Oper) (o : Oper) (S : St) (D : Dt) : Prop :=
  ∀ S2 : St, (∀ t, t ∈ o.looksAt ops → getF S2.F t = getF S.F t) → (∀ n, D.t n = true → getH S2.H n = getH S.H n) → (∀ n, n ∈ D.nd → n ∉ S2.nm) → (∀ d, o.dst = some d → d < C.N) →
    ∀ a w, Conc C S2 a w → if Region.wanted o (yielded ops a.tmps) then o.wp C.V.P a w (fun a' w' => Conc C (S2.upd o.dst D.u) a' w') (fun _ _ _ => False) else Conc C (S2.upd o.dst D.u) (a.put o.dst undef) w
theorem getH_append (A B : List (Nat × Option AV)) (n : Nat) : getH (A ++ B) n = if A.any (fun p => p.1 == n) then getH A n else getH B n := by
  induction A with
  | nil => simp
  | cons p A ih =>
    obtain ⟨d, v⟩ := p
    rw [List.cons_append, getH_cons, ih]
    by_cases e : d = n
    · simp [e, getH_cons]
    · simp only [List.any_cons, getH_cons, if_neg e]
      have : (d == n) = false := by simpa using e
      rw [this, Bool.false_or]
theorem upd_F (S : St) (dst : Option Tmp) (D : Dt) (t : Nat) : getF (S.upd dst D.u).F t = if dst = some t then D.v else getF S.F t := by
  cases dst with
  | none => simp [St.upd]
  | some d =>
    simp only [St.upd, Dt.u, getF_cons, Option.some.injEq]
theorem upd_H (S : St) (dst : Option Tmp) (D : Dt) (n : Nat) : getH (S.upd dst D.u).H n = if D.Hd.any (fun p => p.1 == n) then getH D.Hd n else getH S.H n := by
  simp only [St.upd, Dt.u, getH_append]
theorem upd_nm (S : St) (dst : Option Tmp) (D : Dt) (n : Nat) : n ∈ (S.upd dst D.u).nm ↔ n ∈ D.nd ∨ n ∈ S.nm := by
  simp only [St.upd, Dt.u, List.mem_append]
/-- Two operations that may change places. -/
structure Indep (ops : Array Oper) (oi oj : Oper) (Di Dj : Dt) : Prop where
  lij : ∀ d, oi.dst = some d → d ∉ oj.looksAt ops
  lji : ∀ d, oj.dst = some d → d ∉ oi.looksAt ops
  dd : ∀ d, oi.dst = some d → oj.dst ≠ some d
  hij : ∀ n, Di.Hd.any (fun p => p.1 == n) = true → Dj.t n = false ∧ Dj.Hd.any (fun p => p.1 == n) = false
  hji : ∀ n, Dj.Hd.any (fun p => p.1 == n) = true → Di.t n = false ∧ Di.Hd.any (fun p => p.1 == n) = false
  nn : ∀ n, n ∈ Di.nd → n ∉ Dj.nd
/-- What must hold of a state for an operation to do what its datum says. -/
structure Loc (ops : Array Oper) (o : Oper) (S : St) (D : Dt) (S2 : St) : Prop where
  F : ∀ t, t ∈ o.looksAt ops → getF S2.F t = getF S.F t
  H : ∀ n, D.t n = true → getH S2.H n = getH S.H n
  nm : ∀ n, n ∈ D.nd → n ∉ S2.nm
theorem Loc.eqv {ops : Array Oper} {o : Oper} {S : St} {D : Dt} {A B : St} (h : Loc ops o S D A) (e : A.Eqv B) : Loc ops o S D B :=
  ⟨fun t ht => (e.F t).symm.trans (h.F t ht), fun n hn => (e.H n).symm.trans (h.H n hn), fun n hn hm => h.nm n hn ((e.nm n).2 hm)⟩
theorem loc_after {ops : Array Oper} {oi oj : Oper} {Di Dj : Dt} {Sj : St} (hi : Indep ops oi oj Di Dj) {S : St} : Loc ops oj Sj Dj (S.upd oi.dst Di.u) ↔ (Loc ops oj Sj Dj S) := by
  constructor
  · intro h
    refine ⟨fun t ht => ?_, fun n hn => ?_, fun n hn hm => h.nm n hn ((upd_nm S oi.dst Di n).2 (.inr hm))⟩
    · have := h.F t ht
      rw [upd_F] at this
      rw [if_neg (fun e => hi.lij t e ht)] at this; exact this
    · have := h.H n hn
      rw [upd_H] at this
      rw [if_neg (fun e => by have := (hi.hij n e).1; rw [hn] at this; cases this)] at this; exact this
  · intro h
    refine ⟨fun t ht => ?_, fun n hn => ?_, fun n hn hm => ?_⟩
    · rw [upd_F, if_neg (fun e => hi.lij t e ht)]; exact h.F t ht
    · rw [upd_H, if_neg (fun e => by have := (hi.hij n e).1; rw [hn] at this; cases this)]; exact h.H n hn
    · rcases (upd_nm S oi.dst Di n).1 hm with h1 | h1
      · exact hi.nn n h1 hn
      · exact h.nm n hn h1
theorem upd_comm {ops : Array Oper} {oi oj : Oper} {Di Dj : Dt} (hi : Indep ops oi oj Di Dj) (S : St) : ((S.upd oi.dst Di.u).upd oj.dst Dj.u).Eqv ((S.upd oj.dst Dj.u).upd oi.dst Di.u) := by
  refine ⟨fun t => ?_, fun n => ?_, fun n => ?_⟩
  · simp only [upd_F]
    by_cases h1 : oi.dst = some t
    · rw [if_pos h1, if_neg (hi.dd t h1), if_pos h1]
    · by_cases h2 : oj.dst = some t
      · rw [if_pos h2, if_neg h1, if_pos h2]
      · rw [if_neg h2, if_neg h1, if_neg h1, if_neg h2]
  · simp only [upd_H]
    by_cases h1 : Di.Hd.any (fun p => p.1 == n) = true
    · rw [if_pos h1, (hi.hij n h1).2, if_neg (by simp), if_pos h1]
    · by_cases h2 : Dj.Hd.any (fun p => p.1 == n) = true
      · rw [if_pos h2, if_neg h1, if_pos h2]
      · rw [if_neg h2, if_neg h1, if_neg h1, if_neg h2]
  · simp only [upd_nm]
    constructor <;> (rintro (h | h | h) <;> simp [h])
theorem upd_eqv {A B : St} (h : A.Eqv B) (dst : Option Tmp) (D : Dt) : (A.upd dst D.u).Eqv (B.upd dst D.u) :=
  ⟨fun t => by simp only [upd_F, h.F], fun n => by simp only [upd_H, h.H], fun n => by simp only [upd_nm, h.nm]⟩
section
variable {C : Ctx} {ops : Array Oper}
/-- Whatever order is picked from here on. -/
def AnyD (C : Ctx) (ops : Array Oper) (dt : Nat → Dt) (Sd : Nat → St) (Q : St → Prop) : Nat → Array Bool → St → Prop
  | 0, listed, S => Region.ready .any ops listed = [] ∧ Q S
  | fuel + 1, listed, S => (Region.ready .any ops listed = [] → Q S) ∧
      ∀ i ∈ Region.ready .any ops listed, ∀ o, ops[i]? = some o → Loc ops o (Sd i) (dt i) S ∧ AnyD C ops dt Sd Q fuel (listed.setIfInBounds i true) (S.upd o.dst (dt i).u)
theorem AnyD.eqv {dt : Nat → Dt} {Sd : Nat → St} {Q : St → Prop} (hQ : ∀ A B, St.Eqv A B → Q A → Q B) : ∀ (fuel : Nat) (listed : Array Bool) (A B : St), A.Eqv B → AnyD C ops dt Sd Q fuel listed A → AnyD C ops dt Sd Q fuel listed B
  | 0, _, A, B, e, h => ⟨h.1, hQ A B e h.2⟩
  | fuel + 1, listed, A, B, e, h => ⟨fun h0 => hQ A B e (h.1 h0), fun i hi o ho => by
      obtain ⟨h1, h2⟩ := h.2 i hi o ho
      exact ⟨h1.eqv e, AnyD.eqv hQ fuel _ _ _ (upd_eqv e o.dst (dt i)) h2⟩⟩
theorem anyD_wp {dt : Nat → Dt} {Sd : Nat → St} {Q : Exit → St → Prop} (hd : ∀ (i : Nat) (o : Oper), ops[i]? = some o → ∀ d, o.dst = some d → d < C.N) (hv : ∀ (i : Nat) (o : Oper), ops[i]? = some o → Valid C ops o (Sd i) (dt i)) :
    ∀ (fuel : Nat) (listed : Array Bool) (S : St), AnyD C ops dt Sd (Q .normal) fuel listed S → ∀ a w, Conc C S a w → wpAny C.V.P .any ops (fun e a' w' => ∃ S', Conc C S' a' w' ∧ Q e S') fuel listed a w
  | 0, _, S, h, a, w, hc => ⟨h.1, S, hc, h.2⟩
  | fuel + 1, listed, S, h, a, w, hc => ⟨fun h0 => ⟨S, hc, h.1 h0⟩, fun i hi => by
      unfold wpOp
      cases ho : ops[i]? with
      | none => obtain ⟨_, o, h2, _⟩ := mem_ready.1 hi; rw [ho] at h2; cases h2
      | some o =>
        obtain ⟨h1, h2⟩ := h.2 i hi o ho
        have h3 := hv i o ho S h1.F h1.H h1.nm (hd i o ho) a w hc
        dsimp only
        split
        · rename_i hw
          rw [if_pos hw] at h3
          exact .inl (Oper.wp_nopanic _ (Oper.wp_mono (fun a' w' h4 => anyD_wp hd hv fuel _ _ h2 a' w' h4) h3))
        · rename_i hw
          rw [if_neg hw] at h3
          exact anyD_wp hd hv fuel _ _ h2 _ _ h3⟩
theorem anyD_first {dt : Nat → Dt} {Sd : Nat → St} {Q : St → Prop} (hQ : ∀ A B, St.Eqv A B → Q A → Q B) {i : Nat} {oi : Oper} (hi : ops[i]? = some oi) :
    ∀ (fuel : Nat) (listed : Array Bool) (S : St), (∀ j oj, ops[j]? = some oj → j ≠ i → listed.getD j true = false → (∀ e ∈ oj.after, Region.binds .any e = true → e.on ≠ i) → Indep ops oi oj (dt i) (dt j) ∧ Indep ops oj oi (dt j) (dt i)) →
      i ∈ Region.ready .any ops listed → Loc ops oi (Sd i) (dt i) S → AnyD C ops dt Sd Q fuel (listed.setIfInBounds i true) (S.upd oi.dst (dt i).u) → AnyD C ops dt Sd Q (fuel + 1) listed S := by
  intro fuel
  induction fuel with
  | zero =>
    intro listed S _ hr hl H
    refine ⟨fun h => (by rw [h] at hr; cases hr), fun j hj o ho => ?_⟩
    by_cases hji : j = i
    · subst hji; rw [hi] at ho; cases ho; exact ⟨hl, H⟩
    · have := ready_mono hj hji
      rw [H.1] at this; cases this
  | succ fuel ih =>
    intro listed S hfree hr hl H
    refine ⟨fun h => (by rw [h] at hr; cases hr), fun j hj oj hoj => ?_⟩
    by_cases hji : j = i
    · subst hji; rw [hi] at hoj; cases hoj; exact ⟨hl, H⟩
    · obtain ⟨h1, h2⟩ := H.2 j (ready_mono hj hji) oj hoj
      obtain ⟨hjun, oj', hoj', hall⟩ := mem_ready.1 hj
      rw [hoj] at hoj'; cases hoj'
      have hnot : ∀ e ∈ oj.after, Region.binds .any e = true → e.on ≠ i := fun e he hb heq => by
        have h1 := hall e he hb
        have h0 := (mem_ready.1 hr).1
        rw [heq] at h1
        rcases Nat.lt_or_ge i listed.size with h' | h'
        · simp [h'] at h0 h1; rw [h0] at h1; cases h1
        · simp [Array.getElem?_eq_none h'] at h1
      obtain ⟨hind, hind'⟩ := hfree j oj hoj hji hjun hnot
      refine ⟨(loc_after hind).1 h1, ?_⟩
      refine ih (listed.setIfInBounds j true) _ ?_ (ready_mono hr (Ne.symm hji)) ((loc_after hind').2 hl) ?_
      · intro k ok hk hki hun hno
        refine hfree k ok hk hki ?_ hno
        by_cases hjk : j = k
        · subst hjk; exact hjun
        · rw [getD_set_ne true hjk] at hun; exact hun
      · rw [Array.setIfInBounds_comm _ _ hji]
        exact AnyD.eqv hQ fuel _ _ _ (upd_comm hind S) h2
/-- The run in the order of the text. -/
def AD (C : Ctx) (ops : Array Oper) : List Oper → List Dt → (List Dt → St → Prop) → St → Prop
  | [], acc, K, S => K acc.reverse S
  | o :: r, acc, K, S => ∃ D : Dt, Valid C ops o S D ∧ (∀ n, n ∈ D.nd → n ∉ S.nm) ∧ AD C ops r (D :: acc) K (S.upd o.dst D.u)
def namesB (Hd : List (Nat × Option AV)) (t : Nat → Bool) (Hd' : List (Nat × Option AV)) : Bool := Hd.all fun p => !t p.1 && !(Hd'.any fun q => q.1 == p.1)
def indepB (ops : Array Oper) (oi oj : Oper) (Di Dj : Dt) : Bool :=
  oi.apart ops oj && namesB Di.Hd Dj.t Dj.Hd && namesB Dj.Hd Di.t Di.Hd && Di.nd.all (fun n => !Dj.nd.contains n)
def waitsB (o : Oper) (i : Nat) : Bool := o.after.any fun e => Region.binds .any e && e.on == i
/-- Each operation against those behind it. -/
def pairsB (ops : Array Oper) : Nat → List (Oper × Dt) → Bool
  | _, [] => true
  | k, (o, D) :: r => (r.all fun q => waitsB q.1 k || indepB ops o q.1 D q.2) && pairsB ops (k + 1) r
theorem indepB_spec {oi oj : Oper} {Di Dj : Dt} (h : indepB ops oi oj Di Dj = true) : Indep ops oi oj Di Dj ∧ Indep ops oj oi Dj Di := by
  simp only [indepB, Bool.and_eq_true] at h
  obtain ⟨⟨⟨h1, h2⟩, h3⟩, h4⟩ := h
  obtain ⟨a1, a2, a3⟩ := Oper.apart_spec h1
  have key : ∀ (A : List (Nat × Option AV)) (t : Nat → Bool) (B : List (Nat × Option AV)), namesB A t B = true → ∀ n, A.any (fun p => p.1 == n) = true → t n = false ∧ B.any (fun p => p.1 == n) = false := by
    intro A t B hA n hn
    obtain ⟨p, hp, he⟩ := List.any_eq_true.1 hn
    have := List.all_eq_true.1 hA p hp
    simp only [Bool.and_eq_true, Bool.not_eq_true'] at this
    have e : p.1 = n := by simpa using he
    rw [← e]; exact this
  have hnn : ∀ n, n ∈ Di.nd → n ∉ Dj.nd := fun n hn => by
    have := List.all_eq_true.1 h4 n hn; simpa using this
  exact ⟨⟨a1, a3, a2, key _ _ _ h2, key _ _ _ h3, hnn⟩, ⟨a3, a1, fun d hd hd' => a2 d hd' hd, key _ _ _ h3, key _ _ _ h2, fun n hn hn' => hnn n hn' hn⟩⟩
theorem Oper.wp_post {P : Program} {o : Oper} {a : Act} {w : World} {K : Act → World → Prop} {Q Q' : Exit → Act → World → Prop} (hq : ∀ e a w, Q e a w → Q' e a w) (h : o.wp P a w K Q) : o.wp P a w K Q' := by
  unfold Oper.wp at *
  generalize (execOp a.eval o).run P w = r at *
  cases r with
  | ok n w' =>
    cases n <;> simp only [Oper.upon] at h ⊢ <;> first
      | exact h
      | exact Calls.mono h (fun e w'' he => by cases e <;> first | exact he | exact hq _ _ _ he | (obtain ⟨a0, w0, k⟩ := he; exact ⟨a0, w0, hq _ _ _ k⟩))
  | halt x w' => cases x <;> simp only [Oper.upon] at h ⊢ <;> first | exact hq _ _ _ h | exact h
theorem wpAny_any {dt : Nat → Dt} {Sd : Nat → St} {Q : St → Prop} (hQ : ∀ A B, St.Eqv A B → Q A → Q B) :
    ∀ (l : List Oper) (ds : List Dt) (k : Nat) (listed : Array Bool) (S : St), l.length = ds.length → (∀ j, l[j]? = ops[k + j]?) → (∀ j D, ds[j]? = some D → dt (k + j) = D) →
      Region.lexFrom .any ops l.length k listed = true → pairsB ops k (l.zip ds) = true → (∀ j oj, ops[j]? = some oj → listed.getD j true = false → k ≤ j) →
      (∃ Sf, Q Sf ∧ ∀ (run : List (Oper × Dt)), run = l.zip ds → ∃ St' : St, St'.Eqv Sf ∧ St' = run.foldl (fun S p => S.upd p.1.dst p.2.u) S) →
      (∀ j oj, l[j]? = some oj → Loc ops oj (Sd (k + j)) (dt (k + j)) (((l.zip ds).take j).foldl (fun S p => S.upd p.1.dst p.2.u) S)) →
      AnyD C ops dt Sd Q l.length listed S
  | [], ds, k, listed, S, hlen, hl, hdt, hB, hP, hun, ⟨Sf, hq, hrun⟩, _ => by
    obtain ⟨St', e, he⟩ := hrun [] (by cases ds <;> simp at hlen ⊢)
    simp only [List.foldl_nil] at he
    subst he
    exact ⟨by simpa [Region.lexFrom] using hB, hQ _ _ e.symm hq⟩
  | o :: l, [], k, listed, S, hlen, _, _, _, _, _, _, _ => by simp at hlen
  | o :: l, D :: ds, k, listed, S, hlen, hl, hdt, hB, hP, hun, ⟨Sf, hq, hrun⟩, hloc => by
    have h0 : ops[k]? = some o := by simpa using (hl 0).symm
    have hD : dt k = D := by simpa using hdt 0 D rfl
    simp only [List.length_cons, Region.lexFrom, Bool.and_eq_true] at hB
    obtain ⟨⟨hr, hf⟩, hB'⟩ := hB
    have hr' : k ∈ Region.ready .any ops listed := by simpa using hr
    simp only [List.zip_cons_cons, pairsB, Bool.and_eq_true] at hP
    refine anyD_first hQ h0 l.length listed S ?_ hr' ?_ ?_
    · intro j oj hoj hjk hjun hno
      have hle := hun j oj hoj hjun
      obtain ⟨m, rfl⟩ : ∃ m, j = k + 1 + m := ⟨j - (k + 1), by omega⟩
      have hm : l[m]? = some oj := by
        have := hl (m + 1)
        rw [show k + (m + 1) = k + 1 + m by omega, hoj] at this
        simpa using this
      have hml : m < ds.length := by
        have := (List.getElem?_eq_some_iff.1 hm).1
        simp at hlen; omega
      have hdm : dt (k + 1 + m) = ds[m] := by
        have := hdt (m + 1) ds[m] (by simp [hml])
        rw [show k + (m + 1) = k + 1 + m by omega] at this; exact this
      have hz : (oj, ds[m]) ∈ l.zip ds := by
        rw [List.mem_iff_getElem?]
        exact ⟨m, by rw [List.getElem?_zip_eq_some]; exact ⟨hm, by simp [hml]⟩⟩
      have hpair := List.all_eq_true.1 hP.1 _ hz
      rw [hD, hdm]
      simp only [Bool.or_eq_true] at hpair
      rcases hpair with hw | hi
      · exfalso
        unfold waitsB at hw
        rw [← Array.any_toList] at hw
        obtain ⟨e, he, hb⟩ := List.any_eq_true.1 hw
        simp only [Bool.and_eq_true] at hb
        exact hno e (by simpa using he) hb.1 (by simpa using hb.2)
      · exact indepB_spec hi
    · have := hloc 0 o rfl
      simpa using this
    · rw [hD]
      refine wpAny_any hQ l ds (k + 1) _ _ (by simpa using hlen) (fun j => by have := hl (j + 1); simpa [Nat.add_assoc, Nat.add_comm 1 j] using this)
        (fun j D' hj => by have := hdt (j + 1) D' (by simpa using hj); rwa [show k + (j + 1) = k + 1 + j by omega] at this) hB' hP.2 ?_ ⟨Sf, hq, fun run hrun' => ?_⟩ (fun j oj hj => ?_)
      · intro j oj hoj hjun
        by_cases e : k = j
        · subst e
          have hmem := (mem_ready.1 hr').1
          rcases Nat.lt_or_ge k listed.size with h' | h'
          · rw [show (listed.setIfInBounds k true).getD k true = true from by simp [Array.getD, h']] at hjun; cases hjun
          · have hk := (Array.getElem?_eq_none h' : listed[k]? = none)
            simp [Array.getD, Nat.not_lt.2 h'] at hmem
        · rw [getD_set_ne true e] at hjun
          have := hun j oj hoj hjun
          omega
      · obtain ⟨St', h1, h2⟩ := hrun ((o, D) :: run) (by rw [hrun', List.zip_cons_cons])
        exact ⟨St', h1, by rw [h2, List.foldl_cons]⟩
      · have := hloc (j + 1) oj (by simpa using hj)
        rw [show k + (j + 1) = k + 1 + j by omega] at this
        simpa using this
theorem ad_data : ∀ (l : List Oper) (acc : List Dt) (K : List Dt → St → Prop) (S : St), AD C ops l acc K S →
    ∃ ds : List Dt, ds.length = l.length ∧ K (acc.reverse ++ ds) ((l.zip ds).foldl (fun S p => S.upd p.1.dst p.2.u) S) ∧
      ∀ j o, l[j]? = some o → ∃ D, ds[j]? = some D ∧ Valid C ops o (((l.zip ds).take j).foldl (fun S p => S.upd p.1.dst p.2.u) S) D ∧ ∀ n, n ∈ D.nd → n ∉ (((l.zip ds).take j).foldl (fun S p => S.upd p.1.dst p.2.u) S).nm
  | [], acc, K, S, h => ⟨[], rfl, by simpa [AD] using h, fun j o hj => by simp at hj⟩
  | o :: l, acc, K, S, ⟨D, hv, hn, h⟩ => by
    obtain ⟨ds, h1, h2, h3⟩ := ad_data l (D :: acc) K _ h
    refine ⟨D :: ds, by simp [h1], by simpa using h2, fun j o' hj => ?_⟩
    cases j with
    | zero => simp at hj; subst hj; exact ⟨D, rfl, by simpa using hv, by simpa using hn⟩
    | succ j =>
      obtain ⟨D', h4, h5, h6⟩ := h3 j o' (by simpa using hj)
      exact ⟨D', by simpa using h4, by simpa using h5, by simpa using h6⟩
/-- A region that draws its order. -/
theorem awp_draw {Q : Exit → St → Prop} {S : St} {id : Nat} {l : List Oper} (hm : C.V.P.follows .mixedOrders = true) (hd : (l.all fun o => o.dst.all (· < C.N)) = true) (hB : Region.lexB .any l.toArray = true)
    (h : AD C l.toArray l [] (fun ds S' => pairsB l.toArray 0 (l.zip ds) = true ∧ Q .normal S') S) : AWP C (.region id l.toArray true) Q S := by
  intro a w ⟨σ, hc⟩
  obtain ⟨ds, h1, ⟨hp, hq⟩, h3⟩ := ad_data l [] _ S h
  simp only [List.reverse_nil, List.nil_append] at hp hq
  simp only [Region.lexB, Bool.and_eq_true] at hB
  have hc' : Conc C S a { w with drawn := w.drawn + 1 } := ⟨σ, hc.world ((Below.refl _ w).drew)⟩
  refine wp_region_any hm ?_
  let run : Nat → St := fun j => ((l.zip ds).take j).foldl (fun S p => S.upd p.1.dst p.2.u) S
  let dt : Nat → Dt := fun j => (ds[j]?).getD ⟨.top, [], [], fun _ => false⟩
  have hdst : ∀ (i : Nat) (o : Oper), l.toArray[i]? = some o → ∀ d, o.dst = some d → d < C.N := fun i o ho d he => by
    have := List.all_eq_true.1 hd o (List.mem_of_getElem? (by simpa using ho))
    simpa [he] using this
  have hval : ∀ (i : Nat) (o : Oper), l.toArray[i]? = some o → Valid C l.toArray o (run i) (dt i) := fun i o ho => by
    obtain ⟨D, h4, h5, -⟩ := h3 i o (by simpa using ho)
    have : dt i = D := by simp [dt, h4]
    rw [this]; exact h5
  have hany : AnyD C l.toArray dt run (fun S' => ∃ S'', S'.Eqv S'' ∧ Q .normal S'') l.length (Array.replicate l.length false) S := by
    refine wpAny_any (Q := fun S' => ∃ S'', S'.Eqv S'' ∧ Q .normal S'') (fun A B e ⟨S'', e1, e2⟩ => ⟨S'', e.symm.trans e1, e2⟩) l ds 0 _ S h1.symm (fun j => by simp) (fun j D hj => by simp [dt, hj])
      (by simpa using hB.2) hp (fun j oj _ _ => Nat.zero_le j) ⟨_, ⟨_, St.Eqv.refl _, hq⟩, fun r hr => ⟨_, St.Eqv.refl _, by rw [hr]⟩⟩ (fun j oj hj => ?_)
    obtain ⟨D, h4, -, h6⟩ := h3 j oj hj
    rw [Nat.zero_add]
    have : dt j = D := by simp [dt, h4]
    rw [this]
    exact ⟨fun _ _ => rfl, fun _ _ => rfl, h6⟩
  have hw := anyD_wp (Q := fun e S' => ∃ S'', S'.Eqv S'' ∧ Q e S'') hdst hval l.length _ S hany a _ hc'
  have hfin : ∀ (e : Exit) (a' : Act) (w' : World), (∃ S', Conc C S' a' w' ∧ ∃ S'', S'.Eqv S'' ∧ Q e S'') → ∃ S', Conc C S' a' w' ∧ Q e S' := fun e a' w' ⟨S', k1, S'', k2, k3⟩ => ⟨S'', Conc.eqv k2 k1, k3⟩
  have hmono : ∀ (fuel : Nat) (listed : Array Bool) (a : Act) (w : World), wpAny C.V.P .any l.toArray (fun e a' w' => ∃ S', Conc C S' a' w' ∧ ∃ S'', S'.Eqv S'' ∧ Q e S'') fuel listed a w →
      wpAny C.V.P .any l.toArray (fun e a' w' => ∃ S', Conc C S' a' w' ∧ Q e S') fuel listed a w := by
    intro fuel
    induction fuel with
    | zero => intro listed a w hh; exact ⟨hh.1, hfin _ _ _ hh.2⟩
    | succ fuel ih =>
      intro listed a w hh
      refine ⟨fun h0 => hfin _ _ _ (hh.1 h0), fun i hi => ?_⟩
      have := hh.2 i hi
      unfold wpOp at this ⊢
      cases ho : l.toArray[i]? with
      | none => rw [ho] at this; exact ih _ _ _ this
      | some o =>
        rw [ho] at this
        dsimp only at this ⊢
        split
        · rename_i hw'
          rw [if_pos hw'] at this
          rcases this with h4 | ⟨hx0, a0, w0, hx1⟩
          · left
            refine Oper.wp_post (fun e a' w' hh => hfin e a' w' hh) (Oper.wp_mono (fun a' w' hh => ih _ _ _ hh) h4)
          · right
            exact ⟨hx0, a0, w0, hfin _ _ _ hx1⟩
        · rename_i hw'
          rw [if_neg hw'] at this
          exact ih _ _ _ this
  simpa using hmono _ _ _ _ hw
end
section
variable {C : Ctx} {ops : Array Oper} {o : Oper} {r : List Oper} {acc : List Dt} {K : List Dt → St → Prop} {F : List (Nat × AV)} {H : List (Nat × Option AV)} {nm : List Nat}
def onlyT (t : Nat → Bool) (H : List (Nat × Option AV)) (n : Nat) : Option AV := bif t n then getH H n else none
theorem mem_looks {ops : Array Oper} {o : Oper} {t : Tmp} (h : Operand.tmp t ∈ o.op.operands) : t ∈ o.looksAt ops := by
  unfold Oper.looksAt
  refine List.mem_append.2 (.inl (List.mem_filterMap.2 ⟨.tmp t, by simpa using h, rfl⟩))
theorem ev_looks {V : Env} {F F2 : List (Nat × AV)} {ops : Array Oper} {o : Oper} (h : ∀ t, t ∈ o.looksAt ops → getF F2 t = getF F t) {x : Operand} (hx : x ∈ o.op.operands) : ev V F2 x = ev V F x := by
  cases x with
  | tmp t => exact h t (mem_looks hx)
  | _ => rfl
theorem valid_r {v : AV} {Hd : List (Nat × Option AV)} {nd : List Nat} (t : Nat → Bool) (h : OpR C o (ev C.V F) (onlyT t H) ⟨v, Hd, nd⟩) (hg : o.guard = none) : Valid C ops o ⟨F, H, nm⟩ ⟨v, Hd, nd, t⟩ := by
  intro S2 hF hH hn hd a w hc
  rw [if_pos (by simp [Region.wanted, hg])]
  exact h hd S2 (fun x hx => by rw [ev_looks hF hx]; exact Sub.refl _ _) (fun i y hy => by
    unfold onlyT at hy
    cases ht : t i with
    | true => rw [ht] at hy; rw [hH i ht]; exact hy
    | false => rw [ht] at hy; cases hy) hn a w hc
theorem dR {d : Nat} {v : AV} {Hd : List (Nat × Option AV)} {nd : List Nat} (t : Nat → Bool) (h : OpR C o (ev C.V F) (onlyT t H) ⟨v, Hd, nd⟩) (hd : o.dst = some d) (hg : o.guard = none) (hn : (nd.all fun n => !nm.contains n) = true)
    (k : AD C ops r (⟨v, Hd, nd, t⟩ :: acc) K ⟨(d, v) :: F, Hd ++ H, nd ++ nm⟩) : AD C ops (o :: r) acc K ⟨F, H, nm⟩ :=
  ⟨⟨v, Hd, nd, t⟩, valid_r t h hg, fun n hn' => by have := List.all_eq_true.1 hn n hn'; simpa using this, by simp only [St.upd, Dt.u, hd]; exact k⟩
theorem dR0 {v : AV} {Hd : List (Nat × Option AV)} {nd : List Nat} (t : Nat → Bool) (h : OpR C o (ev C.V F) (onlyT t H) ⟨v, Hd, nd⟩) (hd : o.dst = none) (hg : o.guard = none) (hn : (nd.all fun n => !nm.contains n) = true)
    (k : AD C ops r (⟨v, Hd, nd, t⟩ :: acc) K ⟨F, Hd ++ H, nd ++ nm⟩) : AD C ops (o :: r) acc K ⟨F, H, nm⟩ :=
  ⟨⟨v, Hd, nd, t⟩, valid_r t h hg, fun n hn' => by have := List.all_eq_true.1 hn n hn'; simpa using this, by simp only [St.upd, Dt.u, hd]; exact k⟩
theorem dP {d : Nat} {v : AV} (t : Nat → Bool) (h : OpP C.V o (ev C.V F) (onlyT t H) v) (hd : o.dst = some d) (hg : o.guard = none) (k : AD C ops r (⟨v, [], [], t⟩ :: acc) K ⟨(d, v) :: F, H, nm⟩) : AD C ops (o :: r) acc K ⟨F, H, nm⟩ :=
  dR t h.r hd hg rfl k
theorem guard_looks {ops : Array Oper} {o : Oper} {j e : Nat} {want : Bool} (hg : o.guard = some (j, want)) (hj : (ops[j]?).bind (·.dst) = some e) : e ∈ o.looksAt ops := by
  unfold Oper.looksAt
  refine List.mem_append.2 (.inr ?_)
  rw [hg]; simp [hj]
theorem valid_g {v : AV} {j e : Nat} {want : Bool} (c : Bool) (t : Nat → Bool) (hg : o.guard = some (j, want)) (hj : (ops[j]?).bind (·.dst) = some e) (hgd : (getF F e).guard want = some c) {d : Nat} (hd : o.dst = some d)
    (hs : c = true → gsL C.V F o.op.operands.toList) (h : c = true → OpR C o (fun x => (ev C.V F x).un) (onlyT t H) ⟨v, [], []⟩) : Valid C ops o ⟨F, H, nm⟩ ⟨.gd c v, [], [], t⟩ := by
  intro S2 hF hH hn hdl a w ⟨σ, hc⟩
  have hgd2 : (getF S2.F e).guard want = some c := by rw [hF e (guard_looks hg hj)]; exact hgd
  rw [wanted_spec hc hg hj hgd2]
  cases c with
  | false =>
    rw [if_neg (by simp)]
    exact ⟨σ, hc.put o.dst (.gd false v) undef hdl (by simp [RelV])⟩
  | true =>
    rw [if_pos rfl]
    have h1 := (h rfl) hdl S2 (fun x hx => by
        rw [ev_looks hF hx]
        exact Sub.un _ (by have := List.all_eq_true.1 (gsL_all _ (hs rfl)) x (by simpa using hx); exact this)) (fun i y hy => by
      unfold onlyT at hy
      cases ht : t i with
      | true => rw [ht] at hy; rw [hH i ht]; exact hy
      | false => rw [ht] at hy; cases hy) (fun n h => by cases h) a w ⟨σ, hc⟩
    refine Oper.wp_mono (fun a' w' h' => ?_) h1
    obtain ⟨σ', hc'⟩ := h'
    rw [hd] at hc' ⊢
    refine ⟨σ', ⟨hc'.ok, hc'.defers, hc'.size, hc'.kept, hc'.σ0, hc'.inj, hc'.blk, hc'.env, fun t => ?_⟩⟩
    have := hc'.slot t
    simp only [St.upd, Dt.u] at this ⊢
    rw [getF_cons] at this ⊢
    split
    · rename_i e'; rw [if_pos e'] at this; simp only [RelV]; exact ⟨fun _ => this, fun h => by cases h⟩
    · rename_i e'; rw [if_neg e'] at this; exact this
theorem dG {d : Nat} {v : AV} {j e : Nat} {want : Bool} (c : Bool) (t : Nat → Bool) (hg : o.guard = some (j, want)) (hj : (ops[j]?).bind (·.dst) = some e) (hgd : (getF F e).guard want = some c) (hd : o.dst = some d)
    (hs : c = true → gsL C.V F o.op.operands.toList) (h : c = true → OpP C.V o (fun x => (ev C.V F x).un) (onlyT t H) v) (k : AD C ops r (⟨.gd c v, [], [], t⟩ :: acc) K ⟨(d, .gd c v) :: F, H, nm⟩) : AD C ops (o :: r) acc K ⟨F, H, nm⟩ :=
  ⟨⟨.gd c v, [], [], t⟩, valid_g c t hg hj hgd hd hs (fun hc => (h hc).r), (fun n hn' => by cases hn'), by simp only [St.upd, Dt.u, hd]; exact k⟩
theorem dGR {d : Nat} {v : AV} {j e : Nat} {want : Bool} (c : Bool) (t : Nat → Bool) (hg : o.guard = some (j, want)) (hj : (ops[j]?).bind (·.dst) = some e) (hgd : (getF F e).guard want = some c) (hd : o.dst = some d)
    (hs : c = true → gsL C.V F o.op.operands.toList) (h : c = true → OpR C o (fun x => (ev C.V F x).un) (onlyT t H) ⟨v, [], []⟩) (k : AD C ops r (⟨.gd c v, [], [], t⟩ :: acc) K ⟨(d, .gd c v) :: F, H, nm⟩) : AD C ops (o :: r) acc K ⟨F, H, nm⟩ :=
  ⟨⟨.gd c v, [], [], t⟩, valid_g c t hg hj hgd hd hs h, (fun n hn' => by cases hn'), by simp only [St.upd, Dt.u, hd]; exact k⟩
theorem dPick {d : Nat} {c x y : Operand} (t : Nat → Bool) (ho : o.op = .pick c x y) (hd : o.dst = some d) (hg : o.guard = none) {b p q : Bool} (hct : (ev C.V F c).un = .bool b) (hcg : (ev C.V F c).gsP)
    (hx : (ev C.V F x).un = .bool p) (hy : (ev C.V F y).un = .bool q) (hgx : b = true → (ev C.V F x).gsP) (hgy : b = false → (ev C.V F y).gsP)
    (k : AD C ops r (⟨.bool (cond b p q), [], [], t⟩ :: acc) K ⟨(d, .bool (cond b p q)) :: F, H, nm⟩) : AD C ops (o :: r) acc K ⟨F, H, nm⟩ := by
  refine ⟨⟨.bool (cond b p q), [], [], t⟩, ?_, (fun n hn' => by cases hn'), by simp only [St.upd, Dt.u, hd]; exact k⟩
  intro S2 hF hH hn hdl a w ⟨σ, hc⟩
  rw [if_pos (by simp [Region.wanted, hg])]
  have e : ∀ z, z ∈ o.op.operands → ev C.V S2.F z = ev C.V F z := fun z hz => ev_looks hF hz
  have e1 := e c (by simp [ho, Op.operands]); have e2 := e x (by simp [ho, Op.operands]); have e3 := e y (by simp [ho, Op.operands])
  unfold Oper.wp
  rw [pick_run hc ho (by rw [e1]; exact hct) (by rw [e1]; exact hcg) (by rw [e2]; exact hx) (by rw [e3]; exact hy) (by rw [e2]; exact hgx) (by rw [e3]; exact hgy)]
  exact ⟨σ, hc.put o.dst (.bool (cond b p q)) (.bool (cond b p q)) hdl (by simp [RelV])⟩
end
end Go.Fy
/- The engine, 12: states that say less: names turned, slots and blocks let go, rows frozen; loops (my own text; any program). -/
set_option linter.unusedSimpArgs false
namespace Go.Fy
open Go.RowKit
mutual
/-- All names in it are of these. -/
def AV.inB (nm : List Nat) : AV → Bool
  | .ptr i _ _ => nm.contains i
  | .osl i _ _ _ _ => nm.contains i
  | .agg l => AV.inBL nm l
  | .tup l => AV.inBL nm l
  | .fn _ l => AV.inBL nm l
  | .gd _ x => x.inB nm
  | _ => true
def AV.inBL (nm : List Nat) : List AV → Bool
  | [] => true
  | x :: l => x.inB nm && AV.inBL nm l
end
/-- The same memory; names of the second stand for names of the first. -/
structure RE.back (r : Nat → Nat) (E E' : RE) : Prop where
  V : E'.V = E.V
  w : E'.w = E.w
  G : ∀ b, E.G b → E'.G b
  σ : ∀ i, i ∈ E'.nm → E'.σ i = E.σ (r i)
theorem RE.back.bare {r : Nat → Nat} {E E' : RE} (h : RE.back r E E') : E.bare.le E'.bare :=
  ⟨h.V, (fun _ hi => by simp [RE.bare] at hi), (fun _ hi => by simp [RE.bare] at hi), h.G, fun b _ _ => by simp [RE.bare, h.w], fun b c t fr hb => ⟨c, t, fr, by simpa [RE.bare, h.w] using hb, rfl⟩, fun b _ es cl hb => by simpa [RE.bare, h.w] using hb⟩
mutual
theorem Rel.back {r : Nat → Nat} {E E' : RE} (h : RE.back r E E') : ∀ (x : AV) (cs : List Value), x.inB E'.nm = true → Rel E (x.ren r) cs → Rel E' x cs
  | .bool _, _, _, hv => by simp only [AV.ren, Rel] at *; exact hv
  | .int _ _, _, _, hv => by simp only [AV.ren, Rel] at *; exact hv
  | .str _, _, _, hv => by simp only [AV.ren, Rel] at *; exact hv
  | .val _, _, _, hv => by simp only [AV.ren, Rel] at *; exact hv
  | .top, _, _, hv => by simp only [AV.ren, Rel] at *; exact hv
  | .tup _, _, _, hv => by simp only [AV.ren, Rel] at hv
  | .gd _ _, _, _, hv => by simp only [AV.ren, Rel] at hv
  | .mp _ _, _, _, hv => by simp only [AV.ren, Rel] at hv
  | .err e, cs, _, hv => by
    simp only [AV.ren, Rel] at *
    obtain ⟨v, h1, h2⟩ := hv
    exact ⟨v, h1, (ErrRel.bare e v).2 (((ErrRel.bare e v).1 h2).le h.bare)⟩
  | .sl esz nn n f, cs, _, hv => by
    simp only [AV.ren, Rel] at *
    obtain ⟨a, cap, h1, h2, h3, h4, h5⟩ := hv
    refine ⟨a, cap, h1, h2, h3, h4, fun b hb => ?_⟩
    obtain ⟨h6, h7, h8⟩ := h5 b hb
    refine ⟨h6, fun hn => h.G _ (h7 hn), fun j hj => ?_⟩
    obtain ⟨ds, h9, h10, h11⟩ := h8 j hj
    exact ⟨ds, h9, by rw [h.w]; exact h10, Rel.le h.bare (f j) ds h11⟩
  | .fptr x, cs, _, hv => by
    simp only [AV.ren, Rel] at *
    obtain ⟨b, h1, h2, h3, ds, h4, h5⟩ := hv
    exact ⟨b, h1, h2, h.G _ h3, ds, by rw [h.w]; exact h4, Rel.le h.bare x ds h5⟩
  | .ptr i p off, cs, hn, hv => by
    simp only [AV.ren, Rel] at *
    simp only [AV.inB, List.contains_eq_mem, decide_eq_true_eq] at hn
    exact ⟨hn, by rw [h.σ i hn]; exact hv.2⟩
  | .osl i esz off len cap, cs, hn, hv => by
    simp only [AV.ren, Rel] at *
    simp only [AV.inB, List.contains_eq_mem, decide_eq_true_eq] at hn
    obtain ⟨h1, h2, o, cap', h3, hcc, h4, c, t, fr, h5, h6⟩ := hv
    exact ⟨hn, h2, o, cap', by rw [h.σ i hn]; exact h3, hcc, h4, c, t, fr, by rw [h.σ i hn, h.w]; exact h5, h6⟩
  | .agg l, cs, hn, hv => by simp only [AV.ren, Rel, AV.inB] at *; exact RelL.back h l cs hn hv
  | .arr esz n f, cs, _, hv => by
    simp only [AV.ren, Rel] at *
    exact ⟨hv.1, fun j hj => ⟨Rel.le h.bare (f j) _ (hv.2 j hj).1, (hv.2 j hj).2⟩⟩
  | .fn f caps, cs, hn, hv => by
    simp only [AV.ren, Rel, AV.inB] at *
    obtain ⟨vs, h1, h2⟩ := hv
    exact ⟨vs, h1, RelC.back h caps _ hn h2⟩
theorem RelL.back {r : Nat → Nat} {E E' : RE} (h : RE.back r E E') : ∀ (l : List AV) (cs : List Value), AV.inBL E'.nm l = true → RelL E (AV.renL r l) cs → RelL E' l cs
  | [], cs, _, hv => by simp only [AV.renL, RelL] at *; exact hv
  | x :: l, cs, hn, hv => by
    simp only [AV.renL, RelL, AV.inBL, Bool.and_eq_true] at *
    obtain ⟨c, d, h1, h2, h3⟩ := hv
    exact ⟨c, d, h1, Rel.back h x c hn.1 h2, RelL.back h l d hn.2 h3⟩
theorem RelC.back {r : Nat → Nat} {E E' : RE} (h : RE.back r E E') : ∀ (l : List AV) (cs : List Value), AV.inBL E'.nm l = true → RelC E (AV.renL r l) cs → RelC E' l cs
  | [], cs, _, hv => by simp only [AV.renL, RelC] at *; exact hv
  | x :: l, cs, hn, hv => by
    simp only [AV.renL, RelC, AV.inBL, Bool.and_eq_true] at *
    obtain ⟨c, d, h1, h2, h3⟩ := hv
    exact ⟨c, d, h1, Rel.back h x [c] hn.1 h2, RelC.back h l d hn.2 h3⟩
end
mutual
theorem RelV.back {r : Nat → Nat} {E E' : RE} (h : RE.back r E E') : ∀ (x : AV) (v : Value), x.inB E'.nm = true → RelV E (x.ren r) v → RelV E' x v
  | .top, _, _, _ => by simp only [RelV]
  | .gd g x, v, hn, hv => by simp only [AV.ren, RelV, AV.inB] at *; exact ⟨fun hg => RelV.back h x v hn (hv.1 hg), hv.2⟩
  | .tup l, v, hn, hv => by simp only [AV.ren, RelV, AV.inB] at *; obtain ⟨vs, h1, h2⟩ := hv; exact ⟨vs, h1, RelT.back h l _ hn h2⟩
  | .agg l, v, hn, hv => by simp only [AV.ren, RelV, AV.inB] at *; obtain ⟨cs, h1, h2⟩ := hv; exact ⟨cs, h1, RelL.back h l _ hn h2⟩
  | .arr e n f, v, hn, hv => by
    have := Rel.back h (.arr e n f)
    simp only [AV.ren] at this
    simp only [AV.ren, RelV] at *; obtain ⟨cs, h1, h2⟩ := hv; exact ⟨cs, h1, this _ hn h2⟩
  | .bool b, v, _, hv => by simp only [AV.ren, RelV] at *; exact hv
  | .int _ _, v, _, hv => by simp only [AV.ren, RelV] at *; exact hv
  | .str s, v, _, hv => by simp only [AV.ren, RelV, Rel] at *; exact hv
  | .val s, v, _, hv => by simp only [AV.ren, RelV, Rel] at *; exact hv
  | .err e, v, _, hv => by simp only [AV.ren, RelV] at *; exact (ErrRel.bare e v).2 (((ErrRel.bare e v).1 hv).le h.bare)
  | .sl a b c d, v, hn, hv => by have := Rel.back h (.sl a b c d) [v] hn; simp only [AV.ren, RelV] at *; exact this hv
  | .fptr x, v, hn, hv => by have := Rel.back h (.fptr x) [v] hn; simp only [AV.ren, RelV] at *; exact this hv
  | .ptr a b c, v, hn, hv => by have := Rel.back h (.ptr a b c) [v] hn; simp only [AV.ren, RelV] at *; exact this hv
  | .osl a b c d e, v, hn, hv => by have := Rel.back h (.osl a b c d e) [v] hn; simp only [AV.ren, RelV] at *; exact this hv
  | .fn a b, v, hn, hv => by have := Rel.back h (.fn a b) [v] hn; simp only [AV.ren, RelV] at *; exact this hv
  | .mp _ _, v, _, hv => by simp only [AV.ren, RelV] at *; obtain ⟨D, es, cl, h1, h2, h3, h4, h5⟩ := hv; exact ⟨D, es, cl, h1, h2, h.G _ h3, by rw [h.w]; exact h4, h5⟩
theorem RelT.back {r : Nat → Nat} {E E' : RE} (h : RE.back r E E') : ∀ (l : List AV) (vs : List Value), AV.inBL E'.nm l = true → RelT E (AV.renL r l) vs → RelT E' l vs
  | [], _, _, hv => by simp only [AV.renL, RelT] at *; exact hv
  | x :: l, vs, hn, hv => by
    simp only [AV.renL, RelT, AV.inBL, Bool.and_eq_true] at *
    obtain ⟨c, d, h1, h2, h3⟩ := hv
    exact ⟨c, d, h1, RelV.back h x c hn.1 h2, RelT.back h l d hn.2 h3⟩
end
/-- The general step down. -/
theorem imp_of {C : Ctx} {S S' : St} (r : Nat → Nat)
    (hF : ∀ t, getF S'.F t = .top ∨ ((getF S'.F t).inB S'.nm = true ∧ ∀ (E : RE) (v : Value), RelV E (getF S.F t) v → RelV E ((getF S'.F t).ren r) v))
    (hH : ∀ i x, getH S'.H i = some x → i ∈ S'.nm ∧ x.inB S'.nm = true ∧ ∃ y, getH S.H (r i) = some y ∧ ∀ (E : RE) (cs : List Value), Rel E y cs → Rel E (x.ren r) cs)
    (hinj : ∀ i j x y, getH S'.H i = some x → getH S'.H j = some y → r i = r j → i = j)
    (h0 : ∀ i, i ∈ C.nm0 → i ∈ S'.nm ∧ r i = i) : S.imp C S' := by
  rintro a w ⟨σ, hc⟩
  have hG : ∀ b, C.G S.H w σ b → C.G S'.H w (fun i => σ (r i)) b := fun b hb => by
    rcases hb with hb | ⟨h1, h2, h3⟩
    · exact .inl hb
    · exact .inr ⟨h1, h2, fun i x hi => by obtain ⟨-, -, y, hy, -⟩ := hH i x hi; exact h3 (r i) y hy⟩
  have hback : RE.back r (C.RE S w σ) (C.RE S' w (fun i => σ (r i))) := ⟨rfl, rfl, hG, fun _ _ => rfl⟩
  refine ⟨fun i => σ (r i), hc.ok, hc.defers, hc.size, hc.kept, fun i hi => ?_, fun i j x y hi hj he => ?_, fun i x hi => ?_, ?_, fun t => ?_⟩
  · obtain ⟨h1, h2⟩ := h0 i hi
    exact ⟨by rw [h2]; exact (hc.σ0 i hi).1, h1⟩
  · obtain ⟨-, -, x', hx', -⟩ := hH i x hi
    obtain ⟨-, -, y', hy', -⟩ := hH j y hj
    exact hinj i j x y hi hj (hc.inj _ _ _ _ hx' hy' he)
  · obtain ⟨h1, h2, y, h3, h4⟩ := hH i x hi
    obtain ⟨-, k2, k3, c, t, fr, cs, rest, k4, k5, k6, k7⟩ := hc.blk (r i) _ h3
    exact ⟨h1, k2, k3, c, t, fr, cs, rest, k4, k5, Rel.back hback _ _ h2 (h4 _ _ k6), k7⟩
  · have hle : (C.RE S w σ).bare.le (C.RE S' w (fun i => σ (r i))).bare := hback.bare
    have h1 : EnvOK (C.RE S w σ).bare := ⟨hc.env.glob, hc.env.sent, hc.env.inj, hc.env.cold⟩
    have := h1.le hle
    exact ⟨this.glob, this.sent, this.inj, this.cold⟩
  · rcases hF t with h | ⟨h1, h2⟩
    · rw [h]; simp only [RelV]
    · exact RelV.back hback _ _ h1 (h2 _ _ (hc.slot t))
/-! ### Rows that are frozen -/
mutual
/-- Own rows as frozen ones; what isn't wanted any more as anything. 'fr': what is left leads to new memory alone. -/
inductive Shut (η : Nat → Option AV) (live : Nat → Bool) (fr : Bool) : AV → AV → Prop
  | refl {x : AV} (hf : fr = true → x.free = true ∧ (x.one || x.isAgg) = true) : Shut η live fr x x
  | top {x : AV} : Shut η live fr x .top
  | row {i z of n c m : Nat} {f g : Nat → AV} (hi : η i = some (.arr z m f)) (hl : live i = false) (hle : of + n ≤ m) (hg : ∀ j, j < n → g j = f (of + j)) (hf : fr = true → ∀ j, j < m → (f j).free = true) :
      Shut η live fr (.osl i z of n c) (.sl z false n g)
  | ptr {i : Nat} {x y : AV} (hi : η i = some x) (hl : live i = false) (h : Shut η live fr x y) (hn : y.noN = true) (ht : y = .top → x.one = true) : Shut η live fr (.ptr i [] 0) (.fptr y)
  | agg {l m : List AV} (h : ShutL η live fr l m) : Shut η live fr (.agg l) (.agg m)
  | tup {l m : List AV} (h : ShutL η live fr l m) : Shut η live fr (.tup l) (.tup m)
  | fn {f : FuncId} {l m : List AV} (h : ShutL η live fr l m) : Shut η live fr (.fn f l) (.fn f m)
inductive ShutL (η : Nat → Option AV) (live : Nat → Bool) (fr : Bool) : List AV → List AV → Prop
  | nil : ShutL η live fr [] []
  | cons {x y : AV} {l m : List AV} (h : Shut η live fr x y) (ho : y = .top → x.one = true) (t : ShutL η live fr l m) : ShutL η live fr (x :: l) (y :: m)
end
/-- The same memory; more of it stays: just the blocks that aren't live. -/
structure RE.shut (η : Nat → Option AV) (live : Nat → Bool) (fr : Bool) (E E' : RE) : Prop where
  V : E'.V = E.V
  w : E'.w = E.w
  σ : fr = false → ∀ i, i ∈ E.nm → E'.σ i = E.σ i
  nm : fr = false → ∀ i, i ∈ E.nm → i ∈ E'.nm
  G : fr = false → ∀ b, E.G b → E'.G b
  blk : ∀ i x, η i = some x → live i = false → E'.G (E.σ i) ∧ Blk E (E.σ i) x
theorem RE.shut.le {η : Nat → Option AV} {live : Nat → Bool} {E E' : RE} (h : RE.shut η live false E E') : E.le E' :=
  ⟨h.V, h.σ rfl, h.nm rfl, h.G rfl, fun _ _ _ _ hv => by rw [h.w]; exact hv, fun b c t fr hb => ⟨c, t, fr, by rw [h.w]; exact hb, rfl⟩, fun b _ es cl hb => by rw [h.w]; exact hb⟩
theorem RelV.free {E E' : RE} (hV : E'.V = E.V) {x : AV} (hx : x.free = true) (ho : (x.one || x.isAgg) = true) {v : Value} (hv : RelV E x v) : RelV E' x v := by
  cases x <;> simp only [AV.one, AV.isAgg, Bool.or_false, Bool.or_true] at ho <;> first
    | (cases ho; done)
    | (simp only [RelV]; done)
    | (exact (Rel.free hV _ _ hx (hv.toRel rfl (by simp))).toV rfl)
    | skip
  case agg l => simp only [RelV] at *; obtain ⟨cs, h1, h2⟩ := hv; exact ⟨cs, h1, RelL.free hV l _ (by simpa [AV.free] using hx) h2⟩
  all_goals simp [AV.free] at hx
theorem row_shut {η : Nat → Option AV} {live : Nat → Bool} {fr : Bool} {E E' : RE} (h : RE.shut η live fr E E') {i z of n c m : Nat} {f g : Nat → AV} (hi : η i = some (.arr z m f)) (hl : live i = false) (hle : of + n ≤ m)
    (hg : ∀ j, j < n → g j = f (of + j)) (hf : fr = true → ∀ j, j < m → (f j).free = true) {v : Value} (hv : Rel E (.osl i z of n c) [v]) : Rel E' (.sl z false n g) [v] := by
  obtain ⟨hG, hB⟩ := h.blk i _ hi hl
  have := (CvX.row (S := ⟨[], [(i, some (.arr z m f))], []⟩) (nm := []) (fr := fr) (c := c) rfl (by simp [getH]) hle (by cases fr <;> simp_all) g hg).cv E E' v h.V h.w h.G (fun i hi => by cases hi)
    (fun _ j y hj => by
      simp only [getH] at hj
      by_cases e : i = j
      · subst e; simp at hj; subst hj; exact ⟨hG, hB⟩
      · rw [show Nat.beq i j = false from Bool.eq_false_iff.2 fun h => e (Nat.eq_of_beq_eq_true h)] at hj; simp at hj) (hv.toV rfl)
  exact this.toRel rfl (by simp)
mutual
theorem Shut.rel {η : Nat → Option AV} {live : Nat → Bool} {fr : Bool} {E E' : RE} (h : RE.shut η live fr E E') : ∀ {x y : AV}, Shut η live fr x y → (y = .top → x.one = true) → ∀ cs, Rel E x cs → Rel E' y cs
  | _, _, .refl hf, _, cs, hv => by
    cases fr with
    | false => exact hv.le h.le
    | true => exact Rel.free h.V _ _ (hf rfl).1 hv
  | x, _, .top, ho, cs, hv => by
    have h1 := Rel.length _ _ hv
    have h2 : x.sz = 1 := by have := ho rfl; cases x <;> simp [AV.one] at this <;> rfl
    rw [h2] at h1
    obtain ⟨v, rfl⟩ := List.length_eq_one_iff.1 h1
    simp only [Rel]
    exact ⟨v, rfl, hv.one (ho rfl)⟩
  | _, _, .row hi hl hle hg hf, _, cs, hv => by
    have h1 : ∃ v, cs = [v] := by simp only [Rel] at hv; obtain ⟨_, _, o, _, h1, _⟩ := hv; exact ⟨_, h1⟩
    obtain ⟨v, rfl⟩ := h1
    exact row_shut h hi hl hle hg hf hv
  | _, _, .ptr (i := i) hi hl hs hn ht, _, cs, hv => by
    have h1 : cs = [.pointer (some ⟨E.σ i, 0, none⟩)] := by simp only [Rel] at hv; exact hv.2
    subst h1
    obtain ⟨hG, hB⟩ := h.blk i _ hi hl
    obtain ⟨c, t, fr', cs', rest, e1, e2, e3, -⟩ := hB
    have h2 := Shut.rel h hs ht cs' e3
    simp only [Rel]
    refine ⟨_, rfl, rfl, hG, cs', fun k v hk => ?_, Rel.noN _ _ hn h2⟩
    rw [h.w]
    have : c.toList[k]? = some v := by rw [e2]; exact List.getElem?_append_left (List.getElem?_eq_some_iff.1 hk).1 ▸ hk
    simpa [World.cell?, e1] using this
  | _, _, .agg hl, _, cs, hv => by simp only [Rel] at *; exact ShutL.rel h hl cs hv
  | _, _, .tup hl, _, cs, hv => by simp only [Rel] at hv
  | _, _, .fn hl, _, cs, hv => by
    simp only [Rel] at *
    obtain ⟨vs, h1, h2⟩ := hv
    exact ⟨vs, h1, ShutL.relC h hl _ h2⟩
theorem ShutL.rel {η : Nat → Option AV} {live : Nat → Bool} {fr : Bool} {E E' : RE} (h : RE.shut η live fr E E') : ∀ {l m : List AV}, ShutL η live fr l m → ∀ cs, RelL E l cs → RelL E' m cs
  | _, _, .nil, cs, hv => by simpa only [RelL] using hv
  | _, _, .cons hx ho ht, cs, hv => by
    simp only [RelL] at *
    obtain ⟨c, d, h1, h2, h3⟩ := hv
    exact ⟨c, d, h1, Shut.rel h hx ho c h2, ShutL.rel h ht d h3⟩
theorem ShutL.relC {η : Nat → Option AV} {live : Nat → Bool} {fr : Bool} {E E' : RE} (h : RE.shut η live fr E E') : ∀ {l m : List AV}, ShutL η live fr l m → ∀ cs, RelC E l cs → RelC E' m cs
  | _, _, .nil, cs, hv => by simpa only [RelC] using hv
  | _, _, .cons hx ho ht, cs, hv => by
    simp only [RelC] at *
    obtain ⟨c, d, h1, h2, h3⟩ := hv
    exact ⟨c, d, h1, Shut.rel h hx ho [c] h2, ShutL.relC h ht d h3⟩
end
mutual
theorem Shut.relV {η : Nat → Option AV} {live : Nat → Bool} {fr : Bool} {E E' : RE} (h : RE.shut η live fr E E') : ∀ {x y : AV}, Shut η live fr x y → ∀ v, RelV E x v → RelV E' y v
  | _, _, .refl hf, v, hv => by
    cases fr with
    | false => exact hv.le h.le
    | true => exact RelV.free h.V (hf rfl).1 (hf rfl).2 hv
  | _, _, .top, v, hv => by simp only [RelV]
  | _, _, .row hi hl hle hg hf, v, hv => (row_shut h hi hl hle hg hf (hv.toRel rfl (by simp))).toV rfl
  | _, _, .ptr (i := i) (x := x) (y := y) hi hl hs hn ht, v, hv => by
    have h1 : v = .pointer (some ⟨E.σ i, 0, none⟩) := by simp only [RelV, Rel, List.cons.injEq, and_true] at hv; exact hv.2
    subst h1
    obtain ⟨hG, hB⟩ := h.blk i _ hi hl
    obtain ⟨c, t, fr', cs', rest, e1, e2, e3, -⟩ := hB
    have h2 := Shut.rel h hs ht cs' e3
    simp only [RelV, Rel]
    refine ⟨_, rfl, rfl, hG, cs', fun k v hk => ?_, Rel.noN _ _ hn h2⟩
    rw [h.w]
    have : c.toList[k]? = some v := by rw [e2]; exact List.getElem?_append_left (List.getElem?_eq_some_iff.1 hk).1 ▸ hk
    simpa [World.cell?, e1] using this
  | _, _, .agg hl, v, hv => by simp only [RelV] at *; obtain ⟨cs, h1, h2⟩ := hv; exact ⟨cs, h1, ShutL.rel h hl _ h2⟩
  | _, _, .tup hl, v, hv => by simp only [RelV] at *; obtain ⟨cs, h1, h2⟩ := hv; exact ⟨cs, h1, ShutL.relT h hl _ h2⟩
  | _, _, .fn (f := f) (l := l) (m := m) hl, v, hv => by
    have h1 := hv.toRel (x := .fn f l) rfl (by simp)
    simp only [Rel, RelV] at *
    obtain ⟨vs, h1, h2⟩ := h1
    exact ⟨vs, h1, ShutL.relC h hl _ h2⟩
theorem ShutL.relT {η : Nat → Option AV} {live : Nat → Bool} {fr : Bool} {E E' : RE} (h : RE.shut η live fr E E') : ∀ {l m : List AV}, ShutL η live fr l m → ∀ vs, RelT E l vs → RelT E' m vs
  | _, _, .nil, cs, hv => by simpa only [RelT] using hv
  | _, _, .cons hx ho ht, vs, hv => by
    simp only [RelT] at *
    obtain ⟨c, d, h1, h2, h3⟩ := hv
    exact ⟨c, d, h1, Shut.relV h hx c h2, ShutL.relT h ht d h3⟩
end
theorem imp_shut {C : Ctx} {S S' : St} (hown : ∀ b, C.own0 b → ∃ j, j ∈ C.nm0 ∧ C.σ0 j = b) (hl0 : ∀ j, j ∈ C.nm0 → ∃ x, getH S'.H j = some x) (hnm : S'.nm = S.nm)
    (hF : ∀ t, Shut (getH S.H) (fun i => (getH S'.H i).isSome) false (getF S.F t) (getF S'.F t))
    (hH : ∀ i y, getH S'.H i = some y → ∃ x, getH S.H i = some x ∧ Shut (getH S.H) (fun i => (getH S'.H i).isSome) false x y ∧ (y = .top → x.one = true)) : S.imp C S' := by
  rintro a w ⟨σ, hc⟩
  have hG : ∀ b, C.G S.H w σ b → C.G S'.H w σ b := fun b hb => by
    rcases hb with hb | ⟨h1, h2, h3⟩
    · exact .inl hb
    · exact .inr ⟨h1, h2, fun i x hi => by obtain ⟨y, hy, -⟩ := hH i x hi; exact h3 i _ hy⟩
  have hsh : RE.shut (getH S.H) (fun i => (getH S'.H i).isSome) false (C.RE S w σ) (C.RE S' w σ) := by
    refine ⟨rfl, rfl, fun _ _ _ => rfl, fun _ i hi => by simp only [Ctx.RE] at *; rw [hnm]; exact hi, fun _ => hG, fun i x hi hl => ?_⟩
    obtain ⟨h1, h2, h3, h4⟩ := hc.blk i x hi
    refine ⟨.inr ⟨?_, h4.lt, fun j y hj e => ?_⟩, h4⟩
    · rcases h3 with h3 | h3
      · exfalso
        obtain ⟨j, hj, e⟩ := hown _ h3
        obtain ⟨y, hy⟩ := hl0 j hj
        obtain ⟨x', hx', -⟩ := hH j y hy
        have := hc.inj j i x' x hx' hi (by rw [(hc.σ0 j hj).1]; exact e)
        subst this
        simp [hy] at hl
      · exact h3
    · obtain ⟨x', hx', -⟩ := hH j y hj
      have := hc.inj j i x' x hx' hi e
      subst this
      simp [hj] at hl
  refine ⟨σ, hc.ok, hc.defers, hc.size, hc.kept, fun i hi => ⟨(hc.σ0 i hi).1, by rw [hnm]; exact (hc.σ0 i hi).2⟩, fun i j x y hi hj he => ?_, fun i y hi => ?_, hc.env.le hsh.le, fun t => Shut.relV hsh (hF t) _ (hc.slot t)⟩
  · obtain ⟨x', hx', -⟩ := hH i x hi
    obtain ⟨y', hy', -⟩ := hH j y hj
    exact hc.inj i j x' y' hx' hy' he
  · obtain ⟨x, hx, hs, ho⟩ := hH i y hi
    obtain ⟨h1, h2, h3, c, t, fr, cs, rest, k4, k5, k6, k7⟩ := hc.blk i x hx
    exact ⟨by rw [hnm]; exact h1, h2, h3, c, t, fr, cs, rest, k4, k5, Shut.rel hsh hs ho _ k6, k7⟩
/-! ### The forms in which a program prints them -/
def keyIn {α : Type} (L : List (Nat × α)) (t : Nat) : Bool := L.any fun p => Nat.beq p.1 t
theorem keyIn_cons {α : Type} (p : Nat × α) (L : List (Nat × α)) (t : Nat) : keyIn (p :: L) t = (Nat.beq p.1 t || keyIn L t) := by simp [keyIn]
theorem getF_append (A B : List (Nat × AV)) (t : Nat) : getF (A ++ B) t = if keyIn A t then getF A t else getF B t := by
  induction A with
  | nil => simp [keyIn]
  | cons p A ih =>
    obtain ⟨d, v⟩ := p
    rw [List.cons_append, getF_cons, ih, keyIn_cons, getF_cons]
    by_cases e : d = t
    · simp [e, Nat.beq_refl]
    · have : Nat.beq d t = false := Bool.eq_false_iff.2 fun h => e (Nat.eq_of_beq_eq_true h)
      simp [e, this]
theorem getH_append' (A B : List (Nat × Option AV)) (t : Nat) : getH (A ++ B) t = if keyIn A t then getH A t else getH B t := by
  induction A with
  | nil => simp [keyIn]
  | cons p A ih =>
    obtain ⟨d, v⟩ := p
    rw [List.cons_append, getH_cons, ih, keyIn_cons, getH_cons]
    by_cases e : d = t
    · simp [e, Nat.beq_refl]
    · have : Nat.beq d t = false := Bool.eq_false_iff.2 fun h => e (Nat.eq_of_beq_eq_true h)
      simp [e, this]
theorem getF_in {L : List (Nat × AV)} {t : Nat} (h : keyIn L t = true) : (t, getF L t) ∈ L := by
  induction L with
  | nil => simp [keyIn] at h
  | cons p L ih =>
    obtain ⟨d, v⟩ := p
    rw [getF_cons]
    by_cases e : d = t
    · simp [e]
    · have e' : Nat.beq d t = false := Bool.eq_false_iff.2 fun h => e (Nat.eq_of_beq_eq_true h)
      rw [keyIn_cons, e', Bool.false_or] at h
      rw [if_neg e]; exact List.mem_cons_of_mem _ (ih h)
theorem getH_in {L : List (Nat × Option AV)} {t : Nat} (h : keyIn L t = true) : (t, getH L t) ∈ L := by
  induction L with
  | nil => simp [keyIn] at h
  | cons p L ih =>
    obtain ⟨d, v⟩ := p
    rw [getH_cons]
    by_cases e : d = t
    · simp [e]
    · have e' : Nat.beq d t = false := Bool.eq_false_iff.2 fun h => e (Nat.eq_of_beq_eq_true h)
      rw [keyIn_cons, e', Bool.false_or] at h
      rw [if_neg e]; exact List.mem_cons_of_mem _ (ih h)
theorem getF_key {L : List (Nat × AV)} {t : Nat} (h : keyIn L t = false) : getF L t = .top := by
  induction L with
  | nil => rfl
  | cons p L ih =>
    obtain ⟨d, v⟩ := p
    rw [keyIn_cons, Bool.or_eq_false_iff] at h
    rw [getF_cons, if_neg (fun e => by rw [e, Nat.beq_refl] at h; cases h.1)]; exact ih h.2
theorem getH_key {L : List (Nat × Option AV)} {t : Nat} (h : keyIn L t = false) : getH L t = none := by
  induction L with
  | nil => rfl
  | cons p L ih =>
    obtain ⟨d, v⟩ := p
    rw [keyIn_cons, Bool.or_eq_false_iff] at h
    rw [getH_cons, if_neg (fun e => by rw [e, Nat.beq_refl] at h; cases h.1)]; exact ih h.2
theorem WkC.arr {z n : Nat} {f g : Nat → AV} (h : ∀ j, j < n → f j = g j) : WkC (.arr z n f) (.arr z n g) := fun _ _ hv => hv.arr_congr h
theorem WkC.sl {z n : Nat} {b : Bool} {f g : Nat → AV} (h : ∀ j, j < n → f j = g j) : WkC (.sl z b n f) (.sl z b n g) := fun E cs hv => by
  simp only [Rel] at *
  obtain ⟨a, cap, h1, h2, h3, h4, h5⟩ := hv
  refine ⟨a, cap, h1, h2, h3, h4, fun b hb => ⟨(h5 b hb).1, (h5 b hb).2.1, fun j hj => ?_⟩⟩
  obtain ⟨ds, k1, k2, k3⟩ := (h5 b hb).2.2 j hj
  exact ⟨ds, k1, k2, by rw [← h j hj]; exact k3⟩
theorem WkV.sl {z n : Nat} {b : Bool} {f g : Nat → AV} (h : ∀ j, j < n → f j = g j) : WkV (.sl z b n f) (.sl z b n g) := fun E v hv => by
  simp only [RelV] at *; exact WkC.sl h _ _ hv
mutual
/-- The same, but for what lies behind a row's end. -/
inductive Wk : AV → AV → Prop
  | refl {x : AV} : Wk x x
  | sl {z n : Nat} {b : Bool} {f g : Nat → AV} (h : ∀ j, j < n → f j = g j) : Wk (.sl z b n f) (.sl z b n g)
  | sl0 {z z' : Nat} {b : Bool} {f g : Nat → AV} : Wk (.sl z b 0 f) (.sl z' b 0 g)
  | slw {z n : Nat} {b : Bool} {f g : Nat → AV} (h : ∀ j, j < n → Wk (f j) (g j)) : Wk (.sl z b n f) (.sl z b n g)
  | arr {z n : Nat} {f g : Nat → AV} (h : ∀ j, j < n → f j = g j) : Wk (.arr z n f) (.arr z n g)
  | agg {l m : List AV} (h : WkL l m) : Wk (.agg l) (.agg m)
  | tup {l m : List AV} (h : WkL l m) : Wk (.tup l) (.tup m)
inductive WkL : List AV → List AV → Prop
  | nil : WkL [] []
  | cons {x y : AV} {l m : List AV} (h : Wk x y) (t : WkL l m) : WkL (x :: l) (y :: m)
end
mutual
theorem Wk.c : ∀ {x y : AV}, Wk x y → ∀ (E : RE) (cs : List Value), Rel E x cs → Rel E y cs
  | _, _, .refl, _, _, hv => hv
  | _, _, .sl h, E, cs, hv => WkC.sl h E cs hv
  | _, _, .sl0, E, cs, hv => by
    simp only [Rel] at *
    obtain ⟨a, cap, h1, h2, h3, h4, h5⟩ := hv
    exact ⟨a, cap, h1, h2, h3, h4, fun b hb => ⟨(h5 b hb).1, (h5 b hb).2.1, fun j hj => absurd hj (by omega)⟩⟩
  | _, _, .slw h, E, cs, hv => by
    simp only [Rel] at *
    obtain ⟨a, cap, h1, h2, h3, h4, h5⟩ := hv
    refine ⟨a, cap, h1, h2, h3, h4, fun b hb => ⟨(h5 b hb).1, (h5 b hb).2.1, fun j hj => ?_⟩⟩
    obtain ⟨ds, k1, k2, k3⟩ := (h5 b hb).2.2 j hj
    exact ⟨ds, k1, k2, Wk.c (h j hj) _ _ k3⟩
  | _, _, .arr h, E, cs, hv => WkC.arr h E cs hv
  | _, _, .agg h, E, cs, hv => by simp only [Rel] at *; exact WkL.c h E cs hv
  | _, _, .tup h, E, cs, hv => by simp only [Rel] at hv
theorem WkL.c : ∀ {l m : List AV}, WkL l m → ∀ (E : RE) (cs : List Value), RelL E l cs → RelL E m cs
  | _, _, .nil, _, _, hv => hv
  | _, _, .cons h t, E, cs, hv => by
    simp only [RelL] at *
    obtain ⟨c, d, h1, h2, h3⟩ := hv
    exact ⟨c, d, h1, Wk.c h E c h2, WkL.c t E d h3⟩
end
mutual
theorem Wk.v : ∀ {x y : AV}, Wk x y → WkV x y
  | _, _, .refl => WkV.refl _
  | _, _, .sl h => fun E v hv => by simp only [RelV] at *; exact Wk.c (.sl h) _ _ hv
  | _, _, .sl0 (z := z) (z' := z') (b := b) (f := f) (g := g) => fun E v hv => by
    simp only [RelV] at *; exact Wk.c .sl0 _ _ hv
  | _, _, .slw h => fun E v hv => by simp only [RelV] at *; exact Wk.c (.slw h) _ _ hv
  | _, _, .arr h => fun E v hv => by
    simp only [RelV] at *
    obtain ⟨cs, h1, h2⟩ := hv
    exact ⟨cs, h1, Wk.c (.arr h) _ _ h2⟩
  | _, _, .agg h => fun E v hv => by
    simp only [RelV] at *
    obtain ⟨cs, h1, h2⟩ := hv
    exact ⟨cs, h1, WkL.c h _ _ h2⟩
  | _, _, .tup h => fun E v hv => by
    simp only [RelV] at *
    obtain ⟨vs, h1, h2⟩ := hv
    exact ⟨vs, h1, WkL.t h _ _ h2⟩
theorem WkL.t : ∀ {l m : List AV}, WkL l m → ∀ (E : RE) (vs : List Value), RelT E l vs → RelT E m vs
  | _, _, .nil, _, _, hv => hv
  | _, _, .cons h t, E, vs, hv => by
    simp only [RelT] at *
    obtain ⟨c, d, h1, h2, h3⟩ := hv
    exact ⟨c, d, h1, Wk.v h E c h2, WkL.t t E d h3⟩
end
theorem Wk.of {x y : AV} (h : x = y) : Wk x y := h ▸ .refl
def ap (rl : List (Nat × Nat)) (i : Nat) : Nat := match rl with
  | [] => i
  | (a, b) :: l => bif Nat.beq a i then b else ap l i
theorem ap_id {rl : List (Nat × Nat)} {i : Nat} (h : keyIn rl i = false) : ap rl i = i := by
  induction rl with
  | nil => rfl
  | cons p l ih =>
    obtain ⟨a, b⟩ := p
    rw [keyIn_cons, Bool.or_eq_false_iff] at h
    have h1 : Nat.beq a i = false := h.1
    simp only [ap, h1, cond_false]; exact ih h.2
mutual
theorem AV.ren_id {r : Nat → Nat} {nm : List Nat} (hr : ∀ i, i ∈ nm → r i = i) : ∀ x : AV, x.inB nm = true → x.ren r = x
  | .ptr i _ _, h => by simp only [AV.inB, List.contains_eq_mem, decide_eq_true_eq] at h; simp only [AV.ren, hr i h]
  | .osl i _ _ _ _, h => by simp only [AV.inB, List.contains_eq_mem, decide_eq_true_eq] at h; simp only [AV.ren, hr i h]
  | .agg l, h => by simp only [AV.inB] at h; simp only [AV.ren, AV.renL_id hr l h]
  | .tup l, h => by simp only [AV.inB] at h; simp only [AV.ren, AV.renL_id hr l h]
  | .fn _ l, h => by simp only [AV.inB] at h; simp only [AV.ren, AV.renL_id hr l h]
  | .gd _ x, h => by simp only [AV.inB] at h; simp only [AV.ren, AV.ren_id hr x h]
  | .top, _ | .bool _, _ | .int _ _, _ | .str _, _ | .val _, _ | .err _, _ | .sl _ _ _ _, _ | .fptr _, _ | .arr _ _ _, _ | .mp _ _, _ => by simp only [AV.ren]
theorem AV.renL_id {r : Nat → Nat} {nm : List Nat} (hr : ∀ i, i ∈ nm → r i = i) : ∀ l : List AV, AV.inBL nm l = true → AV.renL r l = l
  | [], _ => rfl
  | x :: l, h => by simp only [AV.inBL, Bool.and_eq_true] at h; simp only [AV.renL, AV.ren_id hr x h.1, AV.renL_id hr l h.2]
end
mutual
theorem AV.inB_mono {nm nm' : List Nat} (hr : ∀ i, i ∈ nm → i ∈ nm') : ∀ x : AV, x.inB nm = true → x.inB nm' = true
  | .ptr i _ _, h => by simp only [AV.inB, List.contains_eq_mem, decide_eq_true_eq] at *; exact hr i h
  | .osl i _ _ _ _, h => by simp only [AV.inB, List.contains_eq_mem, decide_eq_true_eq] at *; exact hr i h
  | .agg l, h => by simp only [AV.inB] at *; exact AV.inBL_mono hr l h
  | .tup l, h => by simp only [AV.inB] at *; exact AV.inBL_mono hr l h
  | .fn _ l, h => by simp only [AV.inB] at *; exact AV.inBL_mono hr l h
  | .gd _ x, h => by simp only [AV.inB] at *; exact AV.inB_mono hr x h
  | .top, _ | .bool _, _ | .int _ _, _ | .str _, _ | .val _, _ | .err _, _ | .sl _ _ _ _, _ | .fptr _, _ | .arr _ _ _, _ | .mp _ _, _ => by simp only [AV.inB]
theorem AV.inBL_mono {nm nm' : List Nat} (hr : ∀ i, i ∈ nm → i ∈ nm') : ∀ l : List AV, AV.inBL nm l = true → AV.inBL nm' l = true
  | [], _ => rfl
  | x :: l, h => by simp only [AV.inBL, Bool.and_eq_true] at *; exact ⟨AV.inB_mono hr x h.1, AV.inBL_mono hr l h.2⟩
end
def OverF (rl : List (Nat × Nat)) (nm : List Nat) (FS : List (Nat × AV)) : List (Nat × AV) → Prop
  | [] => True
  | (t, v) :: l => (v = .top ∨ (v.inB nm = true ∧ WkV (getF FS t) (v.ren (ap rl)))) ∧ OverF rl nm FS l
def OverH (rl : List (Nat × Nat)) (nm : List Nat) (HS : List (Nat × Option AV)) : List (Nat × Option AV) → Prop
  | [] => True
  | (_, none) :: l => OverH rl nm HS l
  | (i, some x) :: l => (nm.contains i = true ∧ x.inB nm = true ∧ ∃ y, getH HS (ap rl i) = some y ∧ WkC y (x.ren (ap rl))) ∧ OverH rl nm HS l
theorem OverF.mem {rl : List (Nat × Nat)} {nm : List Nat} {FS : List (Nat × AV)} : ∀ {L : List (Nat × AV)}, OverF rl nm FS L → ∀ t v, (t, v) ∈ L → v = .top ∨ (v.inB nm = true ∧ WkV (getF FS t) (v.ren (ap rl)))
  | (t0, v0) :: L, h, t, v, hm => by
    simp only [OverF] at h
    rcases List.mem_cons.1 hm with e | e
    · simp only [Prod.mk.injEq] at e; obtain ⟨rfl, rfl⟩ := e; exact h.1
    · exact OverF.mem h.2 t v e
theorem OverH.mem {rl : List (Nat × Nat)} {nm : List Nat} {HS : List (Nat × Option AV)} : ∀ {L : List (Nat × Option AV)}, OverH rl nm HS L → ∀ i x, (i, some x) ∈ L → nm.contains i = true ∧ x.inB nm = true ∧ ∃ y, getH HS (ap rl i) = some y ∧ WkC y (x.ren (ap rl))
  | (t0, none) :: L, h, t, v, hm => by
    simp only [OverH] at h
    rcases List.mem_cons.1 hm with e | e
    · simp at e
    · exact OverH.mem h t v e
  | (t0, some v0) :: L, h, t, v, hm => by
    simp only [OverH] at h
    rcases List.mem_cons.1 hm with e | e
    · simp only [Prod.mk.injEq, Option.some.injEq] at e; obtain ⟨rfl, rfl⟩ := e; exact h.1
    · exact OverH.mem h.2 t v e
/-- The closed checks. -/
def impB (rl : List (Nat × Nat)) (nm nm0 : List Nat) (A F L : List (Nat × AV)) (B H M : List (Nat × Option AV)) : Bool :=
  let nb := nm.filter fun i => !keyIn rl i
  (A.all fun p => keyIn L p.1) && (F.all fun p => keyIn L p.1 || (getF F p.1).inB nb) &&
  (B.all fun p => keyIn M p.1 || (getH H p.1).isNone) && (H.all fun p => keyIn M p.1 || (match getH H p.1 with | some x => nb.contains p.1 && x.inB nb | none => true)) &&
  ((M ++ H).all fun p => (getH (M ++ H) p.1).isNone || (M ++ H).all fun q => (getH (M ++ H) q.1).isNone || (!(Nat.beq (ap rl p.1) (ap rl q.1)) || Nat.beq p.1 q.1)) &&
  (nm0.all fun i => nb.contains i)
theorem keyIn_getH {L : List (Nat × Option AV)} {i : Nat} {x : AV} (h : getH L i = some x) : keyIn L i = true := by
  cases hk : keyIn L i with
  | true => rfl
  | false => rw [getH_key hk] at h; cases h
theorem keyIn_mem {α : Type} {L : List (Nat × α)} {i : Nat} (h : keyIn L i = true) : ∃ v, (i, v) ∈ L := by
  obtain ⟨p, hp, he⟩ := List.any_eq_true.1 h
  have := Nat.eq_of_beq_eq_true he
  exact ⟨p.2, by rw [← this]; exact hp⟩
theorem imp_over {C : Ctx} {FS F : List (Nat × AV)} {HS H : List (Nat × Option AV)} {ns : List Nat} {L : List (Nat × AV)} {M : List (Nat × Option AV)} {nm : List Nat} (rl : List (Nat × Nat))
    (h1 : FS.drop (FS.length - F.length) = F) (h2 : HS.drop (HS.length - H.length) = H)
    (hb : impB rl nm C.nm0 (FS.take (FS.length - F.length)) F L (HS.take (HS.length - H.length)) H M = true) (hF : OverF rl nm FS L) (hH : OverH rl nm HS M) : St.imp C ⟨FS, HS, ns⟩ ⟨L ++ F, M ++ H, nm⟩ := by
  generalize hA : FS.take (FS.length - F.length) = A at hb
  generalize hB : HS.take (HS.length - H.length) = B at hb
  have eF : FS = A ++ F := by rw [← hA]; conv => lhs; rw [← List.take_append_drop (FS.length - F.length) FS, h1]
  have eH : HS = B ++ H := by rw [← hB]; conv => lhs; rw [← List.take_append_drop (HS.length - H.length) HS, h2]
  subst eF; subst eH
  clear h1 h2 hA hB
  simp only [impB, Bool.and_eq_true] at hb
  obtain ⟨⟨⟨⟨⟨b1, b2⟩, b3⟩, b4⟩, b5⟩, b6⟩ := hb
  have hid : ∀ i, i ∈ nm.filter (fun i => !keyIn rl i) → ap rl i = i := fun i hi => ap_id (by simpa using (List.mem_filter.1 hi).2)
  have hsub : ∀ i, i ∈ nm.filter (fun i => !keyIn rl i) → i ∈ nm := fun i hi => (List.mem_filter.1 hi).1
  refine imp_of (ap rl) (fun t => ?_) (fun i x hi => ?_) (fun i j x y hi hj he => ?_) (fun i hi => ?_)
  · show getF (L ++ F) t = .top ∨ ((getF (L ++ F) t).inB nm = true ∧ WkV (getF (A ++ F) t) ((getF (L ++ F) t).ren (ap rl)))
    rw [getF_append L F]
    cases hk : keyIn L t with
    | true => simpa using hF.mem _ _ (getF_in hk)
    | false =>
      simp only [Bool.false_eq_true, if_false]
      cases hkF : keyIn F t with
      | false => exact .inl (getF_key hkF)
      | true =>
        right
        obtain ⟨v, hv⟩ := keyIn_mem hkF
        have h3 := List.all_eq_true.1 b2 _ hv
        simp only [hk, Bool.false_or] at h3
        refine ⟨AV.inB_mono hsub _ h3, ?_⟩
        rw [AV.ren_id hid _ h3, getF_append, if_neg]
        · exact WkV.refl _
        · intro hkA
          obtain ⟨u, hu⟩ := keyIn_mem hkA
          have := List.all_eq_true.1 b1 _ hu
          simp only at this
          rw [hk] at this; cases this
  · show i ∈ nm ∧ x.inB nm = true ∧ ∃ y, getH (B ++ H) (ap rl i) = some y ∧ WkC y (x.ren (ap rl))
    have hi' : getH (M ++ H) i = some x := hi
    rw [getH_append'] at hi'
    cases hk : keyIn M i with
    | true =>
      rw [if_pos hk] at hi'
      have := getH_in hk
      rw [hi'] at this
      obtain ⟨h3, h4, h5⟩ := hH.mem _ _ this
      exact ⟨by simpa using h3, h4, h5⟩
    | false =>
      simp only [hk, Bool.false_eq_true, if_false] at hi'
      obtain ⟨v, hv⟩ := keyIn_mem (keyIn_getH hi')
      have h3 := List.all_eq_true.1 b4 _ hv
      simp only [hk, Bool.false_or, hi', Bool.and_eq_true] at h3
      have h4 : i ∈ nm.filter fun i => !keyIn rl i := by simpa using h3.1
      refine ⟨hsub _ h4, AV.inB_mono hsub _ h3.2, x, ?_, ?_⟩
      · rw [hid i h4, getH_append', if_neg, hi']
        intro hkB
        obtain ⟨u, hu⟩ := keyIn_mem hkB
        have := List.all_eq_true.1 b3 _ hu
        simp only [hk, hi', Bool.false_or, Option.isNone_some] at this
        cases this
      · rw [AV.ren_id hid _ h3.2]; exact WkC.refl _
  · have hi' : getH (M ++ H) i = some x := hi
    have hj' : getH (M ++ H) j = some y := hj
    obtain ⟨u, hu⟩ := keyIn_mem (keyIn_getH hi')
    obtain ⟨v, hv⟩ := keyIn_mem (keyIn_getH hj')
    have h3 := List.all_eq_true.1 b5 _ hu
    simp only [hi', Option.isNone_some, Bool.false_or] at h3
    have h4 := List.all_eq_true.1 h3 _ hv
    simp only [hj', Option.isNone_some, Bool.false_or, he, Nat.beq_refl, Bool.not_true] at h4
    exact Nat.eq_of_beq_eq_true h4
  · have h3 := List.all_eq_true.1 b6 i hi
    have h4 : i ∈ nm.filter fun i => !keyIn rl i := by simpa using h3
    exact ⟨hsub _ h4, hid _ h4⟩
end Go.Fy
/- The engine, 13: freezing, loops and ends in the forms in which a program prints them (my own text; any program). -/
set_option linter.unusedSimpArgs false
namespace Go.Fy
open Go.RowKit
def ShF (η : Nat → Option AV) (live : Nat → Bool) (FS : List (Nat × AV)) : List (Nat × AV) → Prop
  | [] => True
  | (t, v) :: l => Shut η live false (getF FS t) v ∧ ShF η live FS l
def ShH (η : Nat → Option AV) (live : Nat → Bool) : List (Nat × Option AV) → Prop
  | [] => True
  | (_, none) :: l => ShH η live l
  | (i, some y) :: l => (∃ x, η i = some x ∧ Shut η live false x y ∧ (y = .top → x.one = true)) ∧ ShH η live l
theorem ShF.mem {η : Nat → Option AV} {live : Nat → Bool} {FS : List (Nat × AV)} : ∀ {L : List (Nat × AV)}, ShF η live FS L → ∀ t v, (t, v) ∈ L → Shut η live false (getF FS t) v
  | (t0, v0) :: L, h, t, v, hm => by
    simp only [ShF] at h
    rcases List.mem_cons.1 hm with e | e
    · simp only [Prod.mk.injEq] at e; obtain ⟨rfl, rfl⟩ := e; exact h.1
    · exact ShF.mem h.2 t v e
theorem ShH.mem {η : Nat → Option AV} {live : Nat → Bool} : ∀ {L : List (Nat × Option AV)}, ShH η live L → ∀ i y, (i, some y) ∈ L → ∃ x, η i = some x ∧ Shut η live false x y ∧ (y = .top → x.one = true)
  | (t0, none) :: L, h, t, v, hm => by
    simp only [ShH] at h
    rcases List.mem_cons.1 hm with e | e
    · simp at e
    · exact ShH.mem h t v e
  | (t0, some v0) :: L, h, t, v, hm => by
    simp only [ShH] at h
    rcases List.mem_cons.1 hm with e | e
    · simp only [Prod.mk.injEq, Option.some.injEq] at e; obtain ⟨rfl, rfl⟩ := e; exact h.1
    · exact ShH.mem h.2 t v e
theorem imp_sh {C : Ctx} {F : List (Nat × AV)} {H : List (Nat × Option AV)} {nm : List Nat} (L : List (Nat × AV)) (M : List (Nat × Option AV)) (hown : ∀ b, C.own0 b → ∃ j, j ∈ C.nm0 ∧ C.σ0 j = b)
    (hl0 : (C.nm0.all fun j => (getH (M ++ H) j).isSome) = true) (hF : ShF (getH H) (fun i => (getH (M ++ H) i).isSome) F L) (hH : ShH (getH H) (fun i => (getH (M ++ H) i).isSome) M) :
    St.imp C ⟨F, H, nm⟩ ⟨L ++ F, M ++ H, nm⟩ := by
  refine imp_shut hown (fun j hj => by have := List.all_eq_true.1 hl0 j hj; simpa [Option.isSome_iff_exists] using this) rfl (fun t => ?_) (fun i y hi => ?_)
  · show Shut (getH H) (fun i => (getH (M ++ H) i).isSome) false (getF F t) (getF (L ++ F) t)
    rw [getF_append]
    cases hk : keyIn L t with
    | true => exact hF.mem _ _ (getF_in hk)
    | false => exact .refl (fun h => by cases h)
  · have hi' : getH (M ++ H) i = some y := hi
    show ∃ x, getH H i = some x ∧ Shut (getH H) (fun i => (getH (M ++ H) i).isSome) false x y ∧ (y = .top → x.one = true)
    rw [getH_append'] at hi'
    cases hk : keyIn M i with
    | true =>
      rw [if_pos hk] at hi'
      have := getH_in hk
      rw [hi'] at this
      exact hH.mem _ _ this
    | false =>
      rw [hk, if_neg (by simp)] at hi'
      cases y with
      | top => exact ⟨.top, hi', .top, fun _ => rfl⟩
      | _ => exact ⟨_, hi', .refl (fun h => by cases h), fun h => by cases h⟩
theorem al_imp {C : Ctx} {ops : Array Oper} {o : Oper} {r : List Oper} {K : St → Prop} {S S' : St} (h : S.imp C S') (k : AL C ops (o :: r) K S') : AL C ops (o :: r) K S := by
  intro hd a w hc
  exact k hd a w (h a w hc)
theorem al_sh {C : Ctx} {ops : Array Oper} {o : Oper} {r : List Oper} {K : St → Prop} {F : List (Nat × AV)} {H : List (Nat × Option AV)} {nm : List Nat} (L : List (Nat × AV)) (M : List (Nat × Option AV))
    (hown : ∀ b, C.own0 b → ∃ j, j ∈ C.nm0 ∧ C.σ0 j = b)
    (hl0 : (C.nm0.all fun j => (getH (M ++ H) j).isSome) = true) (hF : ShF (getH H) (fun i => (getH (M ++ H) i).isSome) F L) (hH : ShH (getH H) (fun i => (getH (M ++ H) i).isSome) M)
    (k : AL C ops (o :: r) K ⟨L ++ F, M ++ H, nm⟩) : AL C ops (o :: r) K ⟨F, H, nm⟩ := al_imp (imp_sh L M hown hl0 hF hH) k
/-- A loop. -/
theorem awp_loopI {C : Ctx} {c : Code} {Q : Exit → St → Prop} {F : List (Nat × AV)} {H : List (Nat × Option AV)} {nm : List Nat} {ι : Type} (P : ι → Prop) (L : ι → List (Nat × AV)) (M : ι → List (Nat × Option AV))
    (nm' : List Nat) (μ : ι → Nat) (i₀ : ι) (hP : P i₀) (h₀ : St.imp C ⟨F, H, nm⟩ ⟨L i₀ ++ F, M i₀ ++ H, nm'⟩)
    (round : ∀ i, P i → AWP C c (AThen (fun S' => ∃ j, (P j ∧ μ j < μ i) ∧ S'.imp C ⟨L j ++ F, M j ++ H, nm'⟩) Q) ⟨L i ++ F, M i ++ H, nm'⟩) : AWP C (.loop c) Q ⟨F, H, nm⟩ := by
  refine awp_loop (ι := {i : ι // P i}) (fun i => ⟨L i.1 ++ F, M i.1 ++ H, nm'⟩) (fun i => μ i.1) ⟨i₀, hP⟩ h₀ (fun i => ?_)
  refine AWP.mono (round i.1 i.2) fun e S hq => ?_
  cases e with
  | normal =>
    obtain ⟨j, ⟨h1, h2⟩, h3⟩ := hq
    exact ⟨⟨j, h1⟩, h3, h2⟩
  | _ => exact hq
/-- In the form in which a program prints it: the names of the loop's own ahead of the others. -/
theorem awp_loopK {C : Ctx} {c : Code} {Q : Exit → St → Prop} {F : List (Nat × AV)} {H : List (Nat × Option AV)} {nm : List Nat} {ι : Type} (P : ι → Prop) (L : ι → List (Nat × AV)) (M : ι → List (Nat × Option AV))
    (LN : List Nat) (μ : ι → Nat) (i₀ : ι) (hP : P i₀) (h₀ : St.imp C ⟨F, H, nm⟩ ⟨L i₀ ++ F, M i₀ ++ H, LN ++ nm⟩)
    (round : ∀ i, P i → AWP C c (AThen (fun S' => ∃ j, (P j ∧ μ j < μ i) ∧ S'.imp C ⟨L j ++ F, M j ++ H, LN ++ nm⟩) Q) ⟨L i ++ F, M i ++ H, LN ++ nm⟩) : AWP C (.loop c) Q ⟨F, H, nm⟩ :=
  awp_loopI P L M (LN ++ nm) μ i₀ hP h₀ round
/-- An end with own rows in it. -/
theorem Cv.shut {S : St} {nm : List Nat} {fr : Bool} {x y : AV} (hn : nm = []) (h : Shut (getH S.H) (fun _ => false) fr x y) (hy : y.noN = true) : Cv S nm fr x y := by
  intro E E' v h1 h2 h3 _ h5 hv
  have hsh : RE.shut (getH S.H) (fun _ => false) fr E ⟨E'.V, E'.w, E.σ, E.nm, E'.G⟩ := ⟨h1, h2, fun _ _ _ => rfl, fun _ _ hi => hi, h3, fun i z hi _ => h5 hn i z hi⟩
  have := h.relV hsh v hv
  exact cv_noN (S := ⟨[], [], []⟩) (nm := []) hy ⟨E'.V, E'.w, E.σ, E.nm, E'.G⟩ E' v rfl rfl (fun _ _ hb => hb) (fun i hi => by cases hi) (fun _ i y hi => by simp [getH] at hi) this
theorem aend1s {C : Ctx} {S : St} {fn : Func} {fr : Bool} {r0 r : AV} (h : ResL C S fn.results.toList [r0]) (hc : Shut (getH S.H) (fun _ => false) fr r0 r) (hy : r.noN = true) {Q : AV → List (Nat × Option AV) → List Nat → Prop} (hq : Q r [] []) : AEnd C fn [] fr Q S :=
  ⟨r0, r, [], res_one h, hq, fun _ => rfl, fun _ h => h, fun i x h => by simp [getH] at h, Cv.shut rfl hc hy⟩
theorem aends {C : Ctx} {S : St} {fn : Func} {fr : Bool} {l m : List AV} (h : ResL C S fn.results.toList l) (hn : l.length ≠ 1) (hc : ShutL (getH S.H) (fun _ => false) fr l m) (hy : AV.noNL m = true) {Q : AV → List (Nat × Option AV) → List Nat → Prop} (hq : Q (.tup m) [] []) :
    AEnd C fn [] fr Q S :=
  ⟨.tup l, .tup m, [], res_many h hn, hq, fun _ => rfl, fun _ h => h, fun i x h => by simp [getH] at h, Cv.shut rfl (.tup hc) hy⟩
end Go.Fy
