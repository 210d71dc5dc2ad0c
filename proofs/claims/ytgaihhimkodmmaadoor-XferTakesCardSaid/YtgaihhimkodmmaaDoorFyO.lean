/- The engine, 15: own rows: literals, make, the bytes of a string, append (my own text; any program). -/
import Derived.Test.YtgaihhimkodmmaaDoorFyN
set_option linter.unusedSimpArgs false
namespace Go.Fy
open Go.RowKit

/-- The cells of n elements, each with this zero value. -/
theorem made_rel {E : RE} {x : AV} {z : Array Value} {s : Nat} (hs : z.size = s) (h : ∀ E : RE, Rel E x z.toList) (n : Nat) : Rel E (.arr s n fun _ => x) (madeCells z (n * s)).toList := by
  have hl : (madeCells z (n * s)).toList.length = n * s := by simp [madeCells]
  simp only [Rel]
  refine ⟨hl, fun j hj => ?_⟩
  have hle : (j + 1) * s ≤ n * s := Nat.mul_le_mul_right _ hj
  rw [Nat.add_mul, Nat.one_mul] at hle
  have e : ((madeCells z (n * s)).toList.drop (j * s)).take s = z.toList := by
    apply List.ext_getElem?
    intro k
    by_cases hk : k < s
    · rw [List.getElem?_take_of_lt hk, List.getElem?_drop]
      have hlt : j * s + k < n * s := by omega
      simp only [madeCells, Array.toList_map, Array.toList_range, List.getElem?_map, List.getElem?_range hlt, Option.map_some, Array.getElem?_toList]
      rw [show (j * s + k) % z.size = k by rw [hs, Nat.add_comm, Nat.add_mul_mod_self_right, Nat.mod_eq_of_lt hk]]
      rw [Array.getElem?_eq_getElem (by omega), getElem!_pos z k (by omega)]
    · rw [List.getElem?_eq_none (by rw [List.length_take]; omega), List.getElem?_eq_none (by simp; omega)]
  rw [e]
  exact ⟨h _, by simpa using hs⟩

/-- A slice type's elements: type, cells, bytes. -/
def elB (P : Program) (t : TypeId) : Option (TypeId × Nat × Nat) :=
  match P.underlying t with
  | some (.slice e) => match P.info? e with
    | some i => some (e, i.size, i.bytes)
    | none => none
  | _ => none
theorem elB_spec {P : Program} {t e : TypeId} {s b : Nat} (h : elB P t = some (e, s, b)) : P.underlying t = some (.slice e) ∧ ∃ i, P.info? e = some i ∧ i.size = s ∧ i.bytes = b := by
  unfold elB at h
  split at h
  · rename_i e' hu
    split at h
    · rename_i i hi
      simp only [Option.some.injEq, Prod.mk.injEq] at h
      obtain ⟨rfl, rfl, rfl⟩ := h
      exact ⟨hu, i, hi, rfl, rfl⟩
    · cases h
  · cases h

section
variable {C : Ctx} {o : Oper} {ρ : Operand → AV} {η : Nat → Option AV}

/-- A new row in the result's slot. -/
theorem ConcS.newRow {S : St} {a : Act} {w : World} {σ : Nat → Nat} (hc : ConcS C S a w σ) (dst : Option Tmp) (hd : ∀ d, dst = some d → d < C.N) (n : Nat) (hn : n ∉ S.nm) (z l cp m : Nat) (f : Nat → AV) (c : Array Value) (t : TypeId) (fr : Nat × Nat)
    (cs rest : List Value) (hcs : c.toList = cs ++ rest) (hfr : ∀ o, o < c.size → ¬ (fr.1 ≤ o ∧ o < fr.2)) (hx : ∀ E : RE, (C.RE S w σ).le E → Rel E (.arr z m f) cs) (k cc : Nat) (h1 : l ≤ k) (h2 : k ≤ cc) (h3 : cc * z ≤ c.size) (hk : k = cp) :
    Conc C (S.upd dst ⟨.osl n z 0 l cp, [(n, some (.arr z m f))], [n]⟩) (a.put dst (.slice (some ⟨w.heap.size, 0, none⟩) l cc)) (w.alloc (.cells c t fr)) := by
  subst hk
  have h4 := hc.alloc n hn (.arr z m f) c t fr cs rest hcs hfr hx
  refine ⟨_, h4.put dst (.osl n z 0 l k) _ hd ?_⟩
  simp only [RelV, Rel, Ctx.RE]
  refine ⟨by simp, h1, 0, cc, by simp, h2, by simp, c, t, fr, ?_, by simpa using h3⟩
  simp only [if_true]
  show (w.heap.push _)[w.heap.size]? = _
  simp

theorem opr_make {t : TypeId} {x y : Operand} {k k' : IntKind} {a b : Int} {e : TypeId} {s by_ : Nat} {z : AV} {n : Nat} (ho : o.op = .makeSlice t x y) (hx : ρ x = .int k a) (hy : ρ y = .int k' b) (ht : elB C.V.P t = some (e, s, by_)) (hz : Zero C.V.P e z)
    (h0 : 0 ≤ a) (hab : a ≤ b) (hb : by_ * b ≤ 281474976710656) (hb' : b ≤ 9223372036854775807) : OpR C o ρ η ⟨.osl n s 0 a.toNat b.toNat, [(n, some (.arr s b.toNat fun _ => z))], [n]⟩ := by
  intro hd S hρ hη hn a' w ⟨σ, hc⟩
  obtain ⟨hu, i, hi, rfl, rfl⟩ := elB_spec ht
  obtain ⟨i', v, hi', hv, hs, hr⟩ := hz
  rw [hi] at hi'
  simp only [Option.some.injEq] at hi'
  subst hi'
  have e1 := hρ x (by simp [ho, Op.operands]) _ _ rfl (ev_rel hc x)
  have e2 := hρ y (by simp [ho, Op.operands]) _ _ rfl (ev_rel hc y)
  rw [hx] at e1; rw [hy] at e2
  simp only [RelV] at e1 e2
  have hrun : (execOp a'.eval o).run C.V.P w = .ok (.value (.slice (some ⟨w.heap.size, 0, none⟩) a.toNat b.toNat)) (w.alloc (.cells (madeCells v.cells (b.toNat * i.size)) e)) := by
    simp only [execOp, ho, e1, e2, Sem.run_bind, run_make w t e i v hu hi hv k k' a b h0 hab hb hb', Result.andThen, Sem.run_pure]
  unfold Oper.wp
  rw [hrun]
  exact hc.newRow o.dst hd n (hn n (by simp)) i.size a.toNat b.toNat b.toNat (fun _ => z) _ e (0, 0) (madeCells v.cells (b.toNat * i.size)).toList [] (by simp) (by simp) (fun E _ => made_rel hs hr b.toNat) b.toNat b.toNat (by omega) (Nat.le_refl _) (by simp [madeCells]) rfl

/-- The bytes of a string, as elements. -/
def bAt (s : List UInt8) (j : Nat) : AV := .int .u8 ((s.getD j 0).toNat : Int)

theorem opr_strBytes {s d e : TypeId} {x : Operand} {l : List UInt8} {n : Nat} (ho : o.op = .convert s d x) (hx : ρ x = .str l) (hs : C.V.P.underlying s = some .string) (hdd : C.V.P.underlying d = some (.slice e)) (he : C.V.P.underlying e = some (.int .u8)) :
    OpR C o ρ η ⟨.osl n 1 0 l.length l.length, [(n, some (.arr 1 l.length (bAt l)))], [n]⟩ := by
  intro hd S hρ hη hn a w ⟨σ, hc⟩
  have e1 := hρ x (by simp [ho, Op.operands]) _ _ rfl (ev_rel hc x)
  rw [hx] at e1
  simp only [RelV, Rel, List.cons.injEq, and_true] at e1
  have hrun := run_bytes_of_string (P := C.V.P) w s d e ⟨l.toArray⟩ hs hdd he
  have hsz : (⟨l.toArray⟩ : ByteArray).size = l.length := by simp [ByteArray.size]
  rw [hsz] at hrun
  generalize hg : grownCap w l.length 0 e = g at hrun
  have hge : l.length ≤ g := by rw [← hg]; simp [grownCap, Question.cut]
  have hbl : (bytesRow ⟨l.toArray⟩ g).toList = l.map (fun b => Value.int .u8 b.toNat) ++ List.replicate (g - l.length) (.int .u8 0) := by
    simp [bytesRow, hsz]
  have hbs : (bytesRow ⟨l.toArray⟩ g).size = g := by rw [← Array.length_toList, hbl]; simp; omega
  have hrun' : (execOp a.eval o).run C.V.P w = .ok (.value (.slice (some ⟨w.heap.size, 0, none⟩) l.length g)) (w.drew.alloc (.cells (bytesRow ⟨l.toArray⟩ g) e ((bytesRow ⟨l.toArray⟩ g).size, (bytesRow ⟨l.toArray⟩ g).size + 1))) := by
    simp only [execOp, ho, e1, Sem.run_bind, hrun, Result.andThen, Sem.run_pure]
  unfold Oper.wp
  rw [hrun']
  have hc' : ConcS C S a w.drew σ := hc.world ((Below.refl _ w).drew)
  refine hc'.newRow o.dst hd n (hn n (by simp)) 1 l.length l.length l.length (bAt l) _ e _ (l.map (fun b => Value.int .u8 b.toNat)) _ hbl (fun o ho h => by simp only at h; omega) (fun E _ => ?_) l.length g (Nat.le_refl _) hge (by omega) rfl
  simp only [Rel]
  refine ⟨by simp, fun j hj => ⟨?_, ?_⟩⟩
  · simp only [bAt, Rel, Nat.mul_one]
    apply List.ext_getElem?
    intro k
    rcases Nat.eq_zero_or_pos k with rfl | hk
    · rw [List.getElem?_take_of_lt (by omega), List.getElem?_drop]; simp [hj, List.getD]
    · rw [List.getElem?_eq_none (by rw [List.length_take]; omega), List.getElem?_eq_none (by simp; omega)]
  · rw [List.length_take, List.length_drop, List.length_map]; omega

/-! ### Literals of rows -/
def bslB (ρ : Operand → AV) (z len : Nat) : List (Nat × Operand) → Bool
  | [] => true
  | (k, x) :: r => decide (k < len) && (ρ x).layable && (ρ x).sz == z && (ρ x).noN && bslB ρ z len r
def bslF (ρ : Operand → AV) : List (Nat × Operand) → (Nat → AV) → Nat → AV
  | [], f => f
  | (k, x) :: r, f => bslF ρ r fun j => if j = k then ρ x else f j

theorem fill_arr {E : RE} {ρ : Operand → AV} {ε : Operand → Value} {z len : Nat} : ∀ (parts : List (Nat × Operand)) (f : Nat → AV) (cs : Array Value), (∀ p, p ∈ parts → RelV E (ρ p.2) (ε p.2)) → Rel E (.arr z len f) cs.toList →
    bslB ρ z len parts = true → ∃ cs', Instr.fill (fun i => some (i * z, z)) cs (parts.map fun p => (p.1, ε p.2)) = some cs' ∧ Rel E (.arr z len (bslF ρ parts f)) cs'.toList
  | [], f, cs, _, h, _ => ⟨cs, by simp [Instr.fill], h⟩
  | (k, x) :: r, f, cs, hp, h, hb => by
    simp only [bslB, Bool.and_eq_true, decide_eq_true_eq, beq_iff_eq] at hb
    obtain ⟨⟨⟨⟨b1, b2⟩, b3⟩, b4⟩, b5⟩ := hb
    have hv := (hp (k, x) (by simp)).cells b2
    have hvl := Rel.length _ _ hv
    simp only [Array.length_toList] at hvl
    have hfk : (f k).sz = z := by
      simp only [Rel] at h
      have := h.2 k b1
      have h3 := Rel.length _ _ this.1
      omega
    have hlen : cs.size = len * z := by simp only [Rel] at h; simpa using h.1
    have hle : (k + 1) * z ≤ len * z := Nat.mul_le_mul_right _ b1
    rw [Nat.add_mul, Nat.one_mul] at hle
    have hset := rel_setP [k] (.arr z len f) cs.toList (f k) (ρ x) (ε x).cells.toList h rfl ⟨b1, trivial⟩ hv (by omega) (fun _ => b4)
    rw [List.map_cons, fill_step (off := k * z) (size := z) _ _ _ _ _ rfl (by show (ε x).cells.size = z; omega) (by omega)]
    obtain ⟨cs', h1, h2⟩ := fill_arr r (fun j => if j = k then ρ x else f j) (splice cs.toList (k * z) (ε x).cells.toList).toArray (fun p hp' => hp p (by simp [hp'])) (by simpa [setP, offP] using hset) b5
    exact ⟨cs', h1, by simpa [bslF] using h2⟩

theorem opr_buildSlice {t : TypeId} {len : Nat} {parts : Array (Nat × Operand)} {e : TypeId} {s by_ : Nat} {z : AV} {g : Nat → AV} {n : Nat} (ho : o.op = .buildSlice t len parts) (ht : elB C.V.P t = some (e, s, by_)) (hz : Zero C.V.P e z) (hl : len * s ≤ 2 ^ 24)
    (hb : bslB ρ s len parts.toList = true) (hg : (bslF ρ parts.toList fun _ => z) = g) : OpR C o ρ η ⟨.osl n s 0 len len, [(n, some (.arr s len g))], [n]⟩ := by
  subst hg
  intro hd S hρ hη hn a w ⟨σ, hc⟩
  obtain ⟨hu, i, hi, rfl, rfl⟩ := elB_spec ht
  obtain ⟨i', v, hi', hv, hs, hr⟩ := hz
  rw [hi] at hi'
  simp only [Option.some.injEq] at hi'
  subst hi'
  have hparts : ∀ E : RE, (C.RE S w σ).le E → ∀ p, p ∈ parts.toList → RelV E (ρ p.2) (a.eval p.2) := fun E hE p hp => by
    refine RelV.le hE _ _ (hρ p.2 ?_ _ _ rfl (ev_rel hc p.2))
    simp only [ho, Op.operands, List.mem_toArray]
    exact List.mem_map.2 ⟨p, hp, rfl⟩
  obtain ⟨cs', h1, h2⟩ := fill_arr (E := C.RE S w σ) (ε := a.eval) parts.toList (fun _ => z) (madeCells v.cells (len * i.size)) (hparts _ (RE.le.refl _)) (made_rel hs hr len) hb
  have hrun : (execOp a.eval o).run C.V.P w = .ok (.value (.slice (some ⟨w.heap.size, 0, none⟩) len len)) (w.alloc (.cells cs' e)) := by
    have hsz : (Go.sizeOf e).run C.V.P w = .ok i.size w := by simp [Go.sizeOf, typeInfo, hi]
    have hzv : (zeroValue e).run C.V.P w = .ok v w := by simp [zeroValue, typeInfo, hi, hv, Result.andThen]
    have hmap : (parts.map fun (p : Nat × Operand) => (p.1, a.eval p.2)).toList = parts.toList.map fun p => (p.1, a.eval p.2) := by simp
    simp only [execOp, ho, Instr.buildSlice, Sem.run_bind, run_underlying hu, Result.andThen, hsz, Sem.run_map]
    rw [if_neg (by omega)]
    by_cases h0 : len * i.size = 0
    · rw [if_pos h0]
      simp only [Sem.run_bind, Sem.run_pure, Result.andThen]
      have e0 : madeCells v.cells (len * i.size) = (Array.range (len * i.size)).map (fun x => (#[] : Array Value)[x % (#[] : Array Value).size]!) := by
        rw [h0]; simp [madeCells, show Array.range 0 = #[] from rfl]
      rw [e0] at h1
      rw [hmap, h1]
      simp [newRow, Result.andThen]
    · rw [if_neg h0]
      simp only [Sem.run_bind, hzv, Sem.run_pure, Result.andThen]
      rw [hmap]
      have e0 : madeCells v.cells (len * i.size) = (Array.range (len * i.size)).map (fun x => v.cells[x % v.cells.size]!) := rfl
      rw [e0] at h1
      rw [h1]
      simp [newRow, Result.andThen]
  unfold Oper.wp
  rw [hrun]
  have hlen : cs'.size = len * i.size := by simp only [Rel] at h2; simpa using h2.1
  exact hc.newRow o.dst hd n (hn n (by simp)) i.size len len len _ cs' e (0, 0) cs'.toList [] (by simp) (by simp) (fun E hE => Rel.le hE _ _ h2) len len (Nat.le_refl _) (Nat.le_refl _) (by omega) rfl
end
end Go.Fy
