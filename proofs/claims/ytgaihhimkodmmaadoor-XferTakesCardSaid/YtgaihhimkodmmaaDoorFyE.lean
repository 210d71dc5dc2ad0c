/- The engine, 5: loads, addresses, slices of what stays as it is (my own text; any program). -/
import Derived.Test.YtgaihhimkodmmaaDoorFyD
import Derived.Laws.IdiomStrings
set_option linter.unusedSimpArgs false
namespace Go.Fy
open Go.RowKit

def AV.isAgg : AV → Bool
  | .agg _ | .arr _ _ _ => true
  | _ => false

theorem add_eq {a : Addr} (hs : a.spot = none) (n : Nat) : a.add n = ⟨a.block, a.off + n, none⟩ := by
  cases a with
  | mk b o s =>
    simp only at hs; subst hs
    unfold Addr.add
    split
    · rename_i h; subst h; rfl
    · rfl

theorem Rel.toV' {E : RE} {x : AV} {ds : List Value} (h : Rel E x ds) (ha : x.isAgg = true) : RelV E x (.agg ds.toArray) := by
  cases x <;> simp [AV.isAgg] at ha
  · simp only [RelV]; exact ⟨ds.toArray, rfl, by simpa [Rel] using h⟩
  · simp only [RelV]; exact ⟨ds.toArray, rfl, by simpa using h⟩

theorem Rel.one_of {E : RE} {x : AV} {ds : List Value} (h : Rel E x ds) (ha : x.isAgg = false) : x.one = true ∧ ∃ v, ds = [v] := by
  have hl := Rel.length x ds h
  cases x <;> simp [AV.isAgg] at ha <;> simp [AV.one, AV.sz, Rel] at * <;> exact List.length_eq_one_iff.1 hl

theorem loadAt_run {E : RE} {t : TypeId} {a : Addr} {x : AV} {ds : List Value} (hs : a.spot = none) (h : Holds E.w a 0 ds) (hr : Rel E x ds) (ht : tyOf E.V.P t = some (x.isAgg, x.sz)) :
    ∃ u, (Instr.loadAt t (.pointer (some a))).run E.V.P E.w = .ok u E.w ∧ RelV E x u := by
  obtain ⟨h1, h2⟩ := tyOf_spec ht
  have hl := Rel.length x ds hr
  cases hx : x.isAgg with
  | true =>
    refine ⟨.agg ds.toArray, ?_, hr.toV' hx⟩
    have hc := run_loadCells_list (P := E.V.P) E.w a ds (fun j v hj => by rw [add_eq hs]; simpa using h j v hj)
    rw [hl] at hc
    simp only [Instr.loadAt, Instr.sureAddr, loadVar, Sem.run_bind, Sem.run_pure, Result.andThen, h1, h2, hx, if_true, hc]
  | false =>
    obtain ⟨h3, v, rfl⟩ := hr.one_of hx
    refine ⟨v, ?_, hr.toV h3⟩
    have hc : E.w.cell? a = some v := by
      have := h 0 v rfl
      rw [← this]; cases a; simp only at hs; subst hs; rfl
    simp only [Instr.loadAt, Instr.sureAddr, loadVar, Sem.run_bind, Sem.run_pure, Result.andThen, h1, h2, hx, if_false, Bool.false_eq_true, run_load, hc]

theorem fieldAt_run {P : Program} {w : World} {t : TypeId} {k off sz : Nat} {b : Bool} {a : Addr} (h : fldOf P t k = some (off, sz, b)) (h0 : (sz == 0) = false) :
    (Instr.fieldAt t (.pointer (some a)) k).run P w = .ok (.pointer (some (a.add off))) w := by
  unfold fldOf at h
  split at h
  · rename_i fs hu
    split at h
    · rename_i f hf
      split at h
      · rename_i d i hd hi
        simp only [Option.some.injEq, Prod.mk.injEq] at h
        obtain ⟨rfl, rfl, rfl⟩ := h
        have : i.size ≠ 0 := by simpa using h0
        simp [Instr.fieldAt, run_underlying hu, Result.andThen, hf, Instr.sureAddr, fieldPlace, sizeOf, typeInfo, hi, this]
      · cases h
    · cases h
  · cases h

theorem Holds.part {w : World} {a : Addr} {o n s : Nat} {ds : List Value} (h : Holds w a o ds) : Holds w a (o + n) ((ds.drop n).take s) := by
  intro k v hk
  have hlt : k < s := by
    rcases Nat.lt_or_ge k s with h' | h'
    · exact h'
    · rw [List.getElem?_eq_none (by rw [List.length_take]; omega)] at hk; cases hk
  rw [List.getElem?_take_of_lt hlt, List.getElem?_drop] at hk
  have := h _ v hk
  rw [show o + n + k = o + (n + k) by omega]
  exact this
theorem Holds.at {w : World} {a : Addr} (hs : a.spot = none) {o n : Nat} {ds : List Value} (h : Holds w a (n + o) ds) : Holds w (a.add n) o ds := by
  intro k v hk
  rw [add_eq hs]
  have := h k v hk
  simp only [Nat.add_assoc] at this ⊢
  exact this

theorem Blk.holds {E : RE} {b : Nat} {t x : AV} {p : List Nat} (h : Blk E b t) (hg : getP p t = some x) (hi : inP p t) :
    ∃ ds, Holds E.w ⟨b, offP p t, none⟩ 0 ds ∧ Rel E x ds ∧ ds.length = x.sz := by
  obtain ⟨c, ty, fr, cs, rest, h1, h2, h3, h4⟩ := h
  obtain ⟨h5, h6⟩ := rel_getP p t cs x h3 hg hi
  refine ⟨_, fun k v hk => ?_, h5, Rel.length _ _ h5⟩
  have hlt : k < x.sz := by
    rcases Nat.lt_or_ge k x.sz with h' | h'
    · exact h'
    · rw [List.getElem?_eq_none (by rw [List.length_take]; omega)] at hk; cases hk
  rw [List.getElem?_take_of_lt hlt, List.getElem?_drop] at hk
  have : c[offP p t + k]? = some v := by
    rw [← Array.getElem?_toList, h2, List.getElem?_append_left (by omega)]; exact hk
  simp only [World.cell?, h1, Option.isSome_none, Bool.false_eq_true, if_false, Nat.zero_add]
  exact this

section
variable {V : Env} {o : Oper} {ρ : Operand → AV} {η : Nat → Option AV}

theorem opp_loadF {t : TypeId} {x : Operand} {y : AV} (ho : o.op = .load t x) (hx : ρ x = .fptr y) (ht : tyOf V.P t = some (y.isAgg, y.sz)) : OpP V o ρ η y :=
  opp_val fun E ε hV _ h _ => by
    have h1 := h x (by simp [ho, Op.operands])
    rw [hx] at h1
    simp only [RelV, Rel, List.cons.injEq, and_true] at h1
    obtain ⟨b, hb, hs, hG, ds, hh, hr⟩ := h1
    subst hV
    obtain ⟨u, hu, hv⟩ := loadAt_run hs hh (Rel.le E.bare_le _ _ hr) ht
    exact ⟨u, by simp only [execOp, ho, hb, Sem.run_bind, hu, Result.andThen, Sem.run_pure], hv⟩

theorem opp_loadP {t : TypeId} {x : Operand} {i : Nat} {p : List Nat} {off : Nat} {tr y : AV} (ho : o.op = .load t x) (hx : ρ x = .ptr i p off) (hH : η i = some tr)
    (hg : getP p tr = some y) (hi : inP p tr) (hoff : offP p tr = off) (ht : tyOf V.P t = some (y.isAgg, y.sz)) : OpP V o ρ η y :=
  opp_val fun E ε hV _ h hB => by
    have h1 := h x (by simp [ho, Op.operands])
    rw [hx] at h1
    simp only [RelV, Rel, List.cons.injEq, and_true] at h1
    obtain ⟨-, h1⟩ := h1
    obtain ⟨ds, hh, hr, -⟩ := (hB i tr hH).2.holds hg hi
    subst hV
    rw [hoff] at hh
    obtain ⟨u, hu, hv⟩ := loadAt_run rfl hh hr ht
    exact ⟨u, by simp only [execOp, ho, h1, Sem.run_bind, hu, Result.andThen, Sem.run_pure], hv⟩

theorem opp_fieldF {t : TypeId} {x : Operand} {k : Nat} {l : List AV} {y : AV} {off sz : Nat} {b : Bool} (ho : o.op = .fieldAddr t x k) (hx : ρ x = .fptr (.agg l)) (hy : l[k]? = some y)
    (ht : fldOf V.P t k = some (off, sz, b)) (h0 : (sz == 0) = false) (hoff : AV.szL (l.take k) = off) : OpP V o ρ η (.fptr y) :=
  opp_val fun E ε hV _ h _ => by
    have h1 := h x (by simp [ho, Op.operands])
    rw [hx] at h1
    simp only [RelV, Rel, List.cons.injEq, and_true] at h1
    obtain ⟨a, ha, hs, hG, ds, hh, hr⟩ := h1
    refine ⟨.pointer (some (a.add off)), by simp only [execOp, ho, ha, Sem.run_bind, fieldAt_run ht h0, Result.andThen, Sem.run_pure], ?_⟩
    simp only [RelV, Rel, List.cons.injEq, and_true, Value.pointer.injEq, Option.some.injEq, exists_eq_left']
    obtain ⟨h3, h4⟩ := RelL.get l ds k y hr hy
    rw [hoff] at h3
    refine ⟨by rw [add_eq hs], by rw [add_eq hs]; exact hG, _, ?_, h3⟩
    exact Holds.at hs (by have := hh.part (n := off) (s := y.sz); simpa using this)

theorem opp_fieldP {t : TypeId} {x : Operand} {k : Nat} {i : Nat} {p : List Nat} {off : Nat} {fo sz : Nat} {b : Bool} (ho : o.op = .fieldAddr t x k) (hx : ρ x = .ptr i p off)
    (ht : fldOf V.P t k = some (fo, sz, b)) (h0 : (sz == 0) = false) : OpP V o ρ η (.ptr i (p ++ [k]) (off + fo)) :=
  opp_val fun E ε hV _ h _ => by
    have h1 := h x (by simp [ho, Op.operands])
    rw [hx] at h1
    simp only [RelV, Rel, List.cons.injEq, and_true] at h1
    obtain ⟨h1, h2⟩ := h1
    refine ⟨.pointer (some ((⟨E.σ i, off, none⟩ : Addr).add fo)), by simp only [execOp, ho, h2, Sem.run_bind, fieldAt_run ht h0, Result.andThen, Sem.run_pure], ?_⟩
    simp only [RelV, Rel, List.cons.injEq, and_true, Value.pointer.injEq, Option.some.injEq]
    exact ⟨h1, add_eq rfl fo⟩

/-- A field of a struct by value. -/
theorem opp_field {t : TypeId} {x : Operand} {k : Nat} {l : List AV} {y : AV} {off : Nat} (ho : o.op = .field t x k) (hx : ρ x = .agg l) (hy : l[k]? = some y)
    (ht : fldOf V.P t k = some (off, y.sz, y.isAgg)) (hoff : AV.szL (l.take k) = off) : OpP V o ρ η y :=
  opp_val fun E ε hV _ h _ => by
    have h1 := h x (by simp [ho, Op.operands])
    rw [hx] at h1
    simp only [RelV] at h1
    obtain ⟨cs, hc, hr⟩ := h1
    obtain ⟨h3, h4⟩ := RelL.get l cs.toList k y hr hy
    rw [hoff] at h3 h4
    unfold fldOf at ht
    split at ht
    · rename_i fs hu
      split at ht
      · rename_i f hf
        split at ht
        · rename_i d i hd hi
          simp only [Option.some.injEq, Prod.mk.injEq] at ht
          obtain ⟨e1, e2, e3⟩ := ht
          have hagg : (isAgg f.type).run V.P E.w = .ok y.isAgg E.w := by
            rw [← e3]; unfold isAgg; simp only [Sem.run_bind, run_underlying hd, Result.andThen]; cases d <;> rfl
          have hsz : (sizeOf f.type).run V.P E.w = .ok y.sz E.w := by simp [sizeOf, typeInfo, hi, e2]
          cases hy1 : y.isAgg with
          | true =>
            refine ⟨.agg (cs.extract off (off + y.sz)), ?_, ?_⟩
            · simp only [execOp, ho, hc, Instr.field, Sem.run_bind, run_underlying hu, Result.andThen, hf, asAgg, Sem.run_pure, part, hagg, hy1, if_true, hsz, e1]
            · have := h3.toV' hy1
              have e : cs.extract off (off + y.sz) = ((cs.toList.drop off).take y.sz).toArray := by
                apply Array.ext'
                simp [List.drop_take, List.extract_eq_take_drop]
              rw [e]; exact this
          | false =>
            obtain ⟨h5, v, h6⟩ := h3.one_of hy1
            rw [h6] at h3
            refine ⟨v, ?_, h3.toV h5⟩
            have hv : cs[off]? = some v := by
              have : ((cs.toList.drop off).take y.sz)[0]? = some v := by rw [h6]; rfl
              rw [List.getElem?_take_of_lt (by rcases Nat.eq_zero_or_pos y.sz with h0 | h0; · rw [h0] at h6; simp at h6
                                               · exact h0), List.getElem?_drop] at this
              simpa using this
            simp only [execOp, ho, hc, Instr.field, Sem.run_bind, run_underlying hu, Result.andThen, hf, asAgg, Sem.run_pure, part, hagg, hy1, if_false, Bool.false_eq_true, e1, hv]
        · cases ht
      · cases ht
    · cases ht

theorem opp_nilCheckP {x : Operand} {i : Nat} {p : List Nat} {off : Nat} (ho : o.op = .nilCheck x) (hx : ρ x = .ptr i p off) : OpP V o ρ η (.ptr i p off) :=
  opp_val fun E ε hV _ h _ => by
    have h1 := h x (by simp [ho, Op.operands])
    rw [hx] at h1
    refine ⟨ε x, ?_, h1⟩
    simp only [RelV, Rel, List.cons.injEq, and_true] at h1
    simp only [execOp, ho, h1.2, Sem.run_pure]
theorem opp_nilCheckF {x : Operand} {y : AV} (ho : o.op = .nilCheck x) (hx : ρ x = .fptr y) : OpP V o ρ η (.fptr y) :=
  opp_val fun E ε hV _ h _ => by
    have h1 := h x (by simp [ho, Op.operands])
    rw [hx] at h1
    refine ⟨ε x, ?_, h1⟩
    simp only [RelV, Rel, List.cons.injEq, and_true] at h1
    obtain ⟨b, hb, -⟩ := h1
    simp only [execOp, ho, hb, Sem.run_pure]

theorem opp_extract {x : Operand} {k : Nat} {l : List AV} {y : AV} (ho : o.op = .extract x k) (hx : ρ x = .tup l) (hy : l[k]? = some y) : OpP V o ρ η y :=
  opp_val fun E ε hV _ h _ => by
    have h1 := h x (by simp [ho, Op.operands])
    rw [hx] at h1
    simp only [RelV] at h1
    obtain ⟨vs, hv, hr⟩ := h1
    have key : ∀ (l : List AV) (vs : List Value) (k : Nat), RelT E l vs → l[k]? = some y → ∃ u, vs[k]? = some u ∧ RelV E y u := by
      intro l
      induction l with
      | nil => intro vs k _ h; simp at h
      | cons z l ih =>
        intro vs k hr hk
        simp only [RelT] at hr
        obtain ⟨c, d, rfl, h1, h2⟩ := hr
        cases k with
        | zero => simp at hk; subst hk; exact ⟨c, rfl, h1⟩
        | succ k => simpa using ih d k h2 (by simpa using hk)
    obtain ⟨u, h3, h4⟩ := key l vs.toList k hr hy
    have : vs[k]? = some u := by simpa using h3
    exact ⟨u, by simp only [execOp, ho, hv, Instr.extract, this, Sem.run_bind, Sem.run_pure, Result.andThen], h4⟩

theorem elOf_spec {P : Program} {t e : TypeId} {z : Nat} (h : elOf P t = some (e, z)) : P.underlying t = some (.slice e) ∧ ∀ w, (sizeOf e).run P w = .ok z w := by
  unfold elOf at h
  split at h
  · rename_i e' hu
    split at h
    · rename_i i hi
      simp only [Option.some.injEq, Prod.mk.injEq] at h
      obtain ⟨rfl, rfl⟩ := h
      exact ⟨hu, fun w => by simp [sizeOf, typeInfo, hi]⟩
    · cases h
  · cases h

theorem opp_indexSl {t : TypeId} {x i : Operand} {z : Nat} {nn : Bool} {n : Nat} {f : Nat → AV} {k : IntKind} {j : Int} {e : TypeId} (ho : o.op = .indexAddr t x i) (hx : ρ x = .sl z nn n f)
    (hi : ρ i = .int k j) (ht : elOf V.P t = some (e, z)) (h0 : 0 ≤ j) (hn : j < n) : OpP V o ρ η (.fptr (f j.toNat)) :=
  opp_val fun E ε hV _ h _ => by
    have h1 := h x (by simp [ho, Op.operands])
    have h2 := h i (by simp [ho, Op.operands])
    rw [hx] at h1; rw [hi] at h2
    simp only [RelV, Rel, List.cons.injEq, and_true] at h1 h2
    obtain ⟨a, cap, ha, hc, hnn, hnil, hA⟩ := h1
    obtain ⟨hu, hz⟩ := elOf_spec ht
    cases a with
    | none => have := hnil rfl; omega
    | some b =>
      obtain ⟨hs, hG, hel⟩ := hA b rfl
      have hs := hs (by omega)
      obtain ⟨ds, hl, hh, hr⟩ := hel j.toNat (by omega)
      refine ⟨.pointer (some (b.add (j.toNat * z))), ?_, ?_⟩
      · simp only [execOp, ho, ha, h2, Instr.indexAt, asIntOf_run, Sem.run_bind, run_underlying hu, Result.andThen, Sem.run_pure, if_pos (And.intro h0 hn), hz]
      · simp only [RelV, Rel, List.cons.injEq, and_true, Value.pointer.injEq, Option.some.injEq, exists_eq_left']
        exact ⟨by rw [add_eq hs], by rw [add_eq hs]; exact hG (by omega), ds, Holds.at hs hh, hr⟩

theorem opp_indexOsl {t : TypeId} {x i : Operand} {b z of n c : Nat} {k : IntKind} {j : Int} {e : TypeId} (ho : o.op = .indexAddr t x i) (hx : ρ x = .osl b z of n c) (hi : ρ i = .int k j)
    (ht : elOf V.P t = some (e, z)) (h0 : 0 ≤ j) (hn : j < n) : OpP V o ρ η (.ptr b [of + j.toNat] ((of + j.toNat) * z)) :=
  opp_val fun E ε hV _ h _ => by
    have h1 := h x (by simp [ho, Op.operands])
    have h2 := h i (by simp [ho, Op.operands])
    rw [hx] at h1; rw [hi] at h2
    simp only [RelV, Rel, List.cons.injEq, and_true] at h1 h2
    obtain ⟨hm, hc, o', c', ha, hcc, ho', -⟩ := h1
    obtain ⟨hu, hz⟩ := elOf_spec ht
    have ho'' := ho' (by omega)
    subst ho''
    refine ⟨.pointer (some ((⟨E.σ b, of * z, none⟩ : Addr).add (j.toNat * z))), ?_, ?_⟩
    · simp only [execOp, ho, ha, h2, Instr.indexAt, asIntOf_run, Sem.run_bind, run_underlying hu, Result.andThen, Sem.run_pure, if_pos (And.intro h0 hn), hz]
    · simp only [RelV, Rel, List.cons.injEq, and_true, Value.pointer.injEq, Option.some.injEq]
      refine ⟨hm, ?_⟩
      rw [add_eq rfl, Nat.add_mul]

theorem opp_indexOsl0 {t : TypeId} {x i : Operand} {b z n c : Nat} {k : IntKind} {j : Int} {e : TypeId} (ho : o.op = .indexAddr t x i) (hx : ρ x = .osl b z 0 n c) (hi : ρ i = .int k j)
    (ht : elOf V.P t = some (e, z)) (h0 : 0 ≤ j) (hn : j < n) : OpP V o ρ η (.ptr b [j.toNat] (j.toNat * z)) := by
  have := opp_indexOsl (η := η) ho hx hi ht h0 hn
  rwa [Nat.zero_add] at this

theorem arrOf_spec {P : Program} {t : TypeId} {n z : Nat} {b : Bool} (h : arrOf P t = some (n, z, b)) : ∃ e, P.underlying t = some (.array n e) ∧ (∀ w, (sizeOf e).run P w = .ok z w) ∧ (∀ w, (isAgg e).run P w = .ok b w) := by
  unfold arrOf at h
  split at h
  · rename_i n' e hu
    split at h
    · rename_i d i hd hi
      simp only [Option.some.injEq, Prod.mk.injEq] at h
      obtain ⟨rfl, rfl, rfl⟩ := h
      exact ⟨e, hu, fun w => by simp [sizeOf, typeInfo, hi], fun w => by unfold isAgg; simp only [Sem.run_bind, run_underlying hd, Result.andThen]; cases d <;> rfl⟩
    · cases h
  · cases h

theorem opp_indexArrP {t : TypeId} {x i : Operand} {b : Nat} {p : List Nat} {off : Nat} {k : IntKind} {j : Int} {n z : Nat} {g : Bool} (ho : o.op = .indexAddr t x i) (hx : ρ x = .ptr b p off)
    (hi : ρ i = .int k j) (ht : arrOf V.P t = some (n, z, g)) (h0 : 0 ≤ j) (hn : j < n) : OpP V o ρ η (.ptr b (p ++ [j.toNat]) (off + j.toNat * z)) :=
  opp_val fun E ε hV _ h _ => by
    have h1 := h x (by simp [ho, Op.operands])
    have h2 := h i (by simp [ho, Op.operands])
    rw [hx] at h1; rw [hi] at h2
    simp only [RelV, Rel, List.cons.injEq, and_true] at h1 h2
    obtain ⟨hm, ha⟩ := h1
    obtain ⟨e, hu, hz, -⟩ := arrOf_spec ht
    refine ⟨.pointer (some ((⟨E.σ b, off, none⟩ : Addr).add (j.toNat * z))), ?_, ?_⟩
    · simp only [execOp, ho, ha, h2, Instr.indexAt, asIntOf_run, Sem.run_bind, run_underlying hu, Result.andThen, Sem.run_pure, Instr.sureAddr, if_pos (And.intro h0 hn), hz]
    · simp only [RelV, Rel, List.cons.injEq, and_true, Value.pointer.injEq, Option.some.injEq]
      exact ⟨hm, add_eq rfl _⟩

theorem opp_indexArrF {t : TypeId} {x i : Operand} {z n : Nat} {f : Nat → AV} {k : IntKind} {j : Int} {g : Bool} (ho : o.op = .indexAddr t x i) (hx : ρ x = .fptr (.arr z n f))
    (hi : ρ i = .int k j) (ht : arrOf V.P t = some (n, z, g)) (h0 : 0 ≤ j) (hn : j < n) : OpP V o ρ η (.fptr (f j.toNat)) :=
  opp_val fun E ε hV _ h _ => by
    have h1 := h x (by simp [ho, Op.operands])
    have h2 := h i (by simp [ho, Op.operands])
    rw [hx] at h1; rw [hi] at h2
    simp only [RelV, Rel, List.cons.injEq, and_true] at h1 h2
    obtain ⟨a, ha, hs, hG, ds, hh, hl, hr⟩ := h1
    obtain ⟨e, hu, hz, -⟩ := arrOf_spec ht
    obtain ⟨h3, h4⟩ := hr j.toNat (by omega)
    refine ⟨.pointer (some (a.add (j.toNat * z))), ?_, ?_⟩
    · simp only [execOp, ho, ha, h2, Instr.indexAt, asIntOf_run, Sem.run_bind, run_underlying hu, Result.andThen, Sem.run_pure, Instr.sureAddr, if_pos (And.intro h0 hn), hz]
    · simp only [RelV, Rel, List.cons.injEq, and_true, Value.pointer.injEq, Option.some.injEq, exists_eq_left']
      exact ⟨by rw [add_eq hs], by rw [add_eq hs]; exact hG, _, Holds.at hs (by have := hh.part (n := j.toNat * z) (s := z); simpa using this), h3⟩

/-- s[l:h] of a slice that stays as it is. -/
theorem opp_sliceSl {x : Operand} {lo hi : Option Operand} {t : TypeId} {z : Nat} {nn : Bool} {n : Nat} {f : Nat → AV} {l h : Int} {e : TypeId} (ho : o.op = .slice t x lo hi none)
    (hx : ρ x = .sl z nn n f) (hlo : bound 0 (lo.map ρ) = some l) (hhi : bound n (hi.map ρ) = some h) (ht : elOf V.P t = some (e, z)) (h0 : 0 ≤ l) (h1 : l ≤ h) (h2 : h ≤ n) :
    OpP V o ρ η (.sl z nn (h - l).toNat fun j => f (l.toNat + j)) :=
  opp_val fun E ε _ _ hr _ => by
    have e1 := hr x (by simp [ho, Op.operands])
    rw [hx] at e1
    simp only [RelV, Rel, List.cons.injEq, and_true] at e1
    obtain ⟨a, cap, ha, hc, hnn, hnil, hA⟩ := e1
    have e2 : lo.map ε = none ∧ l = 0 ∨ ∃ k, lo.map ε = some (.int k l) := by
      cases lo with
      | none => simp [bound] at hlo; left; exact ⟨rfl, hlo.symm⟩
      | some y =>
        have e := hr y (by simp [ho, Op.operands])
        simp only [Option.map_some] at hlo ⊢
        cases hy : ρ y <;> simp only [hy, bound] at hlo <;> first | (cases hlo; done) | skip
        rw [hy] at e; simp only [RelV] at e
        right; simp only [Option.some.injEq] at hlo; subst hlo; exact ⟨_, by rw [e]⟩
    have e3 : hi.map ε = none ∧ h = n ∨ ∃ k, hi.map ε = some (.int k h) := by
      cases hi with
      | none => simp [bound] at hhi; left; exact ⟨rfl, hhi.symm⟩
      | some y =>
        have e := hr y (by simp [ho, Op.operands])
        simp only [Option.map_some] at hhi ⊢
        cases hy : ρ y <;> simp only [hy, bound] at hhi <;> first | (cases hhi; done) | skip
        rw [hy] at e; simp only [RelV] at e
        right; simp only [Option.some.injEq] at hhi; subst hhi; exact ⟨_, by rw [e]⟩
    obtain ⟨hu, hz⟩ := elOf_spec ht
    refine ⟨.slice (if cap = l.toNat then a else a.map (·.add (l.toNat * z))) (h.toNat - l.toNat) (cap - l.toNat), ?_, ?_⟩
    · simp only [execOp, ho, ha, Option.map_none, Instr.sliceAt, Instr.slice, Sem.run_bind, run_underlying hu, Result.andThen, Sem.run_pure,
        sliceBounds_run true n cap _ _ l h e2 e3 h0 h1 (by omega), hz]
    · simp only [RelV, Rel, List.cons.injEq, and_true, Value.slice.injEq]
      refine ⟨_, _, ⟨rfl, by omega, rfl⟩, by omega, ?_, ?_, ?_⟩
      · rw [hnn]; split <;> cases a <;> rfl
      · intro hn
        have : a = none := by revert hn; split <;> cases a <;> simp
        have := hnil this
        omega
      · intro b hb
        by_cases hcl : cap = l.toNat
        · rw [if_pos hcl] at hb
          obtain ⟨hs, hG, hel⟩ := hA b hb
          exact ⟨fun h3 => by omega, fun h3 => by omega, fun j hj => by omega⟩
        · rw [if_neg hcl] at hb
          cases a with
          | none => simp at hb
          | some a0 =>
            simp only [Option.map_some, Option.some.injEq] at hb
            subst hb
            obtain ⟨hs, hG, hel⟩ := hA a0 rfl
            refine ⟨fun h3 => by rw [add_eq (hs (by omega))], fun h3 => by rw [add_eq (hs (by omega))]; exact hG (by omega), fun j hj => ?_⟩
            obtain ⟨ds, h5, h6, h7⟩ := hel (l.toNat + j) (by omega)
            exact ⟨ds, h5, Holds.at (hs (by omega)) (by rw [← Nat.add_mul]; exact h6), h7⟩

/-- string(b). -/
theorem opp_bytesStr {x : Operand} {s d e : TypeId} {nn : Bool} {n : Nat} {f : Nat → AV} (ho : o.op = .convert s d x) (hx : ρ x = .sl 1 nn n f) (l : List UInt8) (hl : l.length = n)
    (hf : ∀ j, j < n → f j = .int .u8 ((l.getD j 0).toNat : Int)) (hs : V.P.underlying s = some (.slice e)) (he : V.P.underlying e = some (.int .u8))
    (hd : V.P.underlying d = some .string) : OpP V o ρ η (.str l) :=
  opp_val fun E ε _ _ hr _ => by
    have e1 := hr x (by simp [ho, Op.operands])
    rw [hx] at e1
    simp only [RelV, Rel, List.cons.injEq, and_true] at e1
    obtain ⟨a, cap, ha, hc, hnn, hnil, hA⟩ := e1
    refine ⟨.string ⟨l.toArray⟩, ?_, by simp [RelV, Rel]⟩
    cases a with
    | none =>
      have := hnil rfl
      have : l = [] := List.length_eq_zero_iff.1 (by omega)
      subst this
      simp only [execOp, ho, ha, Sem.run_bind, run_convert_bytes_string E.w s d e none n cap hs he hd, Conv.bytesToString, Sem.run_pure, Result.andThen]
      rfl
    | some b =>
      obtain ⟨hsp, hG, hel⟩ := hA b rfl
      have := run_convert_bytes_back (P := V.P) E.w s d e b cap l hs he hd (fun j hj => by
        obtain ⟨ds, h5, h6, h7⟩ := hel j (by omega)
        rw [hf j (by omega)] at h7
        simp only [Rel] at h7
        subst h7
        have := h6 0 _ rfl
        rw [add_eq (hsp (by omega))]
        simpa [List.getD, hj] using this)
      rw [hl] at this
      simp only [execOp, ho, ha, Sem.run_bind, this, Result.andThen, Sem.run_pure]
end
end Go.Fy
