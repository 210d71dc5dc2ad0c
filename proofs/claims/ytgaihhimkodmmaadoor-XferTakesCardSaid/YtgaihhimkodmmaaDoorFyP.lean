/- The engine, 16: append (my own text; any program). -/
import Derived.Test.YtgaihhimkodmmaaDoorFyO
set_option linter.unusedSimpArgs false
namespace Go.Fy
open Go.RowKit

/-- A row that is read: k elements of z cells. -/
inductive RowV (η : Nat → Option AV) : AV → Nat → Nat → (Nat → AV) → Option Nat → Prop
  | sl {z k : Nat} {nn : Bool} {g : Nat → AV} : RowV η (.sl z nn k g) z k g none
  | osl {i z of k c m : Nat} {f g : Nat → AV} (hi : η i = some (.arr z m f)) (hle : of + k ≤ m) (hg : ∀ j, j < k → g j = f (of + j)) : RowV η (.osl i z of k c) z k g (some i)

theorem RowV.osl0 {η : Nat → Option AV} {i z k c m : Nat} {f : Nat → AV} (hi : η i = some (.arr z m f)) (hle : k ≤ m) : RowV η (.osl i z 0 k c) z k f (some i) := .osl hi (by omega) (fun j _ => by rw [Nat.zero_add])

/-- Its cells, in one list. -/
theorem RowV.cells {η : Nat → Option AV} {E : RE} {x : AV} {z k : Nat} {g : Nat → AV} {v : Value} {i? : Option Nat} (h : RowV η x z k g i?) (hη : ∀ i y, η i = some y → i ∈ E.nm ∧ Blk E (E.σ i) y) (hv : RelV E x v) :
    ∃ a cap cs, v = .slice a k cap ∧ k ≤ cap ∧ (0 < k → ∃ b, a = some b ∧ b.spot = none ∧ (∀ i, i? = some i → b.block = E.σ i) ∧ (i? = none → E.G b.block)) ∧ (a = none → k = 0 ∧ cap = 0) ∧ (∀ b, a = some b → Holds E.w b 0 cs) ∧ Rel E.bare (.arr z k g) cs := by
  have key : ∀ (b : Addr) (g : Nat → AV), (∀ j, j < k → ∃ ds, ds.length = z ∧ Holds E.w b (j * z) ds ∧ Rel E.bare (g j) ds) → ∃ cs, Holds E.w b 0 cs ∧ Rel E.bare (.arr z k g) cs := by
    intro b g hj
    let cs : List Value := (List.range (k * z)).map fun i => (E.w.cell? ⟨b.block, b.off + i, none⟩).getD undef
    have hget : ∀ j ds, j < k → ds.length = z → Holds E.w b (j * z) ds → (cs.drop (j * z)).take z = ds := fun j ds hjk hl hh => by
      have hle : (j + 1) * z ≤ k * z := Nat.mul_le_mul_right _ hjk
      rw [Nat.add_mul, Nat.one_mul] at hle
      apply List.ext_getElem?
      intro t
      by_cases ht : t < z
      · rw [List.getElem?_take_of_lt ht, List.getElem?_drop]
        have hlt : j * z + t < k * z := by omega
        simp only [cs, List.getElem?_map, List.getElem?_range hlt, Option.map_some]
        have hd : ds[t]? = some ds[t] := List.getElem?_eq_getElem (by omega)
        rw [hh t _ hd, hd]; rfl
      · rw [List.getElem?_eq_none (by rw [List.length_take]; omega), List.getElem?_eq_none (by omega)]
    refine ⟨cs, fun t v ht => ?_, ?_⟩
    · have hlt : t < k * z := by have := (List.getElem?_eq_some_iff.1 ht).1; simpa [cs] using this
      have hz : 0 < z := by
        rcases Nat.eq_zero_or_pos z with h0 | h0
        · subst h0; simp at hlt
        · exact h0
      have hjk : t / z < k := Nat.div_lt_of_lt_mul (by rw [Nat.mul_comm]; exact hlt)
      obtain ⟨ds, h1, h2, h3⟩ := hj (t / z) hjk
      have hm := Nat.mod_lt t hz
      have hd := Nat.div_add_mod t z
      have e : ds[t % z]? = some v := by
        have := hget _ ds hjk h1 h2
        rw [← this, List.getElem?_take_of_lt hm, List.getElem?_drop, show t / z * z + t % z = t by rw [Nat.mul_comm]; exact hd]; exact ht
      have := h2 _ _ e
      rw [show t / z * z + t % z = t by rw [Nat.mul_comm]; exact hd] at this
      rw [Nat.zero_add]; exact this
    · simp only [Rel]
      refine ⟨by simp [cs], fun j hjk => ?_⟩
      obtain ⟨ds, h1, h2, h3⟩ := hj j hjk
      rw [hget j ds hjk h1 h2]
      exact ⟨h3, h1⟩
  cases h with
  | sl =>
    simp only [RelV, Rel, List.cons.injEq, and_true] at hv
    obtain ⟨a, cap, h1, h2, h3, h4, h5⟩ := hv
    cases a with
    | none =>
      obtain ⟨rfl, rfl⟩ := h4 rfl
      exact ⟨none, 0, [], h1, h2, fun h => absurd h (by omega), fun _ => ⟨rfl, rfl⟩, fun b hb => (by cases hb), by simp only [Rel]; exact ⟨by simp, fun j hj => absurd hj (by omega)⟩⟩
    | some b =>
      obtain ⟨h6, h7, h8⟩ := h5 b rfl
      obtain ⟨cs, h9, h10⟩ := key b g h8
      exact ⟨some b, cap, cs, h1, h2, fun hk => ⟨b, rfl, h6 hk, fun i hi => (by cases hi), fun _ => h7 hk⟩, fun h => (by cases h), fun b' hb => (by cases hb; exact h9), h10⟩
  | @osl i z of k c m f g hi hle hg =>
    simp only [RelV, Rel, List.cons.injEq, and_true] at hv
    obtain ⟨h1, h2, o, cap, h3, h4, h5, c', t', fr', h6, h7⟩ := hv
    obtain ⟨-, c1, t1, f1, cs1, rest, g1, g2, g3, g4⟩ := hη i _ hi
    rcases Nat.eq_zero_or_pos k with hk | hk
    · subst hk
      refine ⟨_, cap, [], h3, by omega, fun h => absurd h (by omega), (fun h => by cases h), fun b hb => ?_, by simp only [Rel]; exact ⟨by simp, fun j hj => absurd hj (by omega)⟩⟩
      intro t v ht; simp at ht
    · have ho := h5 (by omega)
      subst ho
      simp only [Rel] at g3
      obtain ⟨cs, h9, h10⟩ := key ⟨E.σ i, of * z, none⟩ g (fun j hj => by
        obtain ⟨q1, q2⟩ := g3.2 (of + j) (by omega)
        refine ⟨_, q2, fun t v ht => ?_, by rw [hg j hj]; exact q1⟩
        have ht' : t < z := by rw [← q2]; exact (List.getElem?_eq_some_iff.1 ht).1
        rw [List.getElem?_take_of_lt ht', List.getElem?_drop] at ht
        have hm1 := Nat.mul_le_mul_right z (show of + j + 1 ≤ m by omega)
        rw [Nat.add_mul (of + j) 1 z, Nat.one_mul] at hm1
        have hl : (of + j) * z + t < cs1.length := by rw [g3.1]; omega
        simp only [World.cell?, g1, Option.isSome_none, Bool.false_eq_true, if_false]
        rw [← Array.getElem?_toList, g2, show of * z + (j * z + t) = (of + j) * z + t by rw [Nat.add_mul]; omega, List.getElem?_append_left hl]
        exact ht)
      exact ⟨_, cap, cs, h3, by omega, fun _ => ⟨_, rfl, rfl, fun i' hi' => (by cases hi'; rfl), fun h => (by cases h)⟩, (fun h => by cases h), fun b hb => (by cases hb; exact h9), h10⟩

theorem firstCells_run {P : Program} {w : World} {z k cap : Nat} {a : Option Addr} {cs : List Value} (hl : cs.length = k * z) (h0 : a = none → k = 0) (hs : ∀ b, a = some b → 0 < k → b.spot = none) (hh : ∀ b, a = some b → Holds w b 0 cs) :
    (Builtin.firstCells z k (.slice a k cap)).run P w = .ok cs.toArray w := by
  cases a with
  | none =>
    have := h0 rfl; subst this
    have : cs = [] := List.length_eq_zero_iff.1 (by omega)
    subst this; rfl
  | some b =>
    refine run_firstCells_some w z k b k cap cs hl fun j v hj => ?_
    have hk : 0 < k := by
      rcases Nat.eq_zero_or_pos k with h | h
      · subst h; have := (List.getElem?_eq_some_iff.1 hj).1; omega
      · exact h
    rw [add_eq (hs b rfl hk)]
    have := hh b rfl j v hj
    rwa [Nat.zero_add] at this

theorem append_room {P : Program} {w w' : World} {t ty e : TypeId} {z by_ n cap k capx : Nat} {a : Addr} {ax : Option Addr} {cs : List Value} (ht : elB P t = some (e, z, by_)) (hn : n + k ≤ cap)
    (hx : (Builtin.firstCells z k (.slice ax k capx)).run P w = .ok cs.toArray w) (hst : (storeCells (a.add (n * z)) cs).run P w = .ok () w') :
    (Builtin.append_ #[t, t] ty #[.slice (some a) n cap, .slice ax k capx]).run P w = .ok (.slice (some a) (n + k) cap) w' := by
  obtain ⟨hu, i, hi, rfl, rfl⟩ := elB_spec ht
  simp [Builtin.append_, run_underlying hu, sizeOf, typeInfo, hi, Builtin.lenOf, hn, hx, hst, Result.andThen]

theorem append_grow {P : Program} {w : World} {t ty e : TypeId} {z by_ n cap k capx : Nat} {a ax : Option Addr} {olds news : List Value} {zi : Value} (ht : elB P t = some (e, z, by_))
    (hz : ∀ i, P.info? e = some i → i.zero = some zi) (hn : cap < n + k)
    (ho : (Builtin.firstCells z n (.slice a n cap)).run P w.drew = .ok olds.toArray w.drew)
    (hx : (Builtin.firstCells z k (.slice ax k capx)).run P w.drew = .ok news.toArray w.drew) (h63 : ((n + k : Nat) : Int) ≤ 9223372036854775807) (hfit : Builtin.nextslicecap (n + k) cap * by_ ≤ 281474976710656) :
    (Builtin.append_ #[t, t] ty #[.slice a n cap, .slice ax k capx]).run P w = .ok (.slice (some ⟨w.heap.size, 0, none⟩) (n + k) (grownCap w (n + k) cap e))
        (w.drew.alloc (.cells (olds.toArray ++ news.toArray ++ Builtin.zeroCells zi.cells (grownCap w (n + k) cap e - (n + k))) e)) := by
  obtain ⟨hu, i, hi, rfl, rfl⟩ := elB_spec ht
  have hn' : ¬ (n + k ≤ cap) := by omega
  have h63' : ¬ (9223372036854775807 < ((n : Int) + (k : Int))) := by omega
  have h48' : ¬ (281474976710656 < Builtin.nextslicecap (n + k) cap * i.bytes) := by omega
  simp [Builtin.append_, run_underlying hu, sizeOf, typeInfo, zeroValue, hi, hz i hi, Builtin.lenOf, hn', h63', h48', Question.forced, hx, ho, newRow, grownCap]
  congr 2
  apply Array.ext'
  simp

/-- Rows behind one another. -/
theorem arr_append {E : RE} {z n k : Nat} {f g : Nat → AV} {as bs : List Value} (h1 : Rel E (.arr z n f) as) (h2 : Rel E (.arr z k g) bs) : Rel E (.arr z (n + k) fun j => if j < n then f j else g (j - n)) (as ++ bs) := by
  simp only [Rel] at *
  refine ⟨by rw [List.length_append, h1.1, h2.1, Nat.add_mul], fun j hj => ?_⟩
  by_cases h : j < n
  · simp only [if_pos h]
    have hle : (j + 1) * z ≤ n * z := Nat.mul_le_mul_right _ h
    rw [Nat.add_mul, Nat.one_mul] at hle
    have e : ((as ++ bs).drop (j * z)).take z = (as.drop (j * z)).take z := by
      rw [List.drop_append_of_le_length (by omega), List.take_append_of_le_length (by rw [List.length_drop]; omega)]
    rw [e]; exact h1.2 j h
  · simp only [if_neg h]
    have e : ((as ++ bs).drop (j * z)).take z = (bs.drop ((j - n) * z)).take z := by
      have : j * z = as.length + (j - n) * z := by rw [h1.1, ← Nat.add_mul]; congr 1; omega
      rw [this, List.drop_length_add_append]
    rw [e]; exact h2.2 (j - n) (by omega)
theorem arr_take {E : RE} {z n m : Nat} {f : Nat → AV} {as : List Value} (h : Rel E (.arr z m f) as) (hn : n ≤ m) : Rel E (.arr z n f) (as.take (n * z)) := by
  simp only [Rel] at *
  have hm : n * z ≤ m * z := Nat.mul_le_mul_right _ hn
  refine ⟨by rw [List.length_take]; omega, fun j hj => ?_⟩
  have hle : (j + 1) * z ≤ n * z := Nat.mul_le_mul_right _ hj
  rw [Nat.add_mul, Nat.one_mul] at hle
  have e : ((as.take (n * z)).drop (j * z)).take z = (as.drop (j * z)).take z := by
    rw [List.drop_take, List.take_take, Nat.min_eq_left (by omega)]
  rw [e]; exact h.2 j (by omega)

/-- An own block is let go. -/
theorem ConcS.dropH {C : Ctx} {F : List (Nat × AV)} {H H' : List (Nat × Option AV)} {nm : List Nat} {a : Act} {w : World} {σ : Nat → Nat} (hc : ConcS C ⟨F, H, nm⟩ a w σ) (h : ∀ j x, getH H' j = some x → getH H j = some x) : ConcS C ⟨F, H', nm⟩ a w σ := by
  have hle : (C.RE ⟨F, H, nm⟩ w σ).le (C.RE ⟨F, H', nm⟩ w σ) := ⟨rfl, fun _ _ => rfl, fun _ h => h, fun b hb => by
    rcases hb with hb | ⟨h1, h2, h3⟩
    · exact .inl hb
    · exact .inr ⟨h1, h2, fun i x hi => h3 i x (h i x hi)⟩, fun _ _ _ _ h => h, fun _ c t fr hh => ⟨c, t, fr, hh, rfl⟩⟩
  refine ⟨hc.ok, hc.defers, hc.size, hc.kept, hc.σ0, fun i j x y hi hj => hc.inj i j x y (h i x hi) (h j y hj), fun i x hi => ?_, hc.env.le hle, fun t => RelV.le hle _ _ (hc.slot t)⟩
  obtain ⟨h1, h2, h3, h4⟩ := hc.blk i x (h i x hi)
  exact ⟨h1, h2, h3, h4.le hle rfl⟩

/-- An own block gets a new name. -/
theorem ConcS.renH {C : Ctx} {S : St} {a : Act} {w : World} {σ : Nat → Nat} (hc : ConcS C S a w σ) (i d : Nat) (x : AV) (hi : getH S.H i = some x) (hd : d ∉ S.nm) :
    ConcS C ⟨S.F, (d, some x) :: (i, none) :: S.H, d :: S.nm⟩ a w (fun j => if j = d then σ i else σ j) := by
  have hcase : ∀ j y, getH ((d, some x) :: (i, none) :: S.H) j = some y → (j = d ∧ y = x) ∨ (j ≠ d ∧ j ≠ i ∧ getH S.H j = some y) := fun j y hj => by
    rw [getH_cons, getH_cons] at hj
    by_cases e1 : d = j
    · rw [if_pos e1] at hj; simp only [Option.some.injEq] at hj; exact .inl ⟨e1.symm, hj.symm⟩
    · rw [if_neg e1] at hj
      by_cases e2 : i = j
      · rw [if_pos e2] at hj; cases hj
      · rw [if_neg e2] at hj; exact .inr ⟨Ne.symm e1, Ne.symm e2, hj⟩
  have hne : ∀ j, j ∈ S.nm → j ≠ d := fun j hj e => hd (e ▸ hj)
  have hle : (C.RE S w σ).le (C.RE ⟨S.F, (d, some x) :: (i, none) :: S.H, d :: S.nm⟩ w (fun j => if j = d then σ i else σ j)) := by
    refine ⟨rfl, fun j hj => if_neg (hne j hj), fun j hj => List.mem_cons_of_mem _ hj, fun b hb => ?_, fun _ _ _ _ h => h, fun _ c t fr hh => ⟨c, t, fr, hh, rfl⟩⟩
    rcases hb with hb | ⟨h1, h2, h3⟩
    · exact .inl hb
    · refine .inr ⟨h1, h2, fun j y hj => ?_⟩
      rcases hcase j y hj with ⟨rfl, rfl⟩ | ⟨e1, e2, e3⟩
      · simp only [if_true]; exact h3 i _ hi
      · simp only [if_neg e1]; exact h3 j y e3
  refine ⟨hc.ok, hc.defers, hc.size, hc.kept, fun j hj => ?_, fun j l y u hj hl he => ?_, fun j y hj => ?_, hc.env.le hle, fun t => RelV.le hle _ _ (hc.slot t)⟩
  · obtain ⟨h1, h2⟩ := hc.σ0 j hj
    exact ⟨by simp only [if_neg (hne j h2)]; exact h1, List.mem_cons_of_mem _ h2⟩
  · rcases hcase j y hj with ⟨rfl, rfl⟩ | ⟨e1, e2, e3⟩ <;> rcases hcase l u hl with ⟨rfl, rfl⟩ | ⟨d1, d2, d3⟩
    · rfl
    · simp only [if_true, if_neg d1] at he
      exact absurd (hc.inj i l _ _ hi d3 he) (Ne.symm d2)
    · simp only [if_true, if_neg e1] at he
      exact absurd (hc.inj j i _ _ e3 hi he) e2
    · simp only [if_neg e1, if_neg d1] at he
      exact hc.inj j l _ _ e3 d3 he
  · rcases hcase j y hj with ⟨rfl, rfl⟩ | ⟨e1, e2, e3⟩
    · obtain ⟨h1, h2, h3, h4⟩ := hc.blk i _ hi
      simp only [if_true]
      exact ⟨by simp, h2, h3, h4.le hle rfl⟩
    · obtain ⟨h1, h2, h3, h4⟩ := hc.blk j _ e3
      simp only [if_neg e1]
      exact ⟨List.mem_cons_of_mem _ h1, h2, h3, h4.le hle rfl⟩

section
variable {C : Ctx} {o : Oper} {ρ : Operand → AV} {η : Nat → Option AV}

theorem call_append_run {P : Program} {ε : Operand → Value} {s x : Operand} {t : TypeId} {v : Value} {w w' : World} (ho : o.op = .call { callee := .builtin .append, args := #[s, x], argTypes := #[t, t] })
    (h : (Builtin.append_ #[t, t] o.type #[ε s, ε x]).run P w = .ok v w') : (execOp ε o).run P w = .ok (.value v) w' := by
  simp [execOp, ho, resolve, invoke, builtin, h, Result.andThen]

/-- append(nil, x...): x isn't empty. -/
theorem opr_appendNil {s x : Operand} {t e : TypeId} {z by_ zs n0 : Nat} {f0 : Nat → AV} {zv : AV} {k : Nat} {g : Nat → AV} {j? : Option Nat} {d : Nat} (ho : o.op = .call { callee := .builtin .append, args := #[s, x], argTypes := #[t, t] })
    (hs : ρ s = .sl zs true n0 f0) (hx : RowV η (ρ x) z k g j?) (ht : elB C.V.P t = some (e, z, by_)) (hz : Zero C.V.P e zv) (hk : 0 < k) (h63 : k ≤ 9223372036854775807) (hb : k * by_ ≤ 140737488355328) :
    OpR C o ρ η ⟨.osl d z 0 k k, [(d, some (.arr z k g))], [d]⟩ := by
  intro hd S hρ hη hn a w ⟨σ, hc⟩
  have e1 := hρ s (by simp [ho, Op.operands, Call.operands]) _ _ rfl (ev_rel hc s)
  have e2 := hρ x (by simp [ho, Op.operands, Call.operands]) _ _ rfl (ev_rel hc x)
  rw [hs] at e1
  simp only [RelV, Rel, List.cons.injEq, and_true] at e1
  obtain ⟨a1, cap1, e1, -, hnn, hnil, -⟩ := e1
  have ha1 : a1 = none := by
    cases a1 with
    | none => rfl
    | some _ => cases hnn
  subst ha1
  obtain ⟨rfl, rfl⟩ := hnil rfl
  obtain ⟨ax, capx, cs, e2, hkc, hsome, hnone, hh, hr⟩ := hx.cells (fun i y hi => ⟨(hc.blk i y (hη i y hi)).1, (hc.blk i y (hη i y hi)).2.2.2⟩) e2
  have hl : cs.length = k * z := by simp only [Rel] at hr; exact hr.1
  obtain ⟨i, v, hi, hv, hsz, hrz⟩ := hz
  have hrun := append_grow (P := C.V.P) (w := w) (ty := o.type) (a := none) (ax := ax) (capx := capx) (n := 0) (k := k) (cap := 0) (olds := []) (news := cs) (zi := v) ht (fun i' hi' => by rw [hi] at hi'; cases hi'; exact hv) (by omega) rfl
    (firstCells_run hl (fun h => (hnone h).1) (fun b hb hk' => by obtain ⟨b', h1, h2, -⟩ := hsome hk'; rw [hb] at h1; cases h1; exact h2) (fun b hb => hh b hb)) (by omega) (by rw [Nat.zero_add]; exact growslice_fits hk hb)
  rw [Nat.zero_add] at hrun
  generalize hg : grownCap w k 0 e = gc at hrun
  have hge : k ≤ gc := by rw [← hg]; simp [grownCap, Question.cut]
  unfold Oper.wp
  rw [call_append_run ho (by rw [e1, e2]; exact hrun)]
  have hc' : ConcS C S a w.drew σ := hc.world ((Below.refl _ w).drew)
  obtain ⟨hu, i', hi', hz1, hz2⟩ := elB_spec ht
  rw [hi] at hi'; simp only [Option.some.injEq] at hi'; subst hi'
  refine hc'.newRow o.dst hd d (hn d (by simp)) z k k k g _ e (0, 0) cs (Builtin.zeroCells v.cells (gc - k)).toList (by simp) (by simp) (fun E hE => Rel.le (RE.le.trans ?_ hE) _ _ (Rel.le (RE.bare_le _) _ _ (by simpa [Rel] using hr))) k gc (Nat.le_refl _) hge ?_ rfl
  · exact ⟨rfl, fun _ _ => rfl, fun _ h => h, fun b hb => hb, fun _ _ _ _ h => h, fun _ c t fr hh => ⟨c, t, fr, hh, rfl⟩⟩
  · simp only [Array.size_append, List.size_toArray, List.length_nil, Nat.zero_add, size_zeroCells, hsz, hz1, hl, ← Nat.add_mul]
    rw [Nat.add_sub_cancel' hge]; exact Nat.le_refl _

/-- append(s, x...), s an own row from its block's beginning. -/
theorem opr_append {s x : Operand} {t e : TypeId} {z by_ : Nat} {zv : AV} {i n c m : Nat} {f : Nat → AV} {k : Nat} {g : Nat → AV} {j? : Option Nat} {d : Nat} (ho : o.op = .call { callee := .builtin .append, args := #[s, x], argTypes := #[t, t] })
    (hs : ρ s = .osl i z 0 n c) (hi : η i = some (.arr z m f)) (hnm : n ≤ m) (hx : RowV η (ρ x) z k g j?) (ht : elB C.V.P t = some (e, z, by_)) (hz : Zero C.V.P e zv) (h63 : n + k ≤ 9223372036854775807) (hb : (n + k) * by_ ≤ 140737488355328) :
    OpR C o ρ η ⟨.osl d z 0 (n + k) (n + k), [(d, some (.arr z (n + k) fun j => if j < n then f j else g (j - n))), (i, none)], [d]⟩ := by
  intro hd S hρ hη hn a w ⟨σ, hc⟩
  have e1 := hρ s (by simp [ho, Op.operands, Call.operands]) _ _ rfl (ev_rel hc s)
  have e2 := hρ x (by simp [ho, Op.operands, Call.operands]) _ _ rfl (ev_rel hc x)
  have hblk : ∀ i y, η i = some y → i ∈ (C.RE S w σ).nm ∧ Blk (C.RE S w σ) ((C.RE S w σ).σ i) y := fun i y hi => ⟨(hc.blk i y (hη i y hi)).1, (hc.blk i y (hη i y hi)).2.2.2⟩
  rw [hs] at e1
  obtain ⟨ao, capo, olds, eo, hno, hsomeo, hnoneo, hho, hro⟩ := (RowV.osl (η := η) (c := c) hi (show 0 + n ≤ m by omega) (fun j _ => by rw [Nat.zero_add] : ∀ j, j < n → f j = f (0 + j))).cells hblk e1
  obtain ⟨ax, capx, news, e2, hkc, hsome, hnone, hh, hr⟩ := hx.cells hblk e2
  have hlo : olds.length = n * z := by simp only [Rel] at hro; exact hro.1
  have hl : news.length = k * z := by simp only [Rel] at hr; exact hr.1
  simp only [RelV, Rel, List.cons.injEq, and_true] at e1
  obtain ⟨h1, h2, of, cap, e1, hcc, hof, cb, tb, fb, hheap, hcsz⟩ := e1
  rw [e1] at eo
  simp only [Value.slice.injEq] at eo
  obtain ⟨rfl, -, rfl⟩ := eo
  have hdn := hn d (by simp)
  rcases Nat.lt_or_ge cap (n + k) with hgrow | hroom
  · -- it grows
    obtain ⟨ii, v, hii, hv, hsz, hrz⟩ := hz
    have hrun := append_grow (P := C.V.P) (w := w) (ty := o.type) (a := some ⟨σ i, of, none⟩) (ax := ax) (capx := capx) (n := n) (k := k) (cap := cap) (olds := olds) (news := news) (zi := v) ht
      (fun i' hi' => by rw [hii] at hi'; cases hi'; exact hv) hgrow
      (firstCells_run hlo (fun h => (by cases h)) (fun b hb hk' => by cases hb; rfl) (fun b hb => hho b hb))
      (firstCells_run hl (fun h => (hnone h).1) (fun b hb hk' => by obtain ⟨b', h1, h2, -⟩ := hsome hk'; rw [hb] at h1; cases h1; exact h2) (fun b hb => hh b hb)) (by omega) (growslice_fits hgrow hb)
    generalize hg : grownCap w (n + k) cap e = gc at hrun
    have hge : n + k ≤ gc := by rw [← hg]; simp [grownCap, Question.cut]
    unfold Oper.wp
    rw [call_append_run ho (by rw [e1, e2]; exact hrun)]
    have hc' : ConcS C S a w.drew σ := hc.world ((Below.refl _ w).drew)
    obtain ⟨hu, i', hi', hz1, hz2⟩ := elB_spec ht
    rw [hii] at hi'; simp only [Option.some.injEq] at hi'; subst hi'
    have hnew := hc'.newRow o.dst hd d hdn z (n + k) (n + k) (n + k) (fun j => if j < n then f j else g (j - n)) (olds.toArray ++ news.toArray ++ Builtin.zeroCells v.cells (gc - (n + k))) e (0, 0) (olds ++ news) (Builtin.zeroCells v.cells (gc - (n + k))).toList (by simp) (by simp)
      (fun E hE => by
        have hle : (C.RE S w σ).le E := RE.le.trans (B := C.RE S w.drew σ) ⟨rfl, fun _ _ => rfl, fun _ h => h, fun b hb => hb, fun _ _ _ _ h => h, fun _ c t fr hh => ⟨c, t, fr, hh, rfl⟩⟩ hE
        exact Rel.le hle _ _ (Rel.le (RE.bare_le _) _ _ (arr_append (by simpa [Rel] using hro) (by simpa [Rel] using hr)))) (n + k) gc (Nat.le_refl _) hge
      (by
        simp only [Array.size_append, List.size_toArray, size_zeroCells, hsz, hz1, hl, hlo, ← Nat.add_mul]
        rw [Nat.add_sub_cancel' hge]; exact Nat.le_refl _) rfl
    obtain ⟨σ', hnew⟩ := hnew
    refine ⟨σ', hnew.dropH fun j x hj => ?_⟩
    have hj' : getH ((d, some (.arr z (n + k) fun j => if j < n then f j else g (j - n))) :: (i, none) :: S.H) j = some x := hj
    show getH ((d, some (.arr z (n + k) fun j => if j < n then f j else g (j - n))) :: S.H) j = some x
    rw [getH_cons, getH_cons] at hj'
    rw [getH_cons]
    by_cases q1 : d = j
    · rw [if_pos q1] at hj' ⊢; exact hj'
    · rw [if_neg q1] at hj' ⊢
      by_cases q2 : i = j
      · rw [if_pos q2] at hj'; cases hj'
      · rw [if_neg q2] at hj'; exact hj'
  · -- there is room
    obtain ⟨hm1, hb2, hb3, cc, tt, ff, cs0, rest0, k1, k2, k3, k4⟩ := hc.blk i _ (hη i _ hi)
    have k1' : w.heap[σ i]? = some (.cells cc tt ff) := k1
    have hheap' : w.heap[σ i]? = some (.cells cb tb fb) := hheap
    rw [k1'] at hheap'
    simp only [Option.some.injEq, Obj.cells.injEq] at hheap'
    obtain ⟨rfl, rfl, rfl⟩ := hheap'
    have hnz : n * z ≤ m * z := Nat.mul_le_mul_right _ hnm
    have hcap1 : (n + k) * z ≤ cc.size := Nat.le_trans (Nat.mul_le_mul_right _ hroom) (by simpa using hcsz)
    rw [Nat.add_mul] at hcap1
    have hof0 : 0 < n + k → of = 0 := fun h => by have := hof (by omega); simpa using this
    have hst : (storeCells ((⟨σ i, of, none⟩ : Addr).add (n * z)) news).run C.V.P w = .ok () (w.setCells (σ i) (n * z) news) := by
      rw [add_eq rfl]
      rcases Nat.eq_zero_or_pos (n + k) with h0 | h0
      · have hk0 : k = 0 := by omega
        have : news = [] := List.length_eq_zero_iff.1 (by rw [hl, hk0]; simp)
        subst this
        rfl
      · have hof' := hof0 h0
        subst hof'
        rw [Nat.zero_add]
        have := run_storeCells_cells (P := C.V.P) (σ i) (n * z) news 0 w (fun j hj => by
            rw [hl] at hj
            simp only [World.cell?, k1', Option.isSome_none, Bool.false_eq_true, if_false, Nat.add_zero]
            rw [Array.getElem?_eq_getElem (by omega)]; rfl)
          (fun j hj => by rw [hl] at hj; exact k4 _ (by omega)) (Rel.cells _ _ hr)
        simpa using this
    have hrun := append_room (P := C.V.P) (w := w) (ty := o.type) (a := ⟨σ i, of, none⟩) (ax := ax) (capx := capx) ht hroom
      (firstCells_run hl (fun h => (hnone h).1) (fun b hb hk' => by obtain ⟨b', h1, h2, -⟩ := hsome hk'; rw [hb] at h1; cases h1; exact h2) (fun b hb => hh b hb)) hst
    unfold Oper.wp
    rw [call_append_run ho (by rw [e1, e2]; exact hrun)]
    have hw := hc.write i (.arr z m f) (.arr z (n + k) fun j => if j < n then f j else g (j - n)) (hη i _ hi) (n * z) news (fun c' t' fr' hc' => by
        rw [k1'] at hc'; simp only [Option.some.injEq, Obj.cells.injEq] at hc'; obtain ⟨rfl, -, -⟩ := hc'; rw [hl]; omega)
      (fun E hE cs rest hcs ⟨c', t', fr', q1, q2⟩ => by
        have hlen : cs.length = m * z := by have := Rel.length _ _ hcs; simpa [AV.sz] using this
        refine ⟨cs.take (n * z) ++ news, (cs ++ rest).drop (n * z + news.length), ?_, ?_⟩
        · simp only [splice]
          rw [List.take_append_of_le_length (by omega)]
        · exact arr_append (arr_take hcs hnm) (Rel.le hE _ _ (Rel.le (RE.bare_le _) _ _ (by simpa [Rel] using hr))))
    have hren := hw.renH i d (.arr z (n + k) fun j => if j < n then f j else g (j - n)) (by simp [getH]) hdn
    have hdrop : ConcS C ⟨S.F, (d, some (.arr z (n + k) fun j => if j < n then f j else g (j - n))) :: (i, none) :: S.H, d :: S.nm⟩ a (w.setCells (σ i) (n * z) news) (fun j => if j = d then σ i else σ j) := by
      refine hren.dropH fun j x hj => ?_
      rw [getH_cons, getH_cons] at hj ⊢
      by_cases q1 : d = j
      · rw [if_pos q1] at hj ⊢; exact hj
      · rw [if_neg q1] at hj ⊢
        by_cases q2 : i = j
        · rw [if_pos q2] at hj; cases hj
        · rw [if_neg q2] at hj ⊢; rw [getH_cons, if_neg q2]; exact hj
    refine ⟨_, hdrop.put o.dst (.osl d z 0 (n + k) (n + k)) _ hd ?_⟩
    simp only [RelV, Rel, Ctx.RE]
    refine ⟨by simp, Nat.le_refl _, of, cap, by simp, hroom, fun h => ?_, ?_⟩
    · have := hof h; simpa using this
    · simp only [if_true]
      exact ⟨_, tt, ff, setCells_heap (σ i) news (n * z) w cc tt ff k1' (by rw [hl]; omega), by
        rw [List.size_toArray, splice_length (by rw [hl]; simp; omega)]; simpa using hcsz⟩
end
end Go.Fy
