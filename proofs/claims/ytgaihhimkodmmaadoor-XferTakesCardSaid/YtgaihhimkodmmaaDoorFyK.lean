/- The engine, 11: regions that draw their order: one walk in the order of the text serves every order (my own text; any program). -/
import Derived.Test.YtgaihhimkodmmaaDoorFyJ
import Derived.Still
set_option linter.unusedSimpArgs false
namespace Go.Fy
open Go.RowKit

/-- Two states that say the same. -/
structure St.Eqv (S S' : St) : Prop where
  F : ∀ t, getF S.F t = getF S'.F t
  H : ∀ n, getH S.H n = getH S'.H n
  nm : ∀ n, n ∈ S.nm ↔ n ∈ S'.nm
theorem St.Eqv.refl (S : St) : S.Eqv S := ⟨fun _ => rfl, fun _ => rfl, fun _ => Iff.rfl⟩
theorem St.Eqv.symm {S S' : St} (h : S.Eqv S') : S'.Eqv S := ⟨fun t => (h.F t).symm, fun n => (h.H n).symm, fun n => (h.nm n).symm⟩
theorem St.Eqv.trans {A B D : St} (h : A.Eqv B) (k : B.Eqv D) : A.Eqv D := ⟨fun t => (h.F t).trans (k.F t), fun n => (h.H n).trans (k.H n), fun n => (h.nm n).trans (k.nm n)⟩

theorem Conc.eqv {C : Ctx} {S S' : St} {a : Act} {w : World} (h : S.Eqv S') (hc : Conc C S a w) : Conc C S' a w := by
  obtain ⟨σ, hc⟩ := hc
  have hG : ∀ b, C.G S.H w σ b ↔ C.G S'.H w σ b := fun b => by
    constructor
    · rintro (hb | ⟨h1, h2, h3⟩)
      · exact .inl hb
      · exact .inr ⟨h1, h2, fun i x hi => h3 i x ((h.H i).trans hi)⟩
    · rintro (hb | ⟨h1, h2, h3⟩)
      · exact .inl hb
      · exact .inr ⟨h1, h2, fun i x hi => h3 i x ((h.H i).symm.trans hi)⟩
  have hle : (C.RE S w σ).le (C.RE S' w σ) := ⟨rfl, fun _ _ => rfl, fun i hi => (h.nm i).1 hi, fun b hb => (hG b).1 hb, fun _ _ _ _ h => h, fun _ c t fr hh => ⟨c, t, fr, hh, rfl⟩⟩
  refine ⟨σ, hc.ok, hc.defers, hc.size, hc.kept, fun i hi => ⟨(hc.σ0 i hi).1, (h.nm i).1 (hc.σ0 i hi).2⟩, fun i j x y hi hj => hc.inj i j x y ((h.H i).trans hi) ((h.H j).trans hj), fun i x hi => ?_, hc.env.le hle, fun t => ?_⟩
  · obtain ⟨h1, h2, h3, h4⟩ := hc.blk i x ((h.H i).trans hi)
    exact ⟨(h.nm i).1 h1, h2, h3, h4.le hle rfl⟩
  · rw [← h.F t]; exact RelV.le hle _ _ (hc.slot t)

/-- What an operation of such a region does, and which own blocks it looks at or writes. -/
structure Dt where
  v : AV
  Hd : List (Nat × Option AV)
  nd : List Nat
  t : Nat → Bool

def Dt.u (D : Dt) : Upd := ⟨D.v, D.Hd, D.nd⟩

/-- In every state that agrees on what the operation looks at. -/
def Valid (C : Ctx) (ops : Array Oper) (o : Oper) (S : St) (D : Dt) : Prop :=
  ∀ S2 : St, (∀ t, t ∈ o.looksAt ops → getF S2.F t = getF S.F t) → (∀ n, D.t n = true → getH S2.H n = getH S.H n) → (∀ n, n ∈ D.nd → n ∉ S2.nm) → (∀ d, o.dst = some d → d < C.N) →
    ∀ a w, Conc C S2 a w → if Region.wanted o (yielded ops a.tmps) then o.wp C.V.P a w (fun a' w' => Conc C (S2.upd o.dst D.u) a' w') (fun _ _ _ => False) else Conc C (S2.upd o.dst D.u) (a.put o.dst undef) w

theorem getH_append (A B : List (Nat × Option AV)) (n : Nat) : getH (A ++ B) n = if A.any (fun p => p.1 == n) then getH A n else getH B n := by
  induction A with
  | nil => simp
  | cons p A ih =>
    obtain ⟨d, v⟩ := p
    rw [List.cons_append, getH_cons, ih]
    by_cases e : d = n
    · simp [e, getH_cons]
    · simp only [List.any_cons, getH_cons, if_neg e]
      have : (d == n) = false := by simpa using e
      rw [this, Bool.false_or]

theorem upd_F (S : St) (dst : Option Tmp) (D : Dt) (t : Nat) : getF (S.upd dst D.u).F t = if dst = some t then D.v else getF S.F t := by
  cases dst with
  | none => simp [St.upd]
  | some d =>
    simp only [St.upd, Dt.u, getF_cons, Option.some.injEq]
theorem upd_H (S : St) (dst : Option Tmp) (D : Dt) (n : Nat) : getH (S.upd dst D.u).H n = if D.Hd.any (fun p => p.1 == n) then getH D.Hd n else getH S.H n := by
  simp only [St.upd, Dt.u, getH_append]
theorem upd_nm (S : St) (dst : Option Tmp) (D : Dt) (n : Nat) : n ∈ (S.upd dst D.u).nm ↔ n ∈ D.nd ∨ n ∈ S.nm := by
  simp only [St.upd, Dt.u, List.mem_append]

/-- Two operations that may change places. -/
structure Indep (ops : Array Oper) (oi oj : Oper) (Di Dj : Dt) : Prop where
  lij : ∀ d, oi.dst = some d → d ∉ oj.looksAt ops
  lji : ∀ d, oj.dst = some d → d ∉ oi.looksAt ops
  dd : ∀ d, oi.dst = some d → oj.dst ≠ some d
  hij : ∀ n, Di.Hd.any (fun p => p.1 == n) = true → Dj.t n = false ∧ Dj.Hd.any (fun p => p.1 == n) = false
  hji : ∀ n, Dj.Hd.any (fun p => p.1 == n) = true → Di.t n = false ∧ Di.Hd.any (fun p => p.1 == n) = false
  nn : ∀ n, n ∈ Di.nd → n ∉ Dj.nd

/-- What must hold of a state for an operation to do what its datum says. -/
structure Loc (ops : Array Oper) (o : Oper) (S : St) (D : Dt) (S2 : St) : Prop where
  F : ∀ t, t ∈ o.looksAt ops → getF S2.F t = getF S.F t
  H : ∀ n, D.t n = true → getH S2.H n = getH S.H n
  nm : ∀ n, n ∈ D.nd → n ∉ S2.nm

theorem Loc.eqv {ops : Array Oper} {o : Oper} {S : St} {D : Dt} {A B : St} (h : Loc ops o S D A) (e : A.Eqv B) : Loc ops o S D B :=
  ⟨fun t ht => (e.F t).symm.trans (h.F t ht), fun n hn => (e.H n).symm.trans (h.H n hn), fun n hn hm => h.nm n hn ((e.nm n).2 hm)⟩

theorem loc_after {ops : Array Oper} {oi oj : Oper} {Di Dj : Dt} {Sj : St} (hi : Indep ops oi oj Di Dj) {S : St} : Loc ops oj Sj Dj (S.upd oi.dst Di.u) ↔ (Loc ops oj Sj Dj S) := by
  constructor
  · intro h
    refine ⟨fun t ht => ?_, fun n hn => ?_, fun n hn hm => h.nm n hn ((upd_nm S oi.dst Di n).2 (.inr hm))⟩
    · have := h.F t ht
      rw [upd_F] at this
      rw [if_neg (fun e => hi.lij t e ht)] at this; exact this
    · have := h.H n hn
      rw [upd_H] at this
      rw [if_neg (fun e => by have := (hi.hij n e).1; rw [hn] at this; cases this)] at this; exact this
  · intro h
    refine ⟨fun t ht => ?_, fun n hn => ?_, fun n hn hm => ?_⟩
    · rw [upd_F, if_neg (fun e => hi.lij t e ht)]; exact h.F t ht
    · rw [upd_H, if_neg (fun e => by have := (hi.hij n e).1; rw [hn] at this; cases this)]; exact h.H n hn
    · rcases (upd_nm S oi.dst Di n).1 hm with h1 | h1
      · exact hi.nn n h1 hn
      · exact h.nm n hn h1

theorem upd_comm {ops : Array Oper} {oi oj : Oper} {Di Dj : Dt} (hi : Indep ops oi oj Di Dj) (S : St) : ((S.upd oi.dst Di.u).upd oj.dst Dj.u).Eqv ((S.upd oj.dst Dj.u).upd oi.dst Di.u) := by
  refine ⟨fun t => ?_, fun n => ?_, fun n => ?_⟩
  · simp only [upd_F]
    by_cases h1 : oi.dst = some t
    · rw [if_pos h1, if_neg (hi.dd t h1), if_pos h1]
    · by_cases h2 : oj.dst = some t
      · rw [if_pos h2, if_neg h1, if_pos h2]
      · rw [if_neg h2, if_neg h1, if_neg h1, if_neg h2]
  · simp only [upd_H]
    by_cases h1 : Di.Hd.any (fun p => p.1 == n) = true
    · rw [if_pos h1, (hi.hij n h1).2, if_neg (by simp), if_pos h1]
    · by_cases h2 : Dj.Hd.any (fun p => p.1 == n) = true
      · rw [if_pos h2, if_neg h1, if_pos h2]
      · rw [if_neg h2, if_neg h1, if_neg h1, if_neg h2]
  · simp only [upd_nm]
    constructor <;> (rintro (h | h | h) <;> simp [h])

theorem upd_eqv {A B : St} (h : A.Eqv B) (dst : Option Tmp) (D : Dt) : (A.upd dst D.u).Eqv (B.upd dst D.u) :=
  ⟨fun t => by simp only [upd_F, h.F], fun n => by simp only [upd_H, h.H], fun n => by simp only [upd_nm, h.nm]⟩

section
variable {C : Ctx} {ops : Array Oper}

/-- Whatever order is picked from here on. -/
def AnyD (C : Ctx) (ops : Array Oper) (dt : Nat → Dt) (Sd : Nat → St) (Q : St → Prop) : Nat → Array Bool → St → Prop
  | 0, listed, S => Region.ready .any ops listed = [] ∧ Q S
  | fuel + 1, listed, S => (Region.ready .any ops listed = [] → Q S) ∧
      ∀ i ∈ Region.ready .any ops listed, ∀ o, ops[i]? = some o → Loc ops o (Sd i) (dt i) S ∧ AnyD C ops dt Sd Q fuel (listed.setIfInBounds i true) (S.upd o.dst (dt i).u)

theorem AnyD.eqv {dt : Nat → Dt} {Sd : Nat → St} {Q : St → Prop} (hQ : ∀ A B, St.Eqv A B → Q A → Q B) : ∀ (fuel : Nat) (listed : Array Bool) (A B : St), A.Eqv B → AnyD C ops dt Sd Q fuel listed A → AnyD C ops dt Sd Q fuel listed B
  | 0, _, A, B, e, h => ⟨h.1, hQ A B e h.2⟩
  | fuel + 1, listed, A, B, e, h => ⟨fun h0 => hQ A B e (h.1 h0), fun i hi o ho => by
      obtain ⟨h1, h2⟩ := h.2 i hi o ho
      exact ⟨h1.eqv e, AnyD.eqv hQ fuel _ _ _ (upd_eqv e o.dst (dt i)) h2⟩⟩

theorem anyD_wp {dt : Nat → Dt} {Sd : Nat → St} {Q : Exit → St → Prop} (hd : ∀ (i : Nat) (o : Oper), ops[i]? = some o → ∀ d, o.dst = some d → d < C.N) (hv : ∀ (i : Nat) (o : Oper), ops[i]? = some o → Valid C ops o (Sd i) (dt i)) :
    ∀ (fuel : Nat) (listed : Array Bool) (S : St), AnyD C ops dt Sd (Q .normal) fuel listed S → ∀ a w, Conc C S a w → wpAny C.V.P .any ops (fun e a' w' => ∃ S', Conc C S' a' w' ∧ Q e S') fuel listed a w
  | 0, _, S, h, a, w, hc => ⟨h.1, S, hc, h.2⟩
  | fuel + 1, listed, S, h, a, w, hc => ⟨fun h0 => ⟨S, hc, h.1 h0⟩, fun i hi => by
      unfold wpOp
      cases ho : ops[i]? with
      | none => obtain ⟨_, o, h2, _⟩ := mem_ready.1 hi; rw [ho] at h2; cases h2
      | some o =>
        obtain ⟨h1, h2⟩ := h.2 i hi o ho
        have h3 := hv i o ho S h1.F h1.H h1.nm (hd i o ho) a w hc
        dsimp only
        split
        · rename_i hw
          rw [if_pos hw] at h3
          exact .inl (Oper.wp_nopanic _ (Oper.wp_mono (fun a' w' h4 => anyD_wp hd hv fuel _ _ h2 a' w' h4) h3))
        · rename_i hw
          rw [if_neg hw] at h3
          exact anyD_wp hd hv fuel _ _ h2 _ _ h3⟩

theorem anyD_first {dt : Nat → Dt} {Sd : Nat → St} {Q : St → Prop} (hQ : ∀ A B, St.Eqv A B → Q A → Q B) {i : Nat} {oi : Oper} (hi : ops[i]? = some oi) :
    ∀ (fuel : Nat) (listed : Array Bool) (S : St), (∀ j oj, ops[j]? = some oj → j ≠ i → listed.getD j true = false → (∀ e ∈ oj.after, Region.binds .any e = true → e.on ≠ i) → Indep ops oi oj (dt i) (dt j) ∧ Indep ops oj oi (dt j) (dt i)) →
      i ∈ Region.ready .any ops listed → Loc ops oi (Sd i) (dt i) S → AnyD C ops dt Sd Q fuel (listed.setIfInBounds i true) (S.upd oi.dst (dt i).u) → AnyD C ops dt Sd Q (fuel + 1) listed S := by
  intro fuel
  induction fuel with
  | zero =>
    intro listed S _ hr hl H
    refine ⟨fun h => (by rw [h] at hr; cases hr), fun j hj o ho => ?_⟩
    by_cases hji : j = i
    · subst hji; rw [hi] at ho; cases ho; exact ⟨hl, H⟩
    · have := ready_mono hj hji
      rw [H.1] at this; cases this
  | succ fuel ih =>
    intro listed S hfree hr hl H
    refine ⟨fun h => (by rw [h] at hr; cases hr), fun j hj oj hoj => ?_⟩
    by_cases hji : j = i
    · subst hji; rw [hi] at hoj; cases hoj; exact ⟨hl, H⟩
    · obtain ⟨h1, h2⟩ := H.2 j (ready_mono hj hji) oj hoj
      obtain ⟨hjun, oj', hoj', hall⟩ := mem_ready.1 hj
      rw [hoj] at hoj'; cases hoj'
      have hnot : ∀ e ∈ oj.after, Region.binds .any e = true → e.on ≠ i := fun e he hb heq => by
        have h1 := hall e he hb
        have h0 := (mem_ready.1 hr).1
        rw [heq] at h1
        rcases Nat.lt_or_ge i listed.size with h' | h'
        · simp [h'] at h0 h1; rw [h0] at h1; cases h1
        · simp [Array.getElem?_eq_none h'] at h1
      obtain ⟨hind, hind'⟩ := hfree j oj hoj hji hjun hnot
      refine ⟨(loc_after hind).1 h1, ?_⟩
      refine ih (listed.setIfInBounds j true) _ ?_ (ready_mono hr (Ne.symm hji)) ((loc_after hind').2 hl) ?_
      · intro k ok hk hki hun hno
        refine hfree k ok hk hki ?_ hno
        by_cases hjk : j = k
        · subst hjk; exact hjun
        · rw [getD_set_ne true hjk] at hun; exact hun
      · rw [Array.setIfInBounds_comm _ _ hji]
        exact AnyD.eqv hQ fuel _ _ _ (upd_comm hind S) h2

/-- The run in the order of the text. -/
def AD (C : Ctx) (ops : Array Oper) : List Oper → List Dt → (List Dt → St → Prop) → St → Prop
  | [], acc, K, S => K acc.reverse S
  | o :: r, acc, K, S => ∃ D : Dt, Valid C ops o S D ∧ (∀ n, n ∈ D.nd → n ∉ S.nm) ∧ AD C ops r (D :: acc) K (S.upd o.dst D.u)

def namesB (Hd : List (Nat × Option AV)) (t : Nat → Bool) (Hd' : List (Nat × Option AV)) : Bool := Hd.all fun p => !t p.1 && !(Hd'.any fun q => q.1 == p.1)
def indepB (ops : Array Oper) (oi oj : Oper) (Di Dj : Dt) : Bool :=
  oi.apart ops oj && namesB Di.Hd Dj.t Dj.Hd && namesB Dj.Hd Di.t Di.Hd && Di.nd.all (fun n => !Dj.nd.contains n)
def waitsB (o : Oper) (i : Nat) : Bool := o.after.any fun e => Region.binds .any e && e.on == i
/-- Each operation against those behind it. -/
def pairsB (ops : Array Oper) : Nat → List (Oper × Dt) → Bool
  | _, [] => true
  | k, (o, D) :: r => (r.all fun q => waitsB q.1 k || indepB ops o q.1 D q.2) && pairsB ops (k + 1) r

theorem indepB_spec {oi oj : Oper} {Di Dj : Dt} (h : indepB ops oi oj Di Dj = true) : Indep ops oi oj Di Dj ∧ Indep ops oj oi Dj Di := by
  simp only [indepB, Bool.and_eq_true] at h
  obtain ⟨⟨⟨h1, h2⟩, h3⟩, h4⟩ := h
  obtain ⟨a1, a2, a3⟩ := Oper.apart_spec h1
  have key : ∀ (A : List (Nat × Option AV)) (t : Nat → Bool) (B : List (Nat × Option AV)), namesB A t B = true → ∀ n, A.any (fun p => p.1 == n) = true → t n = false ∧ B.any (fun p => p.1 == n) = false := by
    intro A t B hA n hn
    obtain ⟨p, hp, he⟩ := List.any_eq_true.1 hn
    have := List.all_eq_true.1 hA p hp
    simp only [Bool.and_eq_true, Bool.not_eq_true'] at this
    have e : p.1 = n := by simpa using he
    rw [← e]; exact this
  have hnn : ∀ n, n ∈ Di.nd → n ∉ Dj.nd := fun n hn => by
    have := List.all_eq_true.1 h4 n hn; simpa using this
  exact ⟨⟨a1, a3, a2, key _ _ _ h2, key _ _ _ h3, hnn⟩, ⟨a3, a1, fun d hd hd' => a2 d hd' hd, key _ _ _ h3, key _ _ _ h2, fun n hn hn' => hnn n hn' hn⟩⟩

theorem Oper.wp_post {P : Program} {o : Oper} {a : Act} {w : World} {K : Act → World → Prop} {Q Q' : Exit → Act → World → Prop} (hq : ∀ e a w, Q e a w → Q' e a w) (h : o.wp P a w K Q) : o.wp P a w K Q' := by
  unfold Oper.wp at *
  generalize (execOp a.eval o).run P w = r at *
  cases r with
  | ok n w' =>
    cases n <;> simp only [Oper.upon] at h ⊢ <;> first
      | exact h
      | exact Calls.mono h (fun e w'' he => by cases e <;> first | exact he | exact hq _ _ _ he | (obtain ⟨a0, w0, k⟩ := he; exact ⟨a0, w0, hq _ _ _ k⟩))
  | halt x w' => cases x <;> simp only [Oper.upon] at h ⊢ <;> first | exact hq _ _ _ h | exact h

theorem wpAny_any {dt : Nat → Dt} {Sd : Nat → St} {Q : St → Prop} (hQ : ∀ A B, St.Eqv A B → Q A → Q B) :
    ∀ (l : List Oper) (ds : List Dt) (k : Nat) (listed : Array Bool) (S : St), l.length = ds.length → (∀ j, l[j]? = ops[k + j]?) → (∀ j D, ds[j]? = some D → dt (k + j) = D) →
      Region.lexFrom .any ops l.length k listed = true → pairsB ops k (l.zip ds) = true → (∀ j oj, ops[j]? = some oj → listed.getD j true = false → k ≤ j) →
      (∃ Sf, Q Sf ∧ ∀ (run : List (Oper × Dt)), run = l.zip ds → ∃ St' : St, St'.Eqv Sf ∧ St' = run.foldl (fun S p => S.upd p.1.dst p.2.u) S) →
      (∀ j oj, l[j]? = some oj → Loc ops oj (Sd (k + j)) (dt (k + j)) (((l.zip ds).take j).foldl (fun S p => S.upd p.1.dst p.2.u) S)) →
      AnyD C ops dt Sd Q l.length listed S
  | [], ds, k, listed, S, hlen, hl, hdt, hB, hP, hun, ⟨Sf, hq, hrun⟩, _ => by
    obtain ⟨St', e, he⟩ := hrun [] (by cases ds <;> simp at hlen ⊢)
    simp only [List.foldl_nil] at he
    subst he
    exact ⟨by simpa [Region.lexFrom] using hB, hQ _ _ e.symm hq⟩
  | o :: l, [], k, listed, S, hlen, _, _, _, _, _, _, _ => by simp at hlen
  | o :: l, D :: ds, k, listed, S, hlen, hl, hdt, hB, hP, hun, ⟨Sf, hq, hrun⟩, hloc => by
    have h0 : ops[k]? = some o := by simpa using (hl 0).symm
    have hD : dt k = D := by simpa using hdt 0 D rfl
    simp only [List.length_cons, Region.lexFrom, Bool.and_eq_true] at hB
    obtain ⟨⟨hr, hf⟩, hB'⟩ := hB
    have hr' : k ∈ Region.ready .any ops listed := by simpa using hr
    simp only [List.zip_cons_cons, pairsB, Bool.and_eq_true] at hP
    refine anyD_first hQ h0 l.length listed S ?_ hr' ?_ ?_
    · intro j oj hoj hjk hjun hno
      have hle := hun j oj hoj hjun
      obtain ⟨m, rfl⟩ : ∃ m, j = k + 1 + m := ⟨j - (k + 1), by omega⟩
      have hm : l[m]? = some oj := by
        have := hl (m + 1)
        rw [show k + (m + 1) = k + 1 + m by omega, hoj] at this
        simpa using this
      have hml : m < ds.length := by
        have := (List.getElem?_eq_some_iff.1 hm).1
        simp at hlen; omega
      have hdm : dt (k + 1 + m) = ds[m] := by
        have := hdt (m + 1) ds[m] (by simp [hml])
        rw [show k + (m + 1) = k + 1 + m by omega] at this; exact this
      have hz : (oj, ds[m]) ∈ l.zip ds := by
        rw [List.mem_iff_getElem?]
        exact ⟨m, by rw [List.getElem?_zip_eq_some]; exact ⟨hm, by simp [hml]⟩⟩
      have hpair := List.all_eq_true.1 hP.1 _ hz
      rw [hD, hdm]
      simp only [Bool.or_eq_true] at hpair
      rcases hpair with hw | hi
      · exfalso
        unfold waitsB at hw
        rw [← Array.any_toList] at hw
        obtain ⟨e, he, hb⟩ := List.any_eq_true.1 hw
        simp only [Bool.and_eq_true] at hb
        exact hno e (by simpa using he) hb.1 (by simpa using hb.2)
      · exact indepB_spec hi
    · have := hloc 0 o rfl
      simpa using this
    · rw [hD]
      refine wpAny_any hQ l ds (k + 1) _ _ (by simpa using hlen) (fun j => by have := hl (j + 1); simpa [Nat.add_assoc, Nat.add_comm 1 j] using this)
        (fun j D' hj => by have := hdt (j + 1) D' (by simpa using hj); rwa [show k + (j + 1) = k + 1 + j by omega] at this) hB' hP.2 ?_ ⟨Sf, hq, fun run hrun' => ?_⟩ (fun j oj hj => ?_)
      · intro j oj hoj hjun
        by_cases e : k = j
        · subst e
          have hmem := (mem_ready.1 hr').1
          rcases Nat.lt_or_ge k listed.size with h' | h'
          · rw [show (listed.setIfInBounds k true).getD k true = true from by simp [Array.getD, h']] at hjun; cases hjun
          · have hk := (Array.getElem?_eq_none h' : listed[k]? = none)
            simp [Array.getD, Nat.not_lt.2 h'] at hmem
        · rw [getD_set_ne true e] at hjun
          have := hun j oj hoj hjun
          omega
      · obtain ⟨St', h1, h2⟩ := hrun ((o, D) :: run) (by rw [hrun', List.zip_cons_cons])
        exact ⟨St', h1, by rw [h2, List.foldl_cons]⟩
      · have := hloc (j + 1) oj (by simpa using hj)
        rw [show k + (j + 1) = k + 1 + j by omega] at this
        simpa using this

theorem ad_data : ∀ (l : List Oper) (acc : List Dt) (K : List Dt → St → Prop) (S : St), AD C ops l acc K S →
    ∃ ds : List Dt, ds.length = l.length ∧ K (acc.reverse ++ ds) ((l.zip ds).foldl (fun S p => S.upd p.1.dst p.2.u) S) ∧
      ∀ j o, l[j]? = some o → ∃ D, ds[j]? = some D ∧ Valid C ops o (((l.zip ds).take j).foldl (fun S p => S.upd p.1.dst p.2.u) S) D ∧ ∀ n, n ∈ D.nd → n ∉ (((l.zip ds).take j).foldl (fun S p => S.upd p.1.dst p.2.u) S).nm
  | [], acc, K, S, h => ⟨[], rfl, by simpa [AD] using h, fun j o hj => by simp at hj⟩
  | o :: l, acc, K, S, ⟨D, hv, hn, h⟩ => by
    obtain ⟨ds, h1, h2, h3⟩ := ad_data l (D :: acc) K _ h
    refine ⟨D :: ds, by simp [h1], by simpa using h2, fun j o' hj => ?_⟩
    cases j with
    | zero => simp at hj; subst hj; exact ⟨D, rfl, by simpa using hv, by simpa using hn⟩
    | succ j =>
      obtain ⟨D', h4, h5, h6⟩ := h3 j o' (by simpa using hj)
      exact ⟨D', by simpa using h4, by simpa using h5, by simpa using h6⟩

/-- A region that draws its order. -/
theorem awp_draw {Q : Exit → St → Prop} {S : St} {id : Nat} {l : List Oper} (hm : C.V.P.follows .mixedOrders = true) (hd : (l.all fun o => o.dst.all (· < C.N)) = true) (hB : Region.lexB .any l.toArray = true)
    (h : AD C l.toArray l [] (fun ds S' => pairsB l.toArray 0 (l.zip ds) = true ∧ Q .normal S') S) : AWP C (.region id l.toArray true) Q S := by
  intro a w ⟨σ, hc⟩
  obtain ⟨ds, h1, ⟨hp, hq⟩, h3⟩ := ad_data l [] _ S h
  simp only [List.reverse_nil, List.nil_append] at hp hq
  simp only [Region.lexB, Bool.and_eq_true] at hB
  have hc' : Conc C S a { w with drawn := w.drawn + 1 } := ⟨σ, hc.world ((Below.refl _ w).drew)⟩
  refine wp_region_any hm ?_
  let run : Nat → St := fun j => ((l.zip ds).take j).foldl (fun S p => S.upd p.1.dst p.2.u) S
  let dt : Nat → Dt := fun j => (ds[j]?).getD ⟨.top, [], [], fun _ => false⟩
  have hdst : ∀ (i : Nat) (o : Oper), l.toArray[i]? = some o → ∀ d, o.dst = some d → d < C.N := fun i o ho d he => by
    have := List.all_eq_true.1 hd o (List.mem_of_getElem? (by simpa using ho))
    simpa [he] using this
  have hval : ∀ (i : Nat) (o : Oper), l.toArray[i]? = some o → Valid C l.toArray o (run i) (dt i) := fun i o ho => by
    obtain ⟨D, h4, h5, -⟩ := h3 i o (by simpa using ho)
    have : dt i = D := by simp [dt, h4]
    rw [this]; exact h5
  have hany : AnyD C l.toArray dt run (fun S' => ∃ S'', S'.Eqv S'' ∧ Q .normal S'') l.length (Array.replicate l.length false) S := by
    refine wpAny_any (Q := fun S' => ∃ S'', S'.Eqv S'' ∧ Q .normal S'') (fun A B e ⟨S'', e1, e2⟩ => ⟨S'', e.symm.trans e1, e2⟩) l ds 0 _ S h1.symm (fun j => by simp) (fun j D hj => by simp [dt, hj])
      (by simpa using hB.2) hp (fun j oj _ _ => Nat.zero_le j) ⟨_, ⟨_, St.Eqv.refl _, hq⟩, fun r hr => ⟨_, St.Eqv.refl _, by rw [hr]⟩⟩ (fun j oj hj => ?_)
    obtain ⟨D, h4, -, h6⟩ := h3 j oj hj
    rw [Nat.zero_add]
    have : dt j = D := by simp [dt, h4]
    rw [this]
    exact ⟨fun _ _ => rfl, fun _ _ => rfl, h6⟩
  have hw := anyD_wp (Q := fun e S' => ∃ S'', S'.Eqv S'' ∧ Q e S'') hdst hval l.length _ S hany a _ hc'
  have hfin : ∀ (e : Exit) (a' : Act) (w' : World), (∃ S', Conc C S' a' w' ∧ ∃ S'', S'.Eqv S'' ∧ Q e S'') → ∃ S', Conc C S' a' w' ∧ Q e S' := fun e a' w' ⟨S', k1, S'', k2, k3⟩ => ⟨S'', Conc.eqv k2 k1, k3⟩
  have hmono : ∀ (fuel : Nat) (listed : Array Bool) (a : Act) (w : World), wpAny C.V.P .any l.toArray (fun e a' w' => ∃ S', Conc C S' a' w' ∧ ∃ S'', S'.Eqv S'' ∧ Q e S'') fuel listed a w →
      wpAny C.V.P .any l.toArray (fun e a' w' => ∃ S', Conc C S' a' w' ∧ Q e S') fuel listed a w := by
    intro fuel
    induction fuel with
    | zero => intro listed a w hh; exact ⟨hh.1, hfin _ _ _ hh.2⟩
    | succ fuel ih =>
      intro listed a w hh
      refine ⟨fun h0 => hfin _ _ _ (hh.1 h0), fun i hi => ?_⟩
      have := hh.2 i hi
      unfold wpOp at this ⊢
      cases ho : l.toArray[i]? with
      | none => rw [ho] at this; exact ih _ _ _ this
      | some o =>
        rw [ho] at this
        dsimp only at this ⊢
        split
        · rename_i hw'
          rw [if_pos hw'] at this
          rcases this with h4 | ⟨hx0, a0, w0, hx1⟩
          · left
            refine Oper.wp_post (fun e a' w' hh => hfin e a' w' hh) (Oper.wp_mono (fun a' w' hh => ih _ _ _ hh) h4)
          · right
            exact ⟨hx0, a0, w0, hfin _ _ _ hx1⟩
        · rename_i hw'
          rw [if_neg hw'] at this
          exact ih _ _ _ this
  simpa using hmono _ _ _ _ hw
end

section
variable {C : Ctx} {ops : Array Oper} {o : Oper} {r : List Oper} {acc : List Dt} {K : List Dt → St → Prop} {F : List (Nat × AV)} {H : List (Nat × Option AV)} {nm : List Nat}

def onlyT (t : Nat → Bool) (H : List (Nat × Option AV)) (n : Nat) : Option AV := bif t n then getH H n else none

theorem mem_looks {ops : Array Oper} {o : Oper} {t : Tmp} (h : Operand.tmp t ∈ o.op.operands) : t ∈ o.looksAt ops := by
  unfold Oper.looksAt
  refine List.mem_append.2 (.inl (List.mem_filterMap.2 ⟨.tmp t, by simpa using h, rfl⟩))

theorem ev_looks {V : Env} {F F2 : List (Nat × AV)} {ops : Array Oper} {o : Oper} (h : ∀ t, t ∈ o.looksAt ops → getF F2 t = getF F t) {x : Operand} (hx : x ∈ o.op.operands) : ev V F2 x = ev V F x := by
  cases x with
  | tmp t => exact h t (mem_looks hx)
  | _ => rfl

theorem valid_r {v : AV} {Hd : List (Nat × Option AV)} {nd : List Nat} (t : Nat → Bool) (h : OpR C o (ev C.V F) (onlyT t H) ⟨v, Hd, nd⟩) (hg : o.guard = none) : Valid C ops o ⟨F, H, nm⟩ ⟨v, Hd, nd, t⟩ := by
  intro S2 hF hH hn hd a w hc
  rw [if_pos (by simp [Region.wanted, hg])]
  exact h hd S2 (fun x hx => by rw [ev_looks hF hx]; exact Sub.refl _ _) (fun i y hy => by
    unfold onlyT at hy
    cases ht : t i with
    | true => rw [ht] at hy; rw [hH i ht]; exact hy
    | false => rw [ht] at hy; cases hy) hn a w hc

theorem dR {d : Nat} {v : AV} {Hd : List (Nat × Option AV)} {nd : List Nat} (t : Nat → Bool) (h : OpR C o (ev C.V F) (onlyT t H) ⟨v, Hd, nd⟩) (hd : o.dst = some d) (hg : o.guard = none) (hn : (nd.all fun n => !nm.contains n) = true)
    (k : AD C ops r (⟨v, Hd, nd, t⟩ :: acc) K ⟨(d, v) :: F, Hd ++ H, nd ++ nm⟩) : AD C ops (o :: r) acc K ⟨F, H, nm⟩ :=
  ⟨⟨v, Hd, nd, t⟩, valid_r t h hg, fun n hn' => by have := List.all_eq_true.1 hn n hn'; simpa using this, by simp only [St.upd, Dt.u, hd]; exact k⟩
theorem dR0 {v : AV} {Hd : List (Nat × Option AV)} {nd : List Nat} (t : Nat → Bool) (h : OpR C o (ev C.V F) (onlyT t H) ⟨v, Hd, nd⟩) (hd : o.dst = none) (hg : o.guard = none) (hn : (nd.all fun n => !nm.contains n) = true)
    (k : AD C ops r (⟨v, Hd, nd, t⟩ :: acc) K ⟨F, Hd ++ H, nd ++ nm⟩) : AD C ops (o :: r) acc K ⟨F, H, nm⟩ :=
  ⟨⟨v, Hd, nd, t⟩, valid_r t h hg, fun n hn' => by have := List.all_eq_true.1 hn n hn'; simpa using this, by simp only [St.upd, Dt.u, hd]; exact k⟩
theorem dP {d : Nat} {v : AV} (t : Nat → Bool) (h : OpP C.V o (ev C.V F) (onlyT t H) v) (hd : o.dst = some d) (hg : o.guard = none) (k : AD C ops r (⟨v, [], [], t⟩ :: acc) K ⟨(d, v) :: F, H, nm⟩) : AD C ops (o :: r) acc K ⟨F, H, nm⟩ :=
  dR t h.r hd hg rfl k

theorem guard_looks {ops : Array Oper} {o : Oper} {j e : Nat} {want : Bool} (hg : o.guard = some (j, want)) (hj : (ops[j]?).bind (·.dst) = some e) : e ∈ o.looksAt ops := by
  unfold Oper.looksAt
  refine List.mem_append.2 (.inr ?_)
  rw [hg]; simp [hj]

theorem valid_g {v : AV} {j e : Nat} {want : Bool} (c : Bool) (t : Nat → Bool) (hg : o.guard = some (j, want)) (hj : (ops[j]?).bind (·.dst) = some e) (hgd : (getF F e).guard want = some c) {d : Nat} (hd : o.dst = some d)
    (hs : c = true → gsL C.V F o.op.operands.toList) (h : c = true → OpR C o (fun x => (ev C.V F x).un) (onlyT t H) ⟨v, [], []⟩) : Valid C ops o ⟨F, H, nm⟩ ⟨.gd c v, [], [], t⟩ := by
  intro S2 hF hH hn hdl a w ⟨σ, hc⟩
  have hgd2 : (getF S2.F e).guard want = some c := by rw [hF e (guard_looks hg hj)]; exact hgd
  rw [wanted_spec hc hg hj hgd2]
  cases c with
  | false =>
    rw [if_neg (by simp)]
    exact ⟨σ, hc.put o.dst (.gd false v) undef hdl (by simp [RelV])⟩
  | true =>
    rw [if_pos rfl]
    have h1 := (h rfl) hdl S2 (fun x hx => by
        rw [ev_looks hF hx]
        exact Sub.un _ (by have := List.all_eq_true.1 (gsL_all _ (hs rfl)) x (by simpa using hx); exact this)) (fun i y hy => by
      unfold onlyT at hy
      cases ht : t i with
      | true => rw [ht] at hy; rw [hH i ht]; exact hy
      | false => rw [ht] at hy; cases hy) (fun n h => by cases h) a w ⟨σ, hc⟩
    refine Oper.wp_mono (fun a' w' h' => ?_) h1
    obtain ⟨σ', hc'⟩ := h'
    rw [hd] at hc' ⊢
    refine ⟨σ', ⟨hc'.ok, hc'.defers, hc'.size, hc'.kept, hc'.σ0, hc'.inj, hc'.blk, hc'.env, fun t => ?_⟩⟩
    have := hc'.slot t
    simp only [St.upd, Dt.u] at this ⊢
    rw [getF_cons] at this ⊢
    split
    · rename_i e'; rw [if_pos e'] at this; simp only [RelV]; exact ⟨fun _ => this, fun h => by cases h⟩
    · rename_i e'; rw [if_neg e'] at this; exact this

theorem dG {d : Nat} {v : AV} {j e : Nat} {want : Bool} (c : Bool) (t : Nat → Bool) (hg : o.guard = some (j, want)) (hj : (ops[j]?).bind (·.dst) = some e) (hgd : (getF F e).guard want = some c) (hd : o.dst = some d)
    (hs : c = true → gsL C.V F o.op.operands.toList) (h : c = true → OpP C.V o (fun x => (ev C.V F x).un) (onlyT t H) v) (k : AD C ops r (⟨.gd c v, [], [], t⟩ :: acc) K ⟨(d, .gd c v) :: F, H, nm⟩) : AD C ops (o :: r) acc K ⟨F, H, nm⟩ :=
  ⟨⟨.gd c v, [], [], t⟩, valid_g c t hg hj hgd hd hs (fun hc => (h hc).r), (fun n hn' => by cases hn'), by simp only [St.upd, Dt.u, hd]; exact k⟩
theorem dGR {d : Nat} {v : AV} {j e : Nat} {want : Bool} (c : Bool) (t : Nat → Bool) (hg : o.guard = some (j, want)) (hj : (ops[j]?).bind (·.dst) = some e) (hgd : (getF F e).guard want = some c) (hd : o.dst = some d)
    (hs : c = true → gsL C.V F o.op.operands.toList) (h : c = true → OpR C o (fun x => (ev C.V F x).un) (onlyT t H) ⟨v, [], []⟩) (k : AD C ops r (⟨.gd c v, [], [], t⟩ :: acc) K ⟨(d, .gd c v) :: F, H, nm⟩) : AD C ops (o :: r) acc K ⟨F, H, nm⟩ :=
  ⟨⟨.gd c v, [], [], t⟩, valid_g c t hg hj hgd hd hs h, (fun n hn' => by cases hn'), by simp only [St.upd, Dt.u, hd]; exact k⟩

theorem dPick {d : Nat} {c x y : Operand} (t : Nat → Bool) (ho : o.op = .pick c x y) (hd : o.dst = some d) (hg : o.guard = none) {b p q : Bool} (hct : (ev C.V F c).un = .bool b) (hcg : (ev C.V F c).gsP)
    (hx : (ev C.V F x).un = .bool p) (hy : (ev C.V F y).un = .bool q) (hgx : b = true → (ev C.V F x).gsP) (hgy : b = false → (ev C.V F y).gsP)
    (k : AD C ops r (⟨.bool (cond b p q), [], [], t⟩ :: acc) K ⟨(d, .bool (cond b p q)) :: F, H, nm⟩) : AD C ops (o :: r) acc K ⟨F, H, nm⟩ := by
  refine ⟨⟨.bool (cond b p q), [], [], t⟩, ?_, (fun n hn' => by cases hn'), by simp only [St.upd, Dt.u, hd]; exact k⟩
  intro S2 hF hH hn hdl a w ⟨σ, hc⟩
  rw [if_pos (by simp [Region.wanted, hg])]
  have e : ∀ z, z ∈ o.op.operands → ev C.V S2.F z = ev C.V F z := fun z hz => ev_looks hF hz
  have e1 := e c (by simp [ho, Op.operands]); have e2 := e x (by simp [ho, Op.operands]); have e3 := e y (by simp [ho, Op.operands])
  unfold Oper.wp
  rw [pick_run hc ho (by rw [e1]; exact hct) (by rw [e1]; exact hcg) (by rw [e2]; exact hx) (by rw [e3]; exact hy) (by rw [e2]; exact hgx) (by rw [e3]; exact hgy)]
  exact ⟨σ, hc.put o.dst (.bool (cond b p q)) (.bool (cond b p q)) hdl (by simp [RelV])⟩

theorem dPickG {d : Nat} {c x y : Operand} {j e : Nat} {want : Bool} (g : Bool) (t : Nat → Bool) (ho : o.op = .pick c x y) (hd : o.dst = some d) (hg : o.guard = some (j, want)) (hj : (ops[j]?).bind (·.dst) = some e)
    (hgd : (getF F e).guard want = some g) {b p q : Bool} (hct : (ev C.V F c).un = .bool b) (hcg : g = true → (ev C.V F c).gsP) (hx : (ev C.V F x).un = .bool p) (hy : (ev C.V F y).un = .bool q)
    (hgx : g = true → b = true → (ev C.V F x).gsP) (hgy : g = true → b = false → (ev C.V F y).gsP) (k : AD C ops r (⟨.gd g (.bool (cond b p q)), [], [], t⟩ :: acc) K ⟨(d, .gd g (.bool (cond b p q))) :: F, H, nm⟩) : AD C ops (o :: r) acc K ⟨F, H, nm⟩ := by
  refine ⟨⟨.gd g (.bool (cond b p q)), [], [], t⟩, ?_, (fun n hn' => by cases hn'), by simp only [St.upd, Dt.u, hd]; exact k⟩
  intro S2 hF hH hn hdl a w ⟨σ, hc⟩
  have hgd2 : (getF S2.F e).guard want = some g := by rw [hF e (guard_looks hg hj)]; exact hgd
  rw [wanted_spec hc hg hj hgd2]
  have ee : ∀ z, z ∈ o.op.operands → ev C.V S2.F z = ev C.V F z := fun z hz => ev_looks hF hz
  have e1 := ee c (by simp [ho, Op.operands]); have e2 := ee x (by simp [ho, Op.operands]); have e3 := ee y (by simp [ho, Op.operands])
  cases g with
  | false =>
    rw [if_neg (by simp)]
    exact ⟨σ, hc.put o.dst (.gd false (.bool (cond b p q))) undef hdl (by simp [RelV])⟩
  | true =>
    rw [if_pos rfl]
    unfold Oper.wp
    rw [pick_run hc ho (by rw [e1]; exact hct) (by rw [e1]; exact hcg rfl) (by rw [e2]; exact hx) (by rw [e3]; exact hy) (by rw [e2]; exact hgx rfl) (by rw [e3]; exact hgy rfl)]
    exact ⟨σ, hc.put o.dst (.gd true (.bool (cond b p q))) (.bool (cond b p q)) hdl (by simp [RelV])⟩
end
end Go.Fy
