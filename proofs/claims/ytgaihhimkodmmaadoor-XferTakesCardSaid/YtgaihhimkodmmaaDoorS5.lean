/- Plain Lean: rounds and acknowledgements of one image on its way (my own text; no program in sight). -/
import Derived.Test.YtgaihhimkodmmaaDoorS3
set_option linter.unusedSimpArgs false
namespace Go.Fy
namespace Sp
def round (s : Send) (tries : Int) : Send × List Note × Bool × Nat :=
  if (due s).2 ≠ 0 then (zeroSend, [], false, (due s).2) else if tries ≤ s.rounds then (s, [], false, 0) else ({ s with rounds := s.rounds + 1 }, (due s).1, true, 0)
def ack (s : Send) (n : Note) : Send × Bool × Nat :=
  if goodSend s = false then (zeroSend, false, 9)
  else if check n ≠ 0 then (zeroSend, false, check n)
  else if n.kind ≠ 7 then (zeroSend, false, 7)
  else if n.part ≠ s.part ∨ n.xid ≠ s.xid ∨ n.stage ≠ s.stage ∨ n.total ≠ s.acked.length then (zeroSend, false, 10)
  else ({ s with acked := s.acked.set n.index.toNat true }, !s.acked.getD n.index.toNat false, 0)
def arrived (s : Send) : Bool × Nat := if goodSend s = false then (false, 9) else (s.acked.all id, 0)
theorem goodSend_len {s : Send} (h : goodSend s = true) : 1 ≤ s.acked.length ∧ s.acked.length ≤ 32 ∧ 0 ≤ s.rounds := by
  simp only [goodSend, Bool.and_eq_true, decide_eq_true_eq] at h
  have h1 := cut_len s.part s.xid s.stage s.image
  have h2 := h1.2 h.1.1
  have h3 := h.1.2
  simp only [cutS] at h3
  omega
theorem due_good (s : Send) : ((due s).2 = 0 ↔ goodSend s = true) ∧ (goodSend s = false → due s = ([], 9)) := by
  unfold due
  split <;> rename_i h <;> simp [h]
theorem check_ack {n : Note} (h : check n = 0) (hk : n.kind = 7) : 1 ≤ n.total ∧ n.total ≤ 32 ∧ 0 ≤ n.index ∧ n.index < n.total := by
  have h2 : ¬ (pieces n = false) := fun hp => by
    unfold check at h
    split at h
    · cases h
    · rw [if_pos (.inr (.inr (.inr (.inl hp))))] at h; cases h
  simp only [pieces, hk, within, Bool.not_eq_false] at h2
  simp at h2
  omega
theorem none_false (l : List Bool) : (!(List.range l.length).any fun j => false == l.getD j false) = l.all id := by
  rw [Bool.eq_iff_iff, Bool.not_eq_true', List.any_eq_false, List.all_eq_true]
  constructor
  · intro h b hb
    obtain ⟨j, hj, rfl⟩ := List.mem_iff_getElem.1 hb
    have := h j (List.mem_range.2 hj)
    simpa [List.getD_eq_getElem?_getD, hj] using this
  · intro h j hj
    have hj := List.mem_range.1 hj
    have := h l[j] (List.getElem_mem hj)
    simpa [List.getD_eq_getElem?_getD, hj] using this
/-- What befalls a note: by its place in turn. -/
def fate (n : Nat) (f : Nat → Int) (i : Nat) : Int := if n = 0 then 0 else f (i % n)
def times (f : Int) : Nat := if f = 1 then 0 else if f = 2 then 2 else 1
theorem times_le (f : Int) : times f ≤ 2 := by unfold times; split <;> (try split) <;> omega
theorem times_pos {f : Int} (h : f ≠ 1) : 1 ≤ times f := by unfold times; rw [if_neg h]; split <;> omega
/-- An image on its way. -/
def sendOf (p : Int) (x : Xid) (st : Int) (im : List UInt8) (A : List Bool) (r : Nat) : Send := ⟨p, x, st, im, A, r⟩
/-- The pieces that still go. -/
def dueL (im : List UInt8) (A : List Bool) : List Nat := (List.range (total im)).filter fun j => !A.getD j false
def Ord (A B : List Bool) : Prop := ∀ j, A.getD j false = true → B.getD j false = true
theorem Ord.refl (A : List Bool) : Ord A A := fun _ h => h
theorem Ord.trans {A B C : List Bool} (h : Ord A B) (k : Ord B C) : Ord A C := fun j hj => k j (h j hj)
theorem ord_set (A : List Bool) (k : Nat) (hk : k < A.length) : Ord A (A.set k true) := fun j hj => by rw [set_get A k j hk]; split <;> simp_all
theorem Ord.set {A B : List Bool} (h : Ord A B) (k : Nat) (hk : k < A.length) (hb : B.getD k false = true) : Ord (A.set k true) B := fun j hj => by
  rw [set_get A k j hk] at hj
  split at hj
  · next e => rw [e]; exact hb
  · exact h j hj
theorem Ord.all {A B : List Bool} (h : Ord A B) (hl : A.length = B.length) (ha : A.all id = true) : B.all id = true := by
  rw [List.all_eq_true] at *
  intro b hb
  obtain ⟨j, hj, rfl⟩ := List.mem_iff_getElem.1 hb
  have h1 := ha A[j] (List.getElem_mem (by omega))
  have h2 := h j (by simpa [List.getD_eq_getElem?_getD, hl, hj] using h1)
  simpa [List.getD_eq_getElem?_getD, hj] using h2
theorem set_self (A : List Bool) (k : Nat) (hk : k < A.length) : (A.set k true).getD k false = true := by rw [set_get A k k hk, if_pos rfl]
theorem dueL_len (im : List UInt8) (A : List Bool) : (dueL im A).length ≤ total im := Nat.le_trans (List.length_filter_le _ _) (by simp)
theorem dueL_get {im : List UInt8} {A : List Bool} {i : Nat} (hi : i < (dueL im A).length) : (dueL im A).getD i 0 < total im ∧ A.getD ((dueL im A).getD i 0) false = false := by
  have hm : (dueL im A).getD i 0 ∈ dueL im A := by
    rw [List.getD_eq_getElem?_getD, List.getElem?_eq_getElem hi]; exact List.getElem_mem hi
  have := List.mem_filter.1 hm
  exact ⟨List.mem_range.1 this.1, by simpa using this.2⟩
/-- Whatever was due is acknowledged: all is. -/
theorem dueL_all {im : List UInt8} {A B : List Bool} (hl : B.length = total im) (h : Ord A B) (hd : ∀ i, i < (dueL im A).length → B.getD ((dueL im A).getD i 0) false = true) : B.all id = true := by
  rw [List.all_eq_true]
  intro b hb
  obtain ⟨j, hj, rfl⟩ := List.mem_iff_getElem.1 hb
  have goal : B.getD j false = true := by
    cases ha : A.getD j false with
    | true => exact h j ha
    | false =>
      have hm : j ∈ dueL im A := List.mem_filter.2 ⟨List.mem_range.2 (by omega), by rw [ha]; rfl⟩
      obtain ⟨i, hi, e⟩ := List.mem_iff_getElem.1 hm
      have := hd i hi
      have e2 : (dueL im A).getD i 0 = j := by rw [List.getD_eq_getElem?_getD, List.getElem?_eq_getElem hi, Option.getD_some, e]
      rwa [e2] at this
  simpa [List.getD_eq_getElem?_getD, hj] using goal
section
variable {p : Int} {x : Xid} {st : Int} {im : List UInt8}
theorem Fine.goodSend (h : Fine p x st im) (A : List Bool) (r : Nat) (hl : A.length = total im) : Sp.goodSend (sendOf p x st im A r) = true := by
  have e := h.cut
  simp [Sp.goodSend, cutS, sendOf, e, notes_length, hl]
theorem Fine.dueOf (h : Fine p x st im) (A : List Bool) (r : Nat) (hl : A.length = total im) : Sp.due (sendOf p x st im A r) = ((dueL im A).map fun j => cutNote p x st im j j (total im), 0) := by
  have e := h.cut
  rw [Sp.due, if_neg (by rw [h.goodSend A r hl]; decide)]
  simp only [cutS, sendOf, e, dueTo, notes_length, dueL]
  congr 1
  refine List.map_congr_left fun j hj => ?_
  have := List.mem_range.1 (List.mem_filter.1 hj).1
  exact notes_get p x st im j this zero
theorem Fine.round (h : Fine p x st im) (A : List Bool) (r : Nat) (t : Int) (hl : A.length = total im) :
    Sp.round (sendOf p x st im A r) t = if t ≤ r then (sendOf p x st im A r, [], false, 0) else (sendOf p x st im A (r + 1), (dueL im A).map fun j => cutNote p x st im j j (total im), true, 0) := by
  rw [Sp.round, h.dueOf A r hl, if_neg (by simp)]
  rfl
theorem Fine.checkAck (h : Fine p x st im) (k : Nat) (hk : k < total im) : Sp.check (ackOf p x st im k) = 0 := by
  have h2 := h.tot
  simp only [Sp.check, ackOf, staged, Sp.pieces, h.part, h.xid, h.stage]
  simp [within]
  omega
theorem Fine.ack (h : Fine p x st im) (A : List Bool) (r : Nat) (hl : A.length = total im) (k : Nat) (hk : k < total im) :
    Sp.ack (sendOf p x st im A r) (ackOf p x st im k) = (sendOf p x st im (A.set k true) r, !A.getD k false, 0) := by
  rw [Sp.ack, h.goodSend A r hl, h.checkAck k hk]
  simp [sendOf, ackOf, hl]
theorem Fine.arrived (h : Fine p x st im) (A : List Bool) (r : Nat) (hl : A.length = total im) : Sp.arrived (sendOf p x st im A r) = (A.all id, 0) := by
  rw [Sp.arrived, h.goodSend A r hl]; rfl
end
end Sp
end Go.Fy
