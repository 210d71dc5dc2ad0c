/- Plain Lean: pieces of one image, in any order (my own text; no program in sight). -/
import Derived.Test.YtgaihhimkodmmaaDoorS2
namespace Go.Fy
namespace Sp
/-- What is asked of an image that goes. -/
structure Fine (p : Int) (x : Xid) (st : Int) (im : List UInt8) : Prop where
  part : goodPart p = true
  xid : goodXid x = true
  stage : goodStage st = true
  lo : 1 ≤ im.length
  hi : im.length ≤ 4096
section
variable {p : Int} {x : Xid} {st : Int} {im : List UInt8}
theorem Fine.tot (h : Fine p x st im) : 1 ≤ total im ∧ total im ≤ 32 ∧ 128 * (total im - 1) < im.length ∧ im.length ≤ 128 * total im := by
  have := h.lo; have := h.hi
  unfold total; omega
theorem Fine.cut (h : Fine p x st im) : cut p x st im = (notes p x st im, 0) := by
  have := h.lo; have := h.hi
  have hw : within im.length 1 4096 = true := by simp only [within, decide_eq_true_eq]; omega
  simp [Sp.cut, h.part, h.xid, h.stage, hw]
theorem Fine.len (h : Fine p x st im) (j : Nat) (hj : j < total im) : (pieceOf im j).length = if j = total im - 1 then im.length - 128 * j else 128 := by
  have h1 := h.tot
  rw [pieceOf_length]
  split
  · subst j; omega
  · omega
theorem Fine.ne (h : Fine p x st im) (j : Nat) (hj : j < total im) : pieceOf im j ≠ [] := by
  intro e
  have h1 := h.len j hj
  have h2 := h.tot
  rw [e] at h1
  split at h1
  · subst j; simp at h1; omega
  · simp at h1
theorem Fine.goodLen (h : Fine p x st im) (j : Nat) (hj : j < total im) : Sp.goodLen (pieceOf im j).length j (total im) = true := by
  have h1 := h.len j hj
  have h2 := h.tot
  unfold Sp.goodLen
  split
  · rename_i e
    have e2 : j = total im - 1 := by omega
    rw [if_pos e2] at h1
    simp only [within, decide_eq_true_eq]; omega
  · rename_i e
    rw [if_neg (by omega)] at h1
    simp [h1]
def piecesOf (im : List UInt8) (came : List Bool) : List (List UInt8) := (List.range (total im)).map fun j => if came.getD j false then pieceOf im j else []
theorem piecesOf_length (came : List Bool) : (piecesOf im came).length = total im := by simp [piecesOf]
theorem piecesOf_get (came : List Bool) (j : Nat) (hj : j < total im) : (piecesOf im came).getD j [] = if came.getD j false then pieceOf im j else [] := by
  simp [piecesOf, List.getD_eq_getElem?_getD, hj]
def stageOf (p : Int) (x : Xid) (st : Int) (im : List UInt8) (came : List Bool) : Stage := ⟨p, st, total im, x, piecesOf im came⟩
def recvOf (p : Int) (x : Xid) (st : Int) (im : List UInt8) (came : List Bool) : Recv := if came.any id then ⟨true, stageOf p x st im came⟩ else zeroR
theorem Fine.goodS (h : Fine p x st im) (came : List Bool) : Sp.goodS (stageOf p x st im came) = true := by
  have h2 := h.tot
  simp only [Sp.goodS, stageOf, Bool.and_eq_true, List.all_eq_true, List.mem_range, Bool.or_eq_true, decide_eq_true_eq, piecesOf_length]
  refine ⟨⟨⟨⟨⟨h.part, h.xid⟩, h.stage⟩, by simp only [within, decide_eq_true_eq]; omega⟩, trivial⟩, fun j hj => ?_⟩
  have e := piecesOf_get came j hj
  cases hc : came.getD j false with
  | false => rw [hc] at e; left; exact decide_eq_true e
  | true => rw [hc] at e; right; simp only [if_true] at e; rw [e]; exact h.goodLen j hj
theorem Fine.check (h : Fine p x st im) (k : Nat) (hk : k < total im) : Sp.check (cutNote p x st im k k (total im)) = 0 := by
  have h2 := h.tot
  have h3 := h.goodLen k hk
  simp only [Sp.check, cutNote, staged, Sp.pieces, h.part, h.xid, h.stage, h3]
  simp [within]
  omega
theorem Fine.chunk (h : Fine p x st im) (k : Nat) (hk : k < total im) : Sp.chunk (cutNote p x st im k k (total im)) = 0 := by
  simp only [Sp.chunk, h.check k hk]; simp [cutNote]
theorem any_id {l : List Bool} : l.any id = true ↔ ∃ j, j < l.length ∧ l.getD j false = true := by
  rw [List.any_eq_true]
  constructor
  · rintro ⟨b, hb, h⟩
    obtain ⟨j, hj, rfl⟩ := List.mem_iff_getElem.1 hb
    exact ⟨j, hj, by simpa [List.getD_eq_getElem?_getD, hj] using h⟩
  · rintro ⟨j, hj, h⟩
    refine ⟨l[j], List.getElem_mem hj, ?_⟩
    simpa [List.getD_eq_getElem?_getD, hj] using h
theorem Fine.goodR (h : Fine p x st im) (came : List Bool) (hl : came.length = total im) : Sp.goodR (recvOf p x st im came) = true := by
  unfold recvOf
  split
  · rename_i ha
    obtain ⟨j, hj, hc⟩ := any_id.1 ha
    simp only [Sp.goodR, h.goodS came, Bool.true_and]
    rw [if_neg (by simp)]
    refine List.any_eq_true.2 ⟨j, by simp [stageOf, piecesOf_length]; omega, ?_⟩
    have e := piecesOf_get came j (im := im) (by omega)
    rw [if_pos hc] at e
    have : ¬ (piecesOf im came).getD j [] = [] := by rw [e]; exact h.ne j (by omega)
    simp only [Bool.not_eq_true', decide_eq_false_iff_not]
    exact this
  · decide
theorem set_get (came : List Bool) (k j : Nat) (hk : k < came.length) : (came.set k true).getD j false = if j = k then true else came.getD j false := by
  simp only [List.getD_eq_getElem?_getD, List.getElem?_set]
  by_cases e : k = j
  · subst e; simp [hk]
  · rw [if_neg e, if_neg (Ne.symm e)]
theorem piecesOf_set (came : List Bool) (k : Nat) (hl : came.length = total im) (hk : k < total im) : (piecesOf im came).set k (pieceOf im k) = piecesOf im (came.set k true) := by
  apply List.ext_getElem?
  intro j
  rw [List.getElem?_set]
  by_cases hj : j < total im
  · have e1 : (piecesOf im came)[j]? = some (if came.getD j false then pieceOf im j else []) := by simp [piecesOf, hj]
    have e2 : (piecesOf im (came.set k true))[j]? = some (if (came.set k true).getD j false then pieceOf im j else []) := by simp [piecesOf, hj]
    rw [e1, e2, set_get came k j (by omega), piecesOf_length]
    by_cases e : k = j
    · subst e; simp [hj]
    · rw [if_neg e, if_neg (Ne.symm e)]
  · have e1 : (piecesOf im came)[j]? = none := List.getElem?_eq_none (by rw [piecesOf_length]; omega)
    have e2 : (piecesOf im (came.set k true))[j]? = none := List.getElem?_eq_none (by rw [piecesOf_length]; omega)
    rw [e1, e2, if_neg (by omega)]
theorem piecesOf_none (came : List Bool) (h : ¬ came.any id = true) : piecesOf im came = List.replicate (total im) [] := by
  apply List.ext_getElem?
  intro j
  rw [List.getElem?_replicate]
  by_cases hj : j < total im
  · rw [if_pos hj]
    have e1 : (piecesOf im came)[j]? = some (if came.getD j false then pieceOf im j else []) := by simp [piecesOf, hj]
    have e3 : came.getD j false = false := by
      cases hc : came.getD j false with
      | false => rfl
      | true =>
        refine absurd (any_id.2 ⟨j, ?_, hc⟩) h
        rcases Nat.lt_or_ge j came.length with h1 | h1
        · exact h1
        · rw [List.getD_eq_getElem?_getD, List.getElem?_eq_none h1] at hc; cases hc
    rw [e1, e3]; rfl
  · rw [if_neg hj]; exact List.getElem?_eq_none (by rw [piecesOf_length]; omega)
def ackOf (p : Int) (x : Xid) (st : Int) (im : List UInt8) (k : Nat) : Note := ⟨7, p, x, st, k, total im, 0, []⟩
theorem Fine.answer (h : Fine p x st im) (k : Nat) (hk : k < total im) : answer (cutNote p x st im k k (total im)) 7 0 = (ackOf p x st im k, 0) := by
  simp only [Sp.answer, h.check k hk]; simp [cutNote, ackOf]
theorem any_set (came : List Bool) (k : Nat) (hk : k < came.length) : (came.set k true).any id = true := any_id.2 ⟨k, by simpa using hk, by rw [set_get came k k hk, if_pos rfl]⟩
/-- A piece comes. -/
theorem Fine.take (h : Fine p x st im) (came : List Bool) (hl : came.length = total im) (k : Nat) (hk : k < total im) :
    take (recvOf p x st im came) (cutNote p x st im k k (total im)) = (recvOf p x st im (came.set k true), ackOf p x st im k, 0) := by
  have h1 := h.goodR came hl
  have h2 := h.check k hk
  have h3 := h.chunk k hk
  have hset : recvOf p x st im (came.set k true) = ⟨true, stageOf p x st im (came.set k true)⟩ := by rw [recvOf, if_pos (any_set came k (by omega))]
  have hcome : come (recvOf p x st im came) (cutNote p x st im k k (total im)) = (stageOf p x st im (came.set k true), 0) := by
    by_cases ha : came.any id = true
    · rw [recvOf, if_pos ha, come, if_pos (by simp [stageOf, cutNote])]
      have hadd : add (stageOf p x st im came) (cutNote p x st im k k (total im)) = (stageOf p x st im (came.set k true), decide ((stageOf p x st im came).pieces.getD k [] = []), 0) := by
        have hg : (stageOf p x st im came).pieces.getD k [] = if came.getD k false then pieceOf im k else [] := piecesOf_get came k hk
        have hn : (cutNote p x st im k k (total im)).index.toNat = k := by simp [cutNote]
        have hd : (cutNote p x st im k k (total im)).data = pieceOf im k := rfl
        have h4 : ¬ ((stageOf p x st im came).pieces.getD k [] ≠ [] ∧ (stageOf p x st im came).pieces.getD k [] ≠ pieceOf im k) := by
          rw [hg]; split <;> simp
        rw [add, if_neg (by rw [h.goodS came]; simp), if_neg (by rw [h3]; simp), if_neg (by simp [stageOf, cutNote]), hn, hd, if_neg h4]
        refine congrArg (fun z => (z, _, 0)) ?_
        simp only [stageOf]
        rw [piecesOf_set came k hl hk]
      rw [hadd]
    · rw [recvOf, if_neg ha, come, if_neg (by simp [zeroR]), begin_, if_neg (by rw [h3]; simp)]
      refine congrArg (fun z => (z, 0)) ?_
      simp only [stageOf]
      have e : (List.replicate (total im) []).set k (pieceOf im k) = piecesOf im (came.set k true) := by rw [← piecesOf_set came k hl hk, piecesOf_none came ha]
      rw [← e]; simp [cutNote]
  rw [Sp.take, if_neg (by rw [h1]; simp), if_neg (by rw [h2]; simp), if_neg (by simp [cutNote]), hcome, if_neg (by simp), h.answer k hk, hset]
theorem drop_flatten (im : List UInt8) : ∀ n, im.length ≤ 128 * n → ((List.range n).map fun j => pieceOf im j).flatten = im := by
  intro n hn
  have : ∀ m, m ≤ n → ((List.range m).map fun j => pieceOf im j).flatten = im.take (128 * m) := by
    intro m
    induction m with
    | zero => intro _; simp
    | succ m ih =>
      intro hm
      rw [List.range_succ, List.map_append, List.flatten_append, ih (by omega)]
      simp only [List.map_cons, List.map_nil, List.flatten_cons, List.flatten_nil, List.append_nil, pieceOf]
      rw [show 128 * (m + 1) = 128 * m + 128 by omega, List.take_add]
  rw [this n (Nat.le_refl _), List.take_of_length_le hn]
/-- The whole is there just if each came. -/
theorem Fine.whole (h : Fine p x st im) (came : List Bool) (hl : came.length = total im) : wholeR (recvOf p x st im came) = if (came.all id) = true then (im, true, 0) else ([], false, 0) := by
  have h2 := h.tot
  rw [wholeR, if_neg (by rw [h.goodR came hl]; simp)]
  by_cases ha : came.any id = true
  · rw [recvOf, if_pos ha, if_neg (by simp)]
    show Sp.whole (stageOf p x st im came) = _
    rw [Sp.whole, if_neg (by rw [h.goodS came]; simp)]
    by_cases hall : came.all id = true
    · have hg : ∀ j, j < total im → came.getD j false = true := fun j hj => by
        have := List.all_eq_true.1 hall (came[j]'(by omega)) (List.getElem_mem _)
        simpa [List.getD_eq_getElem?_getD, show j < came.length by omega] using this
      rw [if_neg, if_pos hall]
      · refine congrArg (fun z => (z, true, 0)) ?_
        show (piecesOf im came).flatten = im
        have e : piecesOf im came = (List.range (total im)).map fun j => pieceOf im j := by
          unfold piecesOf
          refine List.map_congr_left fun j hj => ?_
          rw [if_pos (hg j (List.mem_range.1 hj))]
        rw [e, drop_flatten im _ h2.2.2.2]
      · simp only [Bool.not_eq_true]
        rw [List.any_eq_false]
        intro j hj
        have hj' : j < total im := by simpa [stageOf, piecesOf_length] using hj
        have e := piecesOf_get came j hj'
        rw [if_pos (hg j hj')] at e
        have : ¬ (piecesOf im came).getD j [] = [] := by rw [e]; exact h.ne j hj'
        simp only [decide_eq_true_eq]
        exact this
    · rw [if_neg hall, if_pos]
      have : ∃ j, j < came.length ∧ came.getD j false = false := by
        refine Classical.byContradiction fun hno => hall (List.all_eq_true.2 fun b hb => ?_)
        obtain ⟨j, hj, rfl⟩ := List.mem_iff_getElem.1 hb
        cases hc : came[j] with
        | true => rfl
        | false => exact absurd ⟨j, hj, by simp [List.getD_eq_getElem?_getD, hj, hc]⟩ hno
      obtain ⟨j, hj, hc⟩ := this
      refine List.any_eq_true.2 ⟨j, by simp [stageOf, piecesOf_length]; omega, ?_⟩
      have e := piecesOf_get came j (im := im) (by omega)
      rw [hc] at e
      exact decide_eq_true e
  · rw [recvOf, if_neg ha, if_pos (show zeroR.on = false from rfl), if_neg]
    intro hall
    refine ha (any_id.2 ⟨0, by omega, ?_⟩)
    have := List.all_eq_true.1 hall (came[0]'(by omega)) (List.getElem_mem _)
    simpa [List.getD_eq_getElem?_getD, show 0 < came.length by omega] using this
/-- How many haven't come. -/
def leftOf (came : List Bool) : Nat := (came.filter fun b => !b).length
theorem leftOf_zero {came : List Bool} : leftOf came = 0 ↔ came.all id = true := by
  unfold leftOf
  rw [List.length_eq_zero_iff, List.filter_eq_nil_iff, List.all_eq_true]
  refine forall_congr' fun b => forall_congr' fun _ => ?_
  cases b <;> simp
theorem leftOf_le (came : List Bool) : leftOf came ≤ came.length := List.length_filter_le _ _
theorem leftOf_set : ∀ (came : List Bool) (k : Nat), k < came.length → leftOf (came.set k true) + (if came.getD k false then 0 else 1) = leftOf came
  | [], k, h => by simp at h
  | b :: l, 0, _ => by cases b <;> simp [leftOf]
  | b :: l, k + 1, h => by
    have ih := leftOf_set l k (by simpa using h)
    simp only [leftOf, List.set_cons_succ, List.filter_cons, List.getD_cons_succ] at ih ⊢
    cases b
    · simp only [Bool.not_false, if_true, List.length_cons]; omega
    · simp only [Bool.not_true]; exact ih
theorem leftOf_replicate (n : Nat) : leftOf (List.replicate n false) = n := by simp [leftOf]
end
section
variable {p : Int} {x : Xid} {st : Int} {im : List UInt8}
def fresh (p : Int) (x : Xid) (st : Int) (im : List UInt8) : Send := ⟨p, x, st, im, List.replicate (total im) false, 0⟩
theorem Fine.start (h : Fine p x st im) : Sp.start p x st im = (fresh p x st im, 0) := by
  rw [Sp.start, if_neg (by rw [h.cut]; simp), h.cut]; simp [fresh, notes_length]
theorem Fine.due (h : Fine p x st im) : Sp.due (fresh p x st im) = (notes p x st im, 0) := by
  have hc : cutS (fresh p x st im) = (notes p x st im, 0) := h.cut
  rw [Sp.due, if_neg]
  · refine congrArg (fun z => (z, 0)) ?_
    rw [hc, dueTo, hc]
    have e : ((List.range (notes p x st im).length).filter fun j => !(fresh p x st im).acked.getD j false) = List.range (notes p x st im).length := by
      rw [List.filter_eq_self]
      intro j hj
      simp only [fresh, List.getD_eq_getElem?_getD, List.getElem?_replicate]
      split <;> rfl
    rw [e]
    apply List.ext_getElem?
    intro j
    by_cases hj : j < (notes p x st im).length
    · simp [List.getD_eq_getElem?_getD, hj]
    · rw [List.getElem?_eq_none (by simpa using hj), List.getElem?_eq_none (by omega)]
  · simp only [goodSend, hc]; simp [fresh, notes_length]
theorem recvOf_len (came : List Bool) : (recvOf p x st im came).stage.pieces.length ≤ total im := by
  unfold recvOf
  split
  · simp [stageOf, piecesOf_length]
  · simp [zeroR, zeroS]
theorem recvOf_nil (came : List Bool) (h : (!came.any id) = true) : (recvOf p x st im came).stage.pieces.length = 0 := by
  rw [recvOf, if_neg (by simpa using h)]; rfl
theorem any_replicate (n : Nat) : (List.replicate n false).any id = false := by
  induction n with
  | zero => rfl
  | succ n ih => rw [List.replicate_succ, List.any_cons, ih]; rfl
theorem set_same (came : List Bool) (k : Nat) (h : came.getD k false = true) : came.set k true = came := by
  apply List.ext_getElem?
  intro j
  rw [List.getElem?_set]
  by_cases e : k = j
  · subst e
    rw [if_pos rfl]
    rcases Nat.lt_or_ge k came.length with h1 | h1
    · rw [if_pos h1, List.getElem?_eq_getElem h1]
      simp only [List.getD_eq_getElem?_getD, List.getElem?_eq_getElem h1, Option.getD_some] at h
      rw [h]
    · rw [if_neg (by omega), List.getElem?_eq_none h1]
  · rw [if_neg e]
end
end Sp
/-- Numbers in a row. -/
def iAt (l : List Int) (j : Nat) : AV := .int .i64 (l.getD j 0)
end Go.Fy
