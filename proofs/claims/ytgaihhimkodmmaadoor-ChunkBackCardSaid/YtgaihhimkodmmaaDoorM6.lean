/- My own texts, packed: K2x, K3x, K4x, K5x, S2, S3, S5, S6, KTx, S7, KUx, KVx, KWx, KXx, KYx. -/
import Derived.Test.YtgaihhimkodmmaaDoorM3
/- Layer 20: the note that answers; stages (walks over this dump). -/
namespace Go.Proofs.YtgaihhimkodmmaaDoor
attribute [local irreducible] Tryd.prog
open Go.Fy
set_option linter.unusedSimpArgs false
section
variable {ea : Nat → Addr} {cds : List Nat} {gl : Nat → Option AV}
end
end Go.Proofs.YtgaihhimkodmmaaDoor
/- Layer 20: stages (walks over this dump). -/
namespace Go.Proofs.YtgaihhimkodmmaaDoor
attribute [local irreducible] Tryd.prog
open Go.Fy
set_option linter.unusedSimpArgs false
section
variable {ea : Nat → Addr} {cds : List Nat} {gl : Nat → Option AV}
end
end Go.Proofs.YtgaihhimkodmmaaDoor
/- Go's library: rows cloned, searched (walks over this dump). -/
namespace Go.Proofs.YtgaihhimkodmmaaDoor
attribute [local irreducible] Tryd.prog
open Go.Fy
set_option linter.unusedSimpArgs false
section
variable {ea : Nat → Addr} {cds : List Nat} {gl : Nat → Option AV}
theorem c110 (b : Bool) (n : Nat) (f : Nat → AV) (h0 : b = true → n = 0) (h1 : n ≤ 140737488355328) : APure (V ea cds gl) 110 [.sl 1 b n f] false (.sl 1 b n f) := by
  refine acalls_of_body (N := 8) Tryd.func110 rfl rfl (Nat.le_of_ble_eq_true rfl) fun C hV hN hM hO => ?_
  obtain ⟨_, _, w0, G0, σ0, _, own0⟩ := C; dsimp only at hV hN hM hO; subst hV; subst hN; subst hM
  refine awp_seq ?_
  refine awp_region rfl ?_
  first
    | refine sP (opp_as (v := .sl _ _ _ _) rfl rfl) rfl rfl ?_
    | refine sP (opp_as (v := .osl _ _ _ _ _) rfl rfl) rfl rfl ?_
  refine awp_seq ?_
  refine awp_seq ?_
  refine awp_region rfl ?_
  first
    | refine sP (opp_mv (v := .sl _ _ _ _) rfl rfl) rfl rfl ?_
    | refine sP (opp_mv (v := .osl _ _ _ _ _) rfl rfl) rfl rfl ?_
  first
    | refine sP (opp_slNil rfl rfl rfl un36 (.inl ⟨rfl, rfl⟩)) rfl rfl ?_
    | refine sP (opp_oslNil rfl rfl rfl un36 (.inl ⟨rfl, rfl⟩)) rfl rfl ?_
  refine awp_cond _ rfl (fun hc3 => ?_) (fun hc3 => ?_)
  · (try simp only [cmpI, errD_nil, Bool.not_eq_true', Bool.not_eq_false', decide_eq_true_eq, decide_eq_false_iff_not] at hc3); have ht4 := hc3
    refine awp_seq ?_
    refine awp_region rfl ?_
    first
      | refine sP (opp_as (v := .sl _ _ _ _) rfl rfl) rfl rfl ?_
      | refine sP (opp_as (v := .osl _ _ _ _ _) rfl rfl) rfl rfl ?_
    refine awp_ret ?_
    repeat (first | refine athen_ret ?_ | refine ain_ret ?_)
    first
      | refine apost_ret (aend1 (r0 := .sl _ _ _ _) (.tmp .nil) (.noN rfl rfl) ⟨Wk.v ?_, rfl, rfl⟩)
      | refine apost_ret (aend1s (r0 := .sl _ _ _ _) (.tmp .nil) shut rfl ⟨Wk.v ?_, rfl, rfl⟩)
      | refine apost_ret (aend1 (r0 := .osl _ _ _ _ _) (.tmp .nil) (.noN rfl rfl) ⟨Wk.v ?_, rfl, rfl⟩)
      | refine apost_ret (aend1s (r0 := .osl _ _ _ _ _) (.tmp .nil) shut rfl ⟨Wk.v ?_, rfl, rfl⟩)
    have h2 := h0 hc3
    subst hc3; subst h2; exact .sl0
  · (try simp only [cmpI, errD_nil, Bool.not_eq_true', Bool.not_eq_false', decide_eq_true_eq, decide_eq_false_iff_not] at hc3); have ht4 := hc3
    refine awp_skip ?_
    refine awp_seq ?_
    refine awp_region rfl ?_
    refine sR (opr_buildSlice (n := 5) (g := fun _ => .int .u8 0) rfl eb36 z5 (by decide) rfl rfl) rfl rfl rfl ?_
    first
      | refine sP (opp_mv (v := .sl _ _ _ _) rfl rfl) rfl rfl ?_
      | refine sP (opp_mv (v := .osl _ _ _ _ _) rfl rfl) rfl rfl ?_
    first
      | refine sR (opr_append (d := 7) rfl rfl rfl (by omega) (.osl0 rfl (by omega)) eb36 z5 (by omega) (by omega)) rfl rfl rfl ?_
      | refine sR (opr_append (d := 7) rfl rfl rfl (by omega) .sl eb36 z5 (by omega) (by omega)) rfl rfl rfl ?_
      | refine sR (opr_append (d := 7) rfl rfl rfl (by omega) (.osl rfl (by omega) (fun _ _ => rfl)) eb36 z5 (by omega) (by omega)) rfl rfl rfl ?_
      | refine sR (opr_appendNil (d := 7) rfl rfl (.osl0 rfl (by omega)) eb36 z5 (by omega) (by omega) (by omega)) rfl rfl rfl ?_
      | refine sR (opr_appendNil (d := 7) rfl rfl .sl eb36 z5 (by omega) (by omega) (by omega)) rfl rfl rfl ?_
      | refine sR (opr_appendNil (d := 7) rfl rfl (.osl rfl (by omega) (fun _ _ => rfl)) eb36 z5 (by omega) (by omega) (by omega)) rfl rfl rfl ?_
    first
      | refine sP (opp_as (v := .sl _ _ _ _) rfl rfl) rfl rfl ?_
      | refine sP (opp_as (v := .osl _ _ _ _ _) rfl rfl) rfl rfl ?_
    refine awp_ret ?_
    repeat (first | refine athen_ret ?_ | refine ain_ret ?_)
    first
      | refine apost_ret (aend1 (r0 := .sl _ _ _ _) (.tmp .nil) (.noN rfl rfl) ⟨Wk.v ?_, rfl, rfl⟩)
      | refine apost_ret (aend1s (r0 := .sl _ _ _ _) (.tmp .nil) shut rfl ⟨Wk.v ?_, rfl, rfl⟩)
      | refine apost_ret (aend1 (r0 := .osl _ _ _ _ _) (.tmp .nil) (.noN rfl rfl) ⟨Wk.v ?_, rfl, rfl⟩)
      | refine apost_ret (aend1s (r0 := .osl _ _ _ _ _) (.tmp .nil) shut rfl ⟨Wk.v ?_, rfl, rfl⟩)
    subst hc3; simp only [Nat.zero_add]; exact .sl (fun j hj => by simp)
end
end Go.Proofs.YtgaihhimkodmmaaDoor
/- Rows cloned, as own rows; stages go on (walks over this dump). -/
namespace Go.Proofs.YtgaihhimkodmmaaDoor
attribute [local irreducible] Tryd.prog
open Go.Fy
set_option linter.unusedSimpArgs false
section
variable {ea : Nat → Addr} {cds : List Nat} {gl : Nat → Option AV}
theorem co74 (n : Nat) (f : Nat → AV) (h1 : n ≤ 140737488355328) : AOwn (V ea cds gl) 74 [.sl 1 false n f] false (.osl 7 1 0 n n) [(7, some (.arr 1 n f))] := by
  refine aown_of_body (N := 8) Tryd.func74 rfl rfl (Nat.le_of_ble_eq_true rfl) fun C hV hN hM hO => ?_
  obtain ⟨_, _, w0, G0, σ0, _, own0⟩ := C; dsimp only at hV hN hM hO; subst hV; subst hN; subst hM
  refine awp_seq ?_
  refine awp_region rfl ?_
  first
    | refine sP (opp_as (v := .sl _ _ _ _) rfl rfl) rfl rfl ?_
    | refine sP (opp_as (v := .osl _ _ _ _ _) rfl rfl) rfl rfl ?_
  refine awp_seq ?_
  refine awp_seq ?_
  refine awp_region rfl ?_
  first
    | refine sP (opp_mv (v := .sl _ _ _ _) rfl rfl) rfl rfl ?_
    | refine sP (opp_mv (v := .osl _ _ _ _ _) rfl rfl) rfl rfl ?_
  first
    | refine sP (opp_slNil rfl rfl rfl un36 (.inl ⟨rfl, rfl⟩)) rfl rfl ?_
    | refine sP (opp_oslNil rfl rfl rfl un36 (.inl ⟨rfl, rfl⟩)) rfl rfl ?_
  refine awp_cond _ rfl (fun hc3 => ?_) (fun hc3 => ?_)
  · (try simp only [cmpI, errD_nil, Bool.not_eq_true', Bool.not_eq_false', decide_eq_true_eq, decide_eq_false_iff_not] at hc3); have ht4 := hc3
    refine awp_seq ?_
    refine awp_region rfl ?_
    first
      | refine sP (opp_as (v := .sl _ _ _ _) rfl rfl) rfl rfl ?_
      | refine sP (opp_as (v := .osl _ _ _ _ _) rfl rfl) rfl rfl ?_
    refine awp_ret ?_
    repeat (first | refine athen_ret ?_ | refine ain_ret ?_)
    simp at hc3
  · (try simp only [cmpI, errD_nil, Bool.not_eq_true', Bool.not_eq_false', decide_eq_true_eq, decide_eq_false_iff_not] at hc3); have ht4 := hc3
    refine awp_skip ?_
    refine awp_seq ?_
    refine awp_region rfl ?_
    refine sR (opr_buildSlice (n := 5) (g := fun _ => .int .u8 0) rfl eb36 z5 (by decide) rfl rfl) rfl rfl rfl ?_
    first
      | refine sP (opp_mv (v := .sl _ _ _ _) rfl rfl) rfl rfl ?_
      | refine sP (opp_mv (v := .osl _ _ _ _ _) rfl rfl) rfl rfl ?_
    first
      | refine sR (opr_append (d := 7) rfl rfl rfl (by omega) (.osl0 rfl (by omega)) eb36 z5 (by omega) (by omega)) rfl rfl rfl ?_
      | refine sR (opr_append (d := 7) rfl rfl rfl (by omega) .sl eb36 z5 (by omega) (by omega)) rfl rfl rfl ?_
      | refine sR (opr_append (d := 7) rfl rfl rfl (by omega) (.osl rfl (by omega) (fun _ _ => rfl)) eb36 z5 (by omega) (by omega)) rfl rfl rfl ?_
      | refine sR (opr_appendNil (d := 7) rfl rfl (.osl0 rfl (by omega)) eb36 z5 (by omega) (by omega) (by omega)) rfl rfl rfl ?_
      | refine sR (opr_appendNil (d := 7) rfl rfl .sl eb36 z5 (by omega) (by omega) (by omega)) rfl rfl rfl ?_
      | refine sR (opr_appendNil (d := 7) rfl rfl (.osl rfl (by omega) (fun _ _ => rfl)) eb36 z5 (by omega) (by omega) (by omega)) rfl rfl rfl ?_
    first
      | refine sP (opp_as (v := .sl _ _ _ _) rfl rfl) rfl rfl ?_
      | refine sP (opp_as (v := .osl _ _ _ _ _) rfl rfl) rfl rfl ?_
    refine awp_ret ?_
    repeat (first | refine athen_ret ?_ | refine ain_ret ?_)
    first
      | refine opost_ret (oend1 (r0 := .sl _ _ _ _) (.tmp .nil) shut rfl ?_ (And.intro (Exists.intro _ (Exists.intro _ (And.intro rfl (And.intro shut (And.intro (fun h => by cases h) (And.intro ?_ rfl)))))) True.intro))
      | refine opost_ret (oend1 (r0 := .osl _ _ _ _ _) (.tmp .nil) shut rfl ?_ (And.intro (Exists.intro _ (Exists.intro _ (And.intro rfl (And.intro shut (And.intro (fun h => by cases h) (And.intro ?_ rfl)))))) True.intro))
    · simp only [Nat.zero_add]; exact .refl
    · simp only [Nat.zero_add]; exact .arr (fun j hj => by simp)
end
end Go.Proofs.YtgaihhimkodmmaaDoor
/- Plain Lean: what the program's layer 22 computes, as functions of numbers and lists (my own text; no program in sight). -/
namespace Go.Fy
structure Send where
  part : Int
  xid : Xid
  stage : Int
  image : List UInt8
  acked : List Bool
  rounds : Int
  deriving DecidableEq
/-- Booleans in a row. -/
def blAt (l : List Bool) (j : Nat) : AV := .bool (l.getD j false)
def sendAV (b : Bool) (s : Send) : AV := .agg [.int .i64 s.part, xidAV s.xid, .int .i64 s.stage, .str s.image, .sl 1 b s.acked.length (blAt s.acked), .int .i64 s.rounds]
/-- Notes in a row. -/
def noAt (l : List Note) (j : Nat) : AV := noteAV (l.getD j Sp.zero)
namespace Sp
def zeroSend : Send := ⟨0, ⟨0, 0, 0⟩, 0, [], [], 0⟩
def cutS (s : Send) : List Note × Nat := cut s.part s.xid s.stage s.image
def start (p : Int) (x : Xid) (st : Int) (im : List UInt8) : Send × Nat :=
  if (cut p x st im).2 ≠ 0 then (zeroSend, (cut p x st im).2) else (⟨p, x, st, im, List.replicate (cut p x st im).1.length false, 0⟩, 0)
def goodSend (s : Send) : Bool := decide ((cutS s).2 = 0) && decide ((cutS s).1.length = s.acked.length) && decide (0 ≤ s.rounds)
/-- The first i pieces that aren't acknowledged. -/
def dueTo (s : Send) (i : Nat) : List Note := ((List.range i).filter fun j => !s.acked.getD j false).map fun j => (cutS s).1.getD j zero
def due (s : Send) : List Note × Nat := if goodSend s = false then ([], 9) else (dueTo s (cutS s).1.length, 0)
def wholeR (r : Recv) : List UInt8 × Bool × Nat := if goodR r = false then ([], false, 9) else if r.on = false then ([], false, 0) else whole r.stage
end Sp
theorem b_append (l : List UInt8) (x : UInt8) (j n : Nat) (hn : n = l.length) (Z : AV) (hj : j < n + 1) :
    (if j < n then bAt l j else if j - n = 0 then .int .u8 (x.toNat : Int) else Z) = bAt (l ++ [x]) j := by
  subst hn
  simp only [bAt, List.getD_eq_getElem?_getD, List.getElem?_append]
  by_cases h : j < l.length
  · rw [if_pos h, if_pos h]
  · obtain rfl : j = l.length := by omega
    simp
namespace Sp
/-- So many bytes, from 0 on. -/
def dataL (n : Nat) : List UInt8 := (List.range n).map UInt8.ofNat
end Sp
namespace Sp
/-! The fixed fact of layer 22's statements: an image of 130 bytes in two pieces. -/
def aX : Xid := ⟨1, 1, 2⟩
def aS : Send := ⟨2, aX, 1, dataL 130, [false, false], 0⟩
def aN0 : Note := ⟨1, 2, aX, 1, 0, 2, 0, dataL 128⟩
def aN1 : Note := ⟨1, 2, aX, 1, 1, 2, 0, [128, 129]⟩
def aA0 : Note := ⟨7, 2, aX, 1, 0, 2, 0, []⟩
def aA1 : Note := ⟨7, 2, aX, 1, 1, 2, 0, []⟩
def aR1 : Recv := ⟨true, ⟨2, 1, 2, aX, [[], [128, 129]]⟩⟩
def aR2 : Recv := ⟨true, ⟨2, 1, 2, aX, [dataL 128, [128, 129]]⟩⟩
end Sp
end Go.Fy
/- Plain Lean: pieces of one image, in any order (my own text; no program in sight). -/
namespace Go.Fy
namespace Sp
/-- What is asked of an image that goes. -/
structure Fine (p : Int) (x : Xid) (st : Int) (im : List UInt8) : Prop where
  part : goodPart p = true
  xid : goodXid x = true
  stage : goodStage st = true
  lo : 1 ≤ im.length
  hi : im.length ≤ 4096
section
variable {p : Int} {x : Xid} {st : Int} {im : List UInt8}
theorem Fine.tot (h : Fine p x st im) : 1 ≤ total im ∧ total im ≤ 32 ∧ 128 * (total im - 1) < im.length ∧ im.length ≤ 128 * total im := by
  have := h.lo; have := h.hi
  unfold total; omega
theorem Fine.cut (h : Fine p x st im) : cut p x st im = (notes p x st im, 0) := by
  have := h.lo; have := h.hi
  have hw : within im.length 1 4096 = true := by simp only [within, decide_eq_true_eq]; omega
  simp [Sp.cut, h.part, h.xid, h.stage, hw]
theorem Fine.len (h : Fine p x st im) (j : Nat) (hj : j < total im) : (pieceOf im j).length = if j = total im - 1 then im.length - 128 * j else 128 := by
  have h1 := h.tot
  rw [pieceOf_length]
  split
  · subst j; omega
  · omega
theorem Fine.ne (h : Fine p x st im) (j : Nat) (hj : j < total im) : pieceOf im j ≠ [] := by
  intro e
  have h1 := h.len j hj
  have h2 := h.tot
  rw [e] at h1
  split at h1
  · subst j; simp at h1; omega
  · simp at h1
theorem Fine.goodLen (h : Fine p x st im) (j : Nat) (hj : j < total im) : Sp.goodLen (pieceOf im j).length j (total im) = true := by
  have h1 := h.len j hj
  have h2 := h.tot
  unfold Sp.goodLen
  split
  · rename_i e
    have e2 : j = total im - 1 := by omega
    rw [if_pos e2] at h1
    simp only [within, decide_eq_true_eq]; omega
  · rename_i e
    rw [if_neg (by omega)] at h1
    simp [h1]
def piecesOf (im : List UInt8) (came : List Bool) : List (List UInt8) := (List.range (total im)).map fun j => if came.getD j false then pieceOf im j else []
theorem piecesOf_length (came : List Bool) : (piecesOf im came).length = total im := by simp [piecesOf]
theorem piecesOf_get (came : List Bool) (j : Nat) (hj : j < total im) : (piecesOf im came).getD j [] = if came.getD j false then pieceOf im j else [] := by
  simp [piecesOf, List.getD_eq_getElem?_getD, hj]
def stageOf (p : Int) (x : Xid) (st : Int) (im : List UInt8) (came : List Bool) : Stage := ⟨p, st, total im, x, piecesOf im came⟩
def recvOf (p : Int) (x : Xid) (st : Int) (im : List UInt8) (came : List Bool) : Recv := if came.any id then ⟨true, stageOf p x st im came⟩ else zeroR
theorem Fine.goodS (h : Fine p x st im) (came : List Bool) : Sp.goodS (stageOf p x st im came) = true := by
  have h2 := h.tot
  simp only [Sp.goodS, stageOf, Bool.and_eq_true, List.all_eq_true, List.mem_range, Bool.or_eq_true, decide_eq_true_eq, piecesOf_length]
  refine ⟨⟨⟨⟨⟨h.part, h.xid⟩, h.stage⟩, by simp only [within, decide_eq_true_eq]; omega⟩, trivial⟩, fun j hj => ?_⟩
  have e := piecesOf_get came j hj
  cases hc : came.getD j false with
  | false => rw [hc] at e; left; exact decide_eq_true e
  | true => rw [hc] at e; right; simp only [if_true] at e; rw [e]; exact h.goodLen j hj
theorem Fine.check (h : Fine p x st im) (k : Nat) (hk : k < total im) : Sp.check (cutNote p x st im k k (total im)) = 0 := by
  have h2 := h.tot
  have h3 := h.goodLen k hk
  simp only [Sp.check, cutNote, staged, Sp.pieces, h.part, h.xid, h.stage, h3]
  simp [within]
  omega
theorem Fine.chunk (h : Fine p x st im) (k : Nat) (hk : k < total im) : Sp.chunk (cutNote p x st im k k (total im)) = 0 := by
  simp only [Sp.chunk, h.check k hk]; simp [cutNote]
theorem any_id {l : List Bool} : l.any id = true ↔ ∃ j, j < l.length ∧ l.getD j false = true := by
  rw [List.any_eq_true]
  constructor
  · rintro ⟨b, hb, h⟩
    obtain ⟨j, hj, rfl⟩ := List.mem_iff_getElem.1 hb
    exact ⟨j, hj, by simpa [List.getD_eq_getElem?_getD, hj] using h⟩
  · rintro ⟨j, hj, h⟩
    refine ⟨l[j], List.getElem_mem hj, ?_⟩
    simpa [List.getD_eq_getElem?_getD, hj] using h
theorem Fine.goodR (h : Fine p x st im) (came : List Bool) (hl : came.length = total im) : Sp.goodR (recvOf p x st im came) = true := by
  unfold recvOf
  split
  · rename_i ha
    obtain ⟨j, hj, hc⟩ := any_id.1 ha
    simp only [Sp.goodR, h.goodS came, Bool.true_and]
    rw [if_neg (by simp)]
    refine List.any_eq_true.2 ⟨j, by simp [stageOf, piecesOf_length]; omega, ?_⟩
    have e := piecesOf_get came j (im := im) (by omega)
    rw [if_pos hc] at e
    have : ¬ (piecesOf im came).getD j [] = [] := by rw [e]; exact h.ne j (by omega)
    simp only [Bool.not_eq_true', decide_eq_false_iff_not]
    exact this
  · decide
theorem set_get (came : List Bool) (k j : Nat) (hk : k < came.length) : (came.set k true).getD j false = if j = k then true else came.getD j false := by
  simp only [List.getD_eq_getElem?_getD, List.getElem?_set]
  by_cases e : k = j
  · subst e; simp [hk]
  · rw [if_neg e, if_neg (Ne.symm e)]
theorem piecesOf_set (came : List Bool) (k : Nat) (hl : came.length = total im) (hk : k < total im) : (piecesOf im came).set k (pieceOf im k) = piecesOf im (came.set k true) := by
  apply List.ext_getElem?
  intro j
  rw [List.getElem?_set]
  by_cases hj : j < total im
  · have e1 : (piecesOf im came)[j]? = some (if came.getD j false then pieceOf im j else []) := by simp [piecesOf, hj]
    have e2 : (piecesOf im (came.set k true))[j]? = some (if (came.set k true).getD j false then pieceOf im j else []) := by simp [piecesOf, hj]
    rw [e1, e2, set_get came k j (by omega), piecesOf_length]
    by_cases e : k = j
    · subst e; simp [hj]
    · rw [if_neg e, if_neg (Ne.symm e)]
  · have e1 : (piecesOf im came)[j]? = none := List.getElem?_eq_none (by rw [piecesOf_length]; omega)
    have e2 : (piecesOf im (came.set k true))[j]? = none := List.getElem?_eq_none (by rw [piecesOf_length]; omega)
    rw [e1, e2, if_neg (by omega)]
theorem piecesOf_none (came : List Bool) (h : ¬ came.any id = true) : piecesOf im came = List.replicate (total im) [] := by
  apply List.ext_getElem?
  intro j
  rw [List.getElem?_replicate]
  by_cases hj : j < total im
  · rw [if_pos hj]
    have e1 : (piecesOf im came)[j]? = some (if came.getD j false then pieceOf im j else []) := by simp [piecesOf, hj]
    have e3 : came.getD j false = false := by
      cases hc : came.getD j false with
      | false => rfl
      | true =>
        refine absurd (any_id.2 ⟨j, ?_, hc⟩) h
        rcases Nat.lt_or_ge j came.length with h1 | h1
        · exact h1
        · rw [List.getD_eq_getElem?_getD, List.getElem?_eq_none h1] at hc; cases hc
    rw [e1, e3]; rfl
  · rw [if_neg hj]; exact List.getElem?_eq_none (by rw [piecesOf_length]; omega)
def ackOf (p : Int) (x : Xid) (st : Int) (im : List UInt8) (k : Nat) : Note := ⟨7, p, x, st, k, total im, 0, []⟩
theorem Fine.answer (h : Fine p x st im) (k : Nat) (hk : k < total im) : answer (cutNote p x st im k k (total im)) 7 0 = (ackOf p x st im k, 0) := by
  simp only [Sp.answer, h.check k hk]; simp [cutNote, ackOf]
theorem any_set (came : List Bool) (k : Nat) (hk : k < came.length) : (came.set k true).any id = true := any_id.2 ⟨k, by simpa using hk, by rw [set_get came k k hk, if_pos rfl]⟩
/-- A piece comes. -/
theorem Fine.take (h : Fine p x st im) (came : List Bool) (hl : came.length = total im) (k : Nat) (hk : k < total im) :
    take (recvOf p x st im came) (cutNote p x st im k k (total im)) = (recvOf p x st im (came.set k true), ackOf p x st im k, 0) := by
  have h1 := h.goodR came hl
  have h2 := h.check k hk
  have h3 := h.chunk k hk
  have hset : recvOf p x st im (came.set k true) = ⟨true, stageOf p x st im (came.set k true)⟩ := by rw [recvOf, if_pos (any_set came k (by omega))]
  have hcome : come (recvOf p x st im came) (cutNote p x st im k k (total im)) = (stageOf p x st im (came.set k true), 0) := by
    by_cases ha : came.any id = true
    · rw [recvOf, if_pos ha, come, if_pos (by simp [stageOf, cutNote])]
      have hadd : add (stageOf p x st im came) (cutNote p x st im k k (total im)) = (stageOf p x st im (came.set k true), decide ((stageOf p x st im came).pieces.getD k [] = []), 0) := by
        have hg : (stageOf p x st im came).pieces.getD k [] = if came.getD k false then pieceOf im k else [] := piecesOf_get came k hk
        have hn : (cutNote p x st im k k (total im)).index.toNat = k := by simp [cutNote]
        have hd : (cutNote p x st im k k (total im)).data = pieceOf im k := rfl
        have h4 : ¬ ((stageOf p x st im came).pieces.getD k [] ≠ [] ∧ (stageOf p x st im came).pieces.getD k [] ≠ pieceOf im k) := by
          rw [hg]; split <;> simp
        rw [add, if_neg (by rw [h.goodS came]; simp), if_neg (by rw [h3]; simp), if_neg (by simp [stageOf, cutNote]), hn, hd, if_neg h4]
        refine congrArg (fun z => (z, _, 0)) ?_
        simp only [stageOf]
        rw [piecesOf_set came k hl hk]
      rw [hadd]
    · rw [recvOf, if_neg ha, come, if_neg (by simp [zeroR]), begin_, if_neg (by rw [h3]; simp)]
      refine congrArg (fun z => (z, 0)) ?_
      simp only [stageOf]
      have e : (List.replicate (total im) []).set k (pieceOf im k) = piecesOf im (came.set k true) := by rw [← piecesOf_set came k hl hk, piecesOf_none came ha]
      rw [← e]; simp [cutNote]
  rw [Sp.take, if_neg (by rw [h1]; simp), if_neg (by rw [h2]; simp), if_neg (by simp [cutNote]), hcome, if_neg (by simp), h.answer k hk, hset]
theorem drop_flatten (im : List UInt8) : ∀ n, im.length ≤ 128 * n → ((List.range n).map fun j => pieceOf im j).flatten = im := by
  intro n hn
  have : ∀ m, m ≤ n → ((List.range m).map fun j => pieceOf im j).flatten = im.take (128 * m) := by
    intro m
    induction m with
    | zero => intro _; simp
    | succ m ih =>
      intro hm
      rw [List.range_succ, List.map_append, List.flatten_append, ih (by omega)]
      simp only [List.map_cons, List.map_nil, List.flatten_cons, List.flatten_nil, List.append_nil, pieceOf]
      rw [show 128 * (m + 1) = 128 * m + 128 by omega, List.take_add]
  rw [this n (Nat.le_refl _), List.take_of_length_le hn]
/-- The whole is there just if each came. -/
theorem Fine.whole (h : Fine p x st im) (came : List Bool) (hl : came.length = total im) : wholeR (recvOf p x st im came) = if (came.all id) = true then (im, true, 0) else ([], false, 0) := by
  have h2 := h.tot
  rw [wholeR, if_neg (by rw [h.goodR came hl]; simp)]
  by_cases ha : came.any id = true
  · rw [recvOf, if_pos ha, if_neg (by simp)]
    show Sp.whole (stageOf p x st im came) = _
    rw [Sp.whole, if_neg (by rw [h.goodS came]; simp)]
    by_cases hall : came.all id = true
    · have hg : ∀ j, j < total im → came.getD j false = true := fun j hj => by
        have := List.all_eq_true.1 hall (came[j]'(by omega)) (List.getElem_mem _)
        simpa [List.getD_eq_getElem?_getD, show j < came.length by omega] using this
      rw [if_neg, if_pos hall]
      · refine congrArg (fun z => (z, true, 0)) ?_
        show (piecesOf im came).flatten = im
        have e : piecesOf im came = (List.range (total im)).map fun j => pieceOf im j := by
          unfold piecesOf
          refine List.map_congr_left fun j hj => ?_
          rw [if_pos (hg j (List.mem_range.1 hj))]
        rw [e, drop_flatten im _ h2.2.2.2]
      · simp only [Bool.not_eq_true]
        rw [List.any_eq_false]
        intro j hj
        have hj' : j < total im := by simpa [stageOf, piecesOf_length] using hj
        have e := piecesOf_get came j hj'
        rw [if_pos (hg j hj')] at e
        have : ¬ (piecesOf im came).getD j [] = [] := by rw [e]; exact h.ne j hj'
        simp only [decide_eq_true_eq]
        exact this
    · rw [if_neg hall, if_pos]
      have : ∃ j, j < came.length ∧ came.getD j false = false := by
        refine Classical.byContradiction fun hno => hall (List.all_eq_true.2 fun b hb => ?_)
        obtain ⟨j, hj, rfl⟩ := List.mem_iff_getElem.1 hb
        cases hc : came[j] with
        | true => rfl
        | false => exact absurd ⟨j, hj, by simp [List.getD_eq_getElem?_getD, hj, hc]⟩ hno
      obtain ⟨j, hj, hc⟩ := this
      refine List.any_eq_true.2 ⟨j, by simp [stageOf, piecesOf_length]; omega, ?_⟩
      have e := piecesOf_get came j (im := im) (by omega)
      rw [hc] at e
      exact decide_eq_true e
  · rw [recvOf, if_neg ha, if_pos (show zeroR.on = false from rfl), if_neg]
    intro hall
    refine ha (any_id.2 ⟨0, by omega, ?_⟩)
    have := List.all_eq_true.1 hall (came[0]'(by omega)) (List.getElem_mem _)
    simpa [List.getD_eq_getElem?_getD, show 0 < came.length by omega] using this
/-- How many haven't come. -/
def leftOf (came : List Bool) : Nat := (came.filter fun b => !b).length
end
section
variable {p : Int} {x : Xid} {st : Int} {im : List UInt8}
def fresh (p : Int) (x : Xid) (st : Int) (im : List UInt8) : Send := ⟨p, x, st, im, List.replicate (total im) false, 0⟩
theorem Fine.start (h : Fine p x st im) : Sp.start p x st im = (fresh p x st im, 0) := by
  rw [Sp.start, if_neg (by rw [h.cut]; simp), h.cut]; simp [fresh, notes_length]
theorem Fine.due (h : Fine p x st im) : Sp.due (fresh p x st im) = (notes p x st im, 0) := by
  have hc : cutS (fresh p x st im) = (notes p x st im, 0) := h.cut
  rw [Sp.due, if_neg]
  · refine congrArg (fun z => (z, 0)) ?_
    rw [hc, dueTo, hc]
    have e : ((List.range (notes p x st im).length).filter fun j => !(fresh p x st im).acked.getD j false) = List.range (notes p x st im).length := by
      rw [List.filter_eq_self]
      intro j hj
      simp only [fresh, List.getD_eq_getElem?_getD, List.getElem?_replicate]
      split <;> rfl
    rw [e]
    apply List.ext_getElem?
    intro j
    by_cases hj : j < (notes p x st im).length
    · simp [List.getD_eq_getElem?_getD, hj]
    · rw [List.getElem?_eq_none (by simpa using hj), List.getElem?_eq_none (by omega)]
  · simp only [goodSend, hc]; simp [fresh, notes_length]
end
end Sp
/-- Numbers in a row. -/
def iAt (l : List Int) (j : Nat) : AV := .int .i64 (l.getD j 0)
end Go.Fy
/- Plain Lean: rounds and acknowledgements of one image on its way (my own text; no program in sight). -/
set_option linter.unusedSimpArgs false
namespace Go.Fy
namespace Sp
def round (s : Send) (tries : Int) : Send × List Note × Bool × Nat :=
  if (due s).2 ≠ 0 then (zeroSend, [], false, (due s).2) else if tries ≤ s.rounds then (s, [], false, 0) else ({ s with rounds := s.rounds + 1 }, (due s).1, true, 0)
def ack (s : Send) (n : Note) : Send × Bool × Nat :=
  if goodSend s = false then (zeroSend, false, 9)
  else if check n ≠ 0 then (zeroSend, false, check n)
  else if n.kind ≠ 7 then (zeroSend, false, 7)
  else if n.part ≠ s.part ∨ n.xid ≠ s.xid ∨ n.stage ≠ s.stage ∨ n.total ≠ s.acked.length then (zeroSend, false, 10)
  else ({ s with acked := s.acked.set n.index.toNat true }, !s.acked.getD n.index.toNat false, 0)
def arrived (s : Send) : Bool × Nat := if goodSend s = false then (false, 9) else (s.acked.all id, 0)
/-- What befalls a note: by its place in turn. -/
def fate (n : Nat) (f : Nat → Int) (i : Nat) : Int := if n = 0 then 0 else f (i % n)
def times (f : Int) : Nat := if f = 1 then 0 else if f = 2 then 2 else 1
/-- An image on its way. -/
def sendOf (p : Int) (x : Xid) (st : Int) (im : List UInt8) (A : List Bool) (r : Nat) : Send := ⟨p, x, st, im, A, r⟩
/-- The pieces that still go. -/
def dueL (im : List UInt8) (A : List Bool) : List Nat := (List.range (total im)).filter fun j => !A.getD j false
def Ord (A B : List Bool) : Prop := ∀ j, A.getD j false = true → B.getD j false = true
theorem Ord.refl (A : List Bool) : Ord A A := fun _ h => h
theorem Ord.trans {A B C : List Bool} (h : Ord A B) (k : Ord B C) : Ord A C := fun j hj => k j (h j hj)
theorem Ord.set {A B : List Bool} (h : Ord A B) (k : Nat) (hk : k < A.length) (hb : B.getD k false = true) : Ord (A.set k true) B := fun j hj => by
  rw [set_get A k j hk] at hj
  split at hj
  · next e => rw [e]; exact hb
  · exact h j hj
theorem Ord.all {A B : List Bool} (h : Ord A B) (hl : A.length = B.length) (ha : A.all id = true) : B.all id = true := by
  rw [List.all_eq_true] at *
  intro b hb
  obtain ⟨j, hj, rfl⟩ := List.mem_iff_getElem.1 hb
  have h1 := ha A[j] (List.getElem_mem (by omega))
  have h2 := h j (by simpa [List.getD_eq_getElem?_getD, hl, hj] using h1)
  simpa [List.getD_eq_getElem?_getD, hj] using h2
section
variable {p : Int} {x : Xid} {st : Int} {im : List UInt8}
theorem Fine.goodSend (h : Fine p x st im) (A : List Bool) (r : Nat) (hl : A.length = total im) : Sp.goodSend (sendOf p x st im A r) = true := by
  have e := h.cut
  simp [Sp.goodSend, cutS, sendOf, e, notes_length, hl]
theorem Fine.dueOf (h : Fine p x st im) (A : List Bool) (r : Nat) (hl : A.length = total im) : Sp.due (sendOf p x st im A r) = ((dueL im A).map fun j => cutNote p x st im j j (total im), 0) := by
  have e := h.cut
  rw [Sp.due, if_neg (by rw [h.goodSend A r hl]; decide)]
  simp only [cutS, sendOf, e, dueTo, notes_length, dueL]
  congr 1
  refine List.map_congr_left fun j hj => ?_
  have := List.mem_range.1 (List.mem_filter.1 hj).1
  exact notes_get p x st im j this zero
theorem Fine.round (h : Fine p x st im) (A : List Bool) (r : Nat) (t : Int) (hl : A.length = total im) :
    Sp.round (sendOf p x st im A r) t = if t ≤ r then (sendOf p x st im A r, [], false, 0) else (sendOf p x st im A (r + 1), (dueL im A).map fun j => cutNote p x st im j j (total im), true, 0) := by
  rw [Sp.round, h.dueOf A r hl, if_neg (by simp)]
  rfl
theorem Fine.checkAck (h : Fine p x st im) (k : Nat) (hk : k < total im) : Sp.check (ackOf p x st im k) = 0 := by
  have h2 := h.tot
  simp only [Sp.check, ackOf, staged, Sp.pieces, h.part, h.xid, h.stage]
  simp [within]
  omega
theorem Fine.ack (h : Fine p x st im) (A : List Bool) (r : Nat) (hl : A.length = total im) (k : Nat) (hk : k < total im) :
    Sp.ack (sendOf p x st im A r) (ackOf p x st im k) = (sendOf p x st im (A.set k true) r, !A.getD k false, 0) := by
  rw [Sp.ack, h.goodSend A r hl, h.checkAck k hk]
  simp [sendOf, ackOf, hl]
theorem Fine.arrived (h : Fine p x st im) (A : List Bool) (r : Nat) (hl : A.length = total im) : Sp.arrived (sendOf p x st im A r) = (A.all id, 0) := by
  rw [Sp.arrived, h.goodSend A r hl]; rfl
end
end Sp
end Go.Fy
/- Plain Lean: check sums, over 32 bits (my own text; no program in sight). -/
set_option linter.unusedSimpArgs false
namespace Go.Fy
/-- A number of 32 bits. -/
def u32V (x : BitVec 32) : AV := .int .u32 (x.toNat : Int)
theorem bv_wrap (x : BitVec 32) : IntKind.u32.wrap (x.toNat : Int) = (x.toNat : Int) := by
  have := x.isLt
  simp only [IntKind.wrap, IntKind.bits, IntKind.signed]
  simp
  omega
theorem bv_ofInt (x : BitVec 32) : BitVec.ofInt 32 (x.toNat : Int) = x := by
  apply BitVec.eq_of_toNat_eq
  have := x.isLt
  simp
theorem bv_xor (x y : BitVec 32) : IntKind.u32.wrap ((BitVec.ofInt IntKind.u32.bits (x.toNat : Int) ^^^ BitVec.ofInt IntKind.u32.bits (y.toNat : Int)).toNat : Int) = ((x ^^^ y).toNat : Int) := by
  show IntKind.u32.wrap ((BitVec.ofInt 32 (x.toNat : Int) ^^^ BitVec.ofInt 32 (y.toNat : Int)).toNat : Int) = _
  rw [bv_ofInt, bv_ofInt, bv_wrap]
theorem bv_and (x y : BitVec 32) : IntKind.u32.wrap ((BitVec.ofInt IntKind.u32.bits (x.toNat : Int) &&& BitVec.ofInt IntKind.u32.bits (y.toNat : Int)).toNat : Int) = ((x &&& y).toNat : Int) := by
  show IntKind.u32.wrap ((BitVec.ofInt 32 (x.toNat : Int) &&& BitVec.ofInt 32 (y.toNat : Int)).toNat : Int) = _
  rw [bv_ofInt, bv_ofInt, bv_wrap]
theorem bv_shr (x : BitVec 32) (k : Nat) (hk : k ≤ 32) : (x.toNat : Int).fdiv (2 ^ (min (Int.toNat (k : Int)) IntKind.u32.bits)) = ((x >>> k).toNat : Int) := by
  have e : min (Int.toNat (k : Int)) IntKind.u32.bits = k := by simp [IntKind.bits]; omega
  rw [e, BitVec.toNat_ushiftRight, Nat.shiftRight_eq_div_pow, Int.fdiv_eq_ediv_of_nonneg _ (by exact Int.le_of_lt (Int.pow_pos (by decide)))]
  simp
namespace Sp
/-- One bit further. -/
def crcStep (x : BitVec 32) : BitVec 32 := if x &&& 1#32 = 1#32 then (x >>> 1) ^^^ 3988292384#32 else x >>> 1
def crcIter : Nat → BitVec 32 → BitVec 32
  | 0, x => x
  | k + 1, x => crcStep (crcIter k x)
def crcTab (i : Nat) : BitVec 32 := crcIter 8 (BitVec.ofNat 32 i)
/-- The table's place for a byte. -/
def crcIdx (reg : BitVec 32) (c : UInt8) : Nat := (reg.setWidth 8 ^^^ c.toBitVec).toNat
def crcByte (reg : BitVec 32) (c : UInt8) : BitVec 32 := crcTab (crcIdx reg c) ^^^ (reg >>> 8)
def crcMove (reg : BitVec 32) (l : List UInt8) : BitVec 32 := l.foldl crcByte reg
theorem crcIdx_lt (reg : BitVec 32) (c : UInt8) : crcIdx reg c < 256 := (reg.setWidth 8 ^^^ c.toBitVec).isLt
theorem crcMove_take (reg : BitVec 32) (l : List UInt8) (i : Nat) (h : i < l.length) : crcMove reg (l.take (i + 1)) = crcByte (crcMove reg (l.take i)) (l.getD i 0) := by
  unfold crcMove
  rw [List.take_add_one, List.foldl_append, List.getElem?_eq_getElem h]; simp [List.getD_eq_getElem?_getD, h]
end Sp
theorem bv8_idx (reg : BitVec 32) (c : UInt8) : IntKind.u8.wrap ((BitVec.ofInt IntKind.u8.bits (IntKind.u8.wrap (reg.toNat : Int)) ^^^ BitVec.ofInt IntKind.u8.bits (c.toNat : Int)).toNat : Int) = (Sp.crcIdx reg c : Int) := by
  have e1 : BitVec.ofInt 8 (IntKind.u8.wrap (reg.toNat : Int)) = reg.setWidth 8 := by
    apply BitVec.eq_of_toNat_eq
    simp [IntKind.wrap, IntKind.bits, IntKind.signed, BitVec.toNat_ofInt]
    try omega
  have e2 : BitVec.ofInt 8 (c.toNat : Int) = c.toBitVec := by
    apply BitVec.eq_of_toNat_eq
    simp
  show IntKind.u8.wrap ((BitVec.ofInt 8 (IntKind.u8.wrap (reg.toNat : Int)) ^^^ BitVec.ofInt 8 (c.toNat : Int)).toNat : Int) = _
  rw [e1, e2]
  have := Sp.crcIdx_lt reg c
  show IntKind.u8.wrap (Sp.crcIdx reg c : Int) = _
  simp only [IntKind.wrap, IntKind.bits, IntKind.signed]
  simp
  omega
theorem bv_compl (x : BitVec 32) : IntKind.u32.wrap ((BitVec.ofInt IntKind.u32.bits (if IntKind.u32.signed = true then -1 else IntKind.u32.max) ^^^ BitVec.ofInt IntKind.u32.bits (x.toNat : Int)).toNat : Int) = ((~~~x).toNat : Int) := by
  show IntKind.u32.wrap ((BitVec.allOnes 32 ^^^ BitVec.ofInt 32 (x.toNat : Int)).toNat : Int) = _
  rw [bv_ofInt, bv_wrap, BitVec.not_def]
namespace Sp
def byteOf (y : BitVec 32) : UInt8 := UInt8.ofBitVec (y.setWidth 8)
/-- The sum's four bytes, the lowest first. -/
def crcLaid (x : BitVec 32) : List UInt8 := [byteOf x, byteOf (x >>> 8), byteOf (x >>> 16), byteOf (x >>> 24)]
def crcSum (l : List UInt8) : BitVec 32 := ~~~ (crcMove (~~~ 0#32) l)
def crcSeal (l : List UInt8) : List UInt8 := l ++ crcLaid (crcSum l)
end Sp
theorem bv_byte (y : BitVec 32) : IntKind.u8.wrap (y.toNat : Int) = ((Sp.byteOf y).toNat : Int) := by
  have e : (Sp.byteOf y).toNat = y.toNat % 256 := by
    show (y.setWidth 8).toNat = _
    simp
  rw [e]
  simp only [IntKind.wrap, IntKind.bits, IntKind.signed]
  simp
end Go.Fy
/- Layer 1: the check sum's steps (walks over this dump). -/
namespace Go.Proofs.YtgaihhimkodmmaaDoor
attribute [local irreducible] Tryd.prog
open Go.Fy
set_option linter.unusedSimpArgs false
set_option linter.unusedVariables false
section
variable {ea : Nat → Addr} {cds : List Nat} {gl : Nat → Option AV}
theorem c155 (x : BitVec 32) : APure (V ea cds gl) 155 [u32V x] false (u32V (Sp.crcStep x)) := by
  have hs : (x.toNat : Int).fdiv (2 ^ min (Int.toNat 1) IntKind.u32.bits) = ((x >>> 1).toNat : Int) := bv_shr x 1 (by decide)
  have ha : IntKind.u32.wrap ((BitVec.ofInt IntKind.u32.bits (x.toNat : Int) &&& BitVec.ofInt IntKind.u32.bits 1).toNat : Int) = ((x &&& 1#32).toNat : Int) := bv_and x 1#32
  have hx : IntKind.u32.wrap ((BitVec.ofInt IntKind.u32.bits ((x >>> 1).toNat : Int) ^^^ BitVec.ofInt IntKind.u32.bits 3988292384).toNat : Int) = (((x >>> 1) ^^^ 3988292384#32).toNat : Int) := bv_xor (x >>> 1) 3988292384#32
  have h1 : ((x &&& 1#32).toNat : Int) = 1 ↔ x &&& 1#32 = 1#32 := by
    rw [BitVec.toNat_eq]; simp only [BitVec.toNat_ofNat]; omega
  refine acalls_of_body (N := 11) Tryd.func155 rfl rfl (Nat.le_of_ble_eq_true rfl) fun C hV hN hM hO => ?_
  obtain ⟨_, _, w0, G0, σ0, _, own0⟩ := C; dsimp only at hV hN hM hO; subst hV; subst hN; subst hM
  refine awp_seq ?_
  refine awp_region rfl ?_
  refine sP (opp_as (v := .int _ _) rfl rfl) rfl rfl ?_
  refine awp_seq ?_
  refine awp_seq ?_
  refine awp_region rfl ?_
  refine sP (opp_mv (v := .int _ _) rfl rfl) rfl rfl ?_
  refine sP (opp_arith rfl rfl rfl (.inr <| .inr <| .inr <| .inr <| .inr <| .inl ⟨rfl, rfl⟩)) rfl rfl ?_
  refine sP (opp_cmp rfl rfl rfl rfl) rfl rfl ?_
  refine awp_cond _ rfl (fun hc3 => ?_) (fun hc3 => ?_)
  · (try simp only [cmpI, errD_nil, Bool.not_eq_true', Bool.not_eq_false', decide_eq_true_eq, decide_eq_false_iff_not] at hc3); have ht5 := hc3
    refine awp_seq ?_
    refine awp_region rfl ?_
    refine sP (opp_mv (v := .int _ _) rfl rfl) rfl rfl ?_
    refine sP (opp_shift rfl rfl rfl (by omega) (.inr ⟨rfl, rfl⟩)) rfl rfl ?_
    refine sP (opp_arith rfl rfl rfl (.inr <| .inr <| .inr <| .inr <| .inr <| .inr <| .inr <| .inl ⟨rfl, rfl⟩)) rfl rfl ?_
    refine sP (opp_as (v := .int _ _) rfl rfl) rfl rfl ?_
    refine awp_ret ?_
    repeat (first | refine athen_ret ?_ | refine ain_ret ?_)
    first
      | refine apost_ret (aend1 (r0 := .int _ _) (.tmp .nil) (.noN rfl rfl) ⟨Wk.v ?_, rfl, rfl⟩)
      | refine apost_ret (aend1s (r0 := .int _ _) (.tmp .nil) shut rfl ⟨Wk.v ?_, rfl, rfl⟩)
    rw [ha, h1] at ht5; rw [hs, hx, Sp.crcStep, if_pos ht5]; exact .refl
  · (try simp only [cmpI, errD_nil, Bool.not_eq_true', Bool.not_eq_false', decide_eq_true_eq, decide_eq_false_iff_not] at hc3); have ht5 := hc3
    refine awp_skip ?_
    refine awp_seq ?_
    refine awp_region rfl ?_
    refine sP (opp_mv (v := .int _ _) rfl rfl) rfl rfl ?_
    refine sP (opp_shift rfl rfl rfl (by omega) (.inr ⟨rfl, rfl⟩)) rfl rfl ?_
    refine sP (opp_as (v := .int _ _) rfl rfl) rfl rfl ?_
    refine awp_ret ?_
    repeat (first | refine athen_ret ?_ | refine ain_ret ?_)
    first
      | refine apost_ret (aend1 (r0 := .int _ _) (.tmp .nil) (.noN rfl rfl) ⟨Wk.v ?_, rfl, rfl⟩)
      | refine apost_ret (aend1s (r0 := .int _ _) (.tmp .nil) shut rfl ⟨Wk.v ?_, rfl, rfl⟩)
    rw [ha, h1] at ht5; rw [hs, Sp.crcStep, if_neg ht5]; exact .refl
theorem co154 : AOwn (V ea cds gl) 154 [] false (.ptr 5 [] 0) [(5, some (.arr 1 256 (fun j => u32V (Sp.crcTab j))))] := by
  refine aown_of_body (N := 23) Tryd.func154 rfl rfl (Nat.le_of_ble_eq_true rfl) fun C hV hN hM hO => ?_
  obtain ⟨_, _, w0, G0, σ0, _, own0⟩ := C; dsimp only at hV hN hM hO; subst hV; subst hN; subst hM
  refine awp_seq ?_
  refine awp_region rfl ?_
  first | refine sP (opp_as (v := .ptr _ _ _) rfl rfl) rfl rfl ?_ | refine sP (opp_as (v := .val _) rfl rfl) rfl rfl ?_
  refine awp_seq ?_
  refine awp_region rfl ?_
  refine sP (opp_buildArr rfl z242 un242 (by kernel_rfl)) rfl rfl ?_
  refine sR (opr_box (y := .arr _ _ _) (n := 5) rfl rfl rfl) rfl rfl rfl ?_
  first
    | refine sP (opp_as (v := .ptr _ _ _) rfl rfl) rfl rfl ?_
    | refine sP (opp_as (v := .fptr _) rfl rfl) rfl rfl ?_
  refine awp_seq ?_
  refine awp_seq ?_
  refine awp_region rfl ?_
  refine sP (opp_mv (v := .int _ _) rfl rfl) rfl rfl ?_
  refine awp_block ?_
  refine awp_loopK (ι := Nat) (fun i => i ≤ 256) (fun i => [(2, .top), (3, .top), (6, .int .i64 i), (7, .top), (8, .top), (9, .top), (10, .top), (11, .top), (12, .top), (13, .top), (14, .top), (15, .top), (16, .top), (17, .top), (18, .top), (19, .top), (20, .top), (21, .top)]) (fun i => [(5, some (.arr 1 256 (fun j => u32V (if j < i then Sp.crcTab j else 0#32))))]) [] (fun i => 256 - i) (0) (Nat.zero_le _) (by
    refine imp_over [] rfl rfl (by kernel_rfl) ?_ ?_
    · refine And.intro wkv ?_
      refine And.intro wkv ?_
      refine And.intro wkv ?_
      refine And.intro wkv ?_
      refine And.intro wkv ?_
      refine And.intro wkv ?_
      refine And.intro wkv ?_
      refine And.intro wkv ?_
      refine And.intro wkv ?_
      refine And.intro wkv ?_
      refine And.intro wkv ?_
      refine And.intro wkv ?_
      refine And.intro wkv ?_
      refine And.intro wkv ?_
      refine And.intro wkv ?_
      refine And.intro wkv ?_
      refine And.intro wkv ?_
      refine And.intro wkv ?_
      exact True.intro
    · refine And.intro (And.intro rfl (And.intro rfl (Exists.intro _ (And.intro rfl (by exact WkC.arr (fun j hj => by simp [u32V])))))) ?_
      exact True.intro
    ) ?_
  intro i hi1
  refine awp_seq ?_
  refine awp_region rfl ?_
  refine sP (opp_cmp rfl rfl rfl rfl) rfl rfl ?_
  refine awp_seq ?_
  refine awp_cond _ rfl (fun hc5 => ?_) (fun hc5 => ?_)
  · (try simp only [cmpI, errD_nil, Bool.not_eq_true', Bool.not_eq_false', decide_eq_true_eq, decide_eq_false_iff_not] at hc5); have ht7 := hc5
    refine awp_skip ?_
    refine awp_seq ?_
    refine awp_block ?_
    refine awp_seq ?_
    refine awp_region rfl ?_
    refine sP (opp_mv (v := .int _ _) rfl rfl) rfl rfl ?_
    refine sP (opp_as (v := .int _ _) rfl rfl) rfl rfl ?_
    refine awp_seq ?_
    refine awp_region rfl ?_
    refine sP (opp_mv (v := .int _ _) rfl rfl) rfl rfl ?_
    first
      | refine sP (opp_convInt rfl rfl un3s un24 (wu32 (by omega))) rfl rfl ?_
      | refine sP (opp_convInt rfl rfl un3s un24 rfl) rfl rfl ?_
    refine sP (opp_as (v := .int _ _) rfl rfl) rfl rfl ?_
    refine awp_seq ?_
    refine awp_seq ?_
    refine awp_region rfl ?_
    refine sP (opp_mv (v := .int _ _) rfl rfl) rfl rfl ?_
    refine awp_block ?_
    refine awp_loopK (ι := Nat) (fun k => k ≤ 8) (fun k => [(3, u32V (Sp.crcIter k (BitVec.ofNat 32 i))), (11, .int .i64 k), (12, .top), (13, .top), (14, .top), (15, .top)]) (fun k => []) [] (fun k => 8 - k) (0) (Nat.zero_le _) (by
      refine imp_over [] rfl rfl (by kernel_rfl) ?_ ?_
      · refine And.intro (by exact Or.inr (And.intro rfl (WkV.of (by show AV.int .u32 _ = AV.int .u32 _; simp [Sp.crcIter]; omega)))) ?_
        refine And.intro wkv ?_
        refine And.intro wkv ?_
        refine And.intro wkv ?_
        refine And.intro wkv ?_
        refine And.intro wkv ?_
        exact True.intro
      · exact True.intro
      ) ?_
    intro k hi2
    refine awp_seq ?_
    refine awp_region rfl ?_
    refine sP (opp_cmp rfl rfl rfl rfl) rfl rfl ?_
    refine awp_seq ?_
    refine awp_cond _ rfl (fun hc10 => ?_) (fun hc10 => ?_)
    · (try simp only [cmpI, errD_nil, Bool.not_eq_true', Bool.not_eq_false', decide_eq_true_eq, decide_eq_false_iff_not] at hc10); have ht12 := hc10
      refine awp_skip ?_
      refine awp_seq ?_
      refine awp_block ?_
      refine awp_region rfl ?_
      refine sP (opp_mv (v := .int _ _) rfl rfl) rfl rfl ?_
      refine sR (opr_call rfl rfl ent155 rfl (c155 (Sp.crcIter k (BitVec.ofNat 32 i))) (AViews.refl _ rfl)) rfl rfl rfl ?_ -- d=14 t=24
      refine sP (opp_as (v := .int _ _) rfl rfl) rfl rfl ?_
      refine awp_region rfl ?_
      first
        | refine sP (opp_arith rfl rfl rfl (.inl ⟨rfl, w64 (by omega)⟩)) rfl rfl ?_
        | refine sP (opp_arith rfl rfl rfl (.inl ⟨rfl, rfl⟩)) rfl rfl ?_
      refine sP (opp_mv (v := .int _ _) rfl rfl) rfl rfl ?_
      refine Exists.intro (k + 1) (And.intro (And.intro ((by show k + 1 ≤ 8; omega)) (by omega)) (by
        refine imp_over [] rfl rfl (by kernel_rfl) ?_ ?_
        · refine And.intro wkv ?_
          refine And.intro wkv ?_
          refine And.intro wkv ?_
          refine And.intro wkv ?_
          refine And.intro wkv ?_
          refine And.intro wkv ?_
          exact True.intro
        · exact True.intro
        ))
    · (try simp only [cmpI, errD_nil, Bool.not_eq_true', Bool.not_eq_false', decide_eq_true_eq, decide_eq_false_iff_not] at hc10); have ht12 := hc10
      refine awp_exit ?_
      have hk8 : k = 8 := by omega
      subst hk8
      refine awp_region rfl ?_
      first
        | refine sP (opp_mv (v := .ptr _ _ _) rfl rfl) rfl rfl ?_
        | refine sP (opp_mv (v := .fptr _) rfl rfl) rfl rfl ?_
      refine sP (opp_mv (v := .int _ _) rfl rfl) rfl rfl ?_
      refine sP (opp_mv (v := .int _ _) rfl rfl) rfl rfl ?_
      first
        | refine sP (opp_nilCheckP rfl rfl) rfl rfl ?_
        | refine sP (opp_nilCheckF rfl rfl) rfl rfl ?_
      first
        | refine sP (opp_indexArrP rfl rfl rfl arr242 (by omega) (by omega)) rfl rfl ?_
        | refine sP (opp_indexArrF rfl rfl rfl arr242 (by omega) (by omega)) rfl rfl ?_
      refine sR0 (opr_storeA (v := .int _ _) rfl rfl rfl (by omega) (by first | rfl | omega) rfl rfl rfl rfl ty24) rfl rfl rfl ?_
      refine awp_region rfl ?_
      first
        | refine sP (opp_arith rfl rfl rfl (.inl ⟨rfl, w64 (by omega)⟩)) rfl rfl ?_
        | refine sP (opp_arith rfl rfl rfl (.inl ⟨rfl, rfl⟩)) rfl rfl ?_
      refine sP (opp_mv (v := .int _ _) rfl rfl) rfl rfl ?_
      refine Exists.intro (i + 1) (And.intro (And.intro ((by show i + 1 ≤ 256; omega)) (by omega)) (by
        refine imp_over [] rfl rfl (by kernel_rfl) ?_ ?_
        · refine And.intro wkv ?_
          refine And.intro wkv ?_
          refine And.intro wkv ?_
          refine And.intro wkv ?_
          refine And.intro wkv ?_
          refine And.intro wkv ?_
          refine And.intro wkv ?_
          refine And.intro wkv ?_
          refine And.intro wkv ?_
          refine And.intro wkv ?_
          refine And.intro wkv ?_
          refine And.intro wkv ?_
          refine And.intro wkv ?_
          refine And.intro wkv ?_
          refine And.intro wkv ?_
          refine And.intro wkv ?_
          refine And.intro wkv ?_
          refine And.intro wkv ?_
          exact True.intro
        · refine And.intro (And.intro rfl (And.intro rfl (Exists.intro _ (And.intro rfl (by exact WkC.arr (fun j hj => by by_cases e : j = i; (subst e; simp [Sp.crcTab, u32V]); simp [e, show j < i + 1 ↔ j < i by omega])))))) ?_
          exact True.intro
        ))
  · (try simp only [cmpI, errD_nil, Bool.not_eq_true', Bool.not_eq_false', decide_eq_true_eq, decide_eq_false_iff_not] at hc5); have ht7 := hc5
    refine awp_exit ?_
    refine awp_seq ?_
    refine awp_region rfl ?_
    first
      | refine sP (opp_mv (v := .ptr _ _ _) rfl rfl) rfl rfl ?_
      | refine sP (opp_mv (v := .fptr _) rfl rfl) rfl rfl ?_
    first | refine sP (opp_as (v := .ptr _ _ _) rfl rfl) rfl rfl ?_ | refine sP (opp_as (v := .val _) rfl rfl) rfl rfl ?_
    refine awp_ret ?_
    repeat (first | refine athen_ret ?_ | refine ain_ret ?_)
    refine opost_ret (oend1 (r0 := .ptr 5 [] 0) (.tmp .nil) (Shut.refl sfr) rfl ?_ (And.intro (Exists.intro _ (Exists.intro _ (And.intro rfl (And.intro shut (And.intro (fun h => by cases h) (And.intro ?_ rfl)))))) True.intro))
    · exact .refl
    · exact .arr (fun j hj => by rw [if_pos (show j < i by omega)])
theorem c149 (x : BitVec 32) (b : Bool) (im : List UInt8) (h0 : im.length ≤ 281474976710656) : APure (V ea cds gl) 149 [u32V x, .sl 1 b im.length (bAt im)] false (u32V (Sp.crcMove x im)) := by
  refine acalls_of_body (N := 32) Tryd.func149 rfl rfl (Nat.le_of_ble_eq_true rfl) fun C hV hN hM hO => ?_
  obtain ⟨_, _, w0, G0, σ0, _, own0⟩ := C; dsimp only at hV hN hM hO; subst hV; subst hN; subst hM
  refine awp_seq ?_
  refine awp_region rfl ?_
  refine sP (opp_as (v := .int _ _) rfl rfl) rfl rfl ?_
  refine awp_seq ?_
  refine awp_seq ?_
  refine awp_region rfl ?_
  first
    | refine sP (opp_mv (v := .sl _ _ _ _) rfl rfl) rfl rfl ?_
    | refine sP (opp_mv (v := .osl _ _ _ _ _) rfl rfl) rfl rfl ?_
  first
    | refine sP (opp_lenSl rfl rfl un36) rfl rfl ?_
    | refine sP (opp_lenOsl rfl rfl un36) rfl rfl ?_
  refine sP (opp_cmp rfl rfl rfl rfl) rfl rfl ?_
  refine awp_cond _ rfl (fun hc3 => ?_) (fun hc3 => ?_)
  · (try simp only [cmpI, errD_nil, Bool.not_eq_true', Bool.not_eq_false', decide_eq_true_eq, decide_eq_false_iff_not] at hc3); have ht10 := hc3
    refine awp_seq ?_
    refine awp_region rfl ?_
    refine sP (opp_mv (v := .int _ _) rfl rfl) rfl rfl ?_
    refine sP (opp_as (v := .int _ _) rfl rfl) rfl rfl ?_
    refine awp_ret ?_
    repeat (first | refine athen_ret ?_ | refine ain_ret ?_)
    first
      | refine apost_ret (aend1 (r0 := .int _ _) (.tmp .nil) (.noN rfl rfl) ⟨Wk.v ?_, rfl, rfl⟩)
      | refine apost_ret (aend1s (r0 := .int _ _) (.tmp .nil) shut rfl ⟨Wk.v ?_, rfl, rfl⟩)
    have hl0 : im = [] := List.length_eq_zero_iff.1 (by omega)
    subst hl0; exact .refl
  · (try simp only [cmpI, errD_nil, Bool.not_eq_true', Bool.not_eq_false', decide_eq_true_eq, decide_eq_false_iff_not] at hc3); have ht10 := hc3
    refine awp_skip ?_
    refine awp_seq ?_
    refine awp_region rfl ?_
    first
        | refine sR (opr_callO (rl := [(5, 12)]) (r1 := .val _) (H1 := [(12, some (.arr _ _ _))]) (n1 := [12]) rfl rfl ent154 rfl co154 (AViews.refl _ rfl) rfl rfl rfl rfl) rfl rfl rfl ?_
        | refine sR (opr_callO (rl := [(5, 12)]) (r1 := .fptr _) (H1 := [(12, some (.arr _ _ _))]) (n1 := [12]) rfl rfl ent154 rfl co154 (AViews.refl _ rfl) rfl rfl rfl rfl) rfl rfl rfl ?_
        | refine sR (opr_callO (rl := [(5, 12)]) (r1 := .ptr _ _ _) (H1 := [(12, some (.arr _ _ _))]) (n1 := [12]) rfl rfl ent154 rfl co154 (AViews.refl _ rfl) rfl rfl rfl rfl) rfl rfl rfl ?_
    first
      | refine sP (opp_as (v := .ptr _ _ _) rfl rfl) rfl rfl ?_
      | refine sP (opp_as (v := .fptr _) rfl rfl) rfl rfl ?_
    refine awp_seq ?_
    refine awp_seq ?_
    refine awp_region rfl ?_
    first
      | refine sP (opp_mv (v := .sl _ _ _ _) rfl rfl) rfl rfl ?_
      | refine sP (opp_mv (v := .osl _ _ _ _ _) rfl rfl) rfl rfl ?_
    first
      | refine sP (opp_lenSl rfl rfl un36) rfl rfl ?_
      | refine sP (opp_lenOsl rfl rfl un36) rfl rfl ?_
    refine sP (opp_mv (v := .int _ _) rfl rfl) rfl rfl ?_
    refine awp_block ?_
    refine awp_loopK (ι := Nat) (fun i => i ≤ im.length) (fun i => [(0, u32V (Sp.crcMove x (im.take i))), (7, .top), (15, .int .i64 i), (16, .top), (17, .top), (18, .top), (19, .top), (20, .top), (21, .top), (22, .top), (23, .top), (24, .top), (25, .top), (26, .top), (27, .top), (28, .top), (29, .top), (30, .top)]) (fun i => []) [] (fun i => im.length - i) (0) (Nat.zero_le _) (by
      refine imp_over [] rfl rfl (by kernel_rfl) ?_ ?_
      · refine And.intro wkv ?_
        refine And.intro wkv ?_
        refine And.intro wkv ?_
        refine And.intro wkv ?_
        refine And.intro wkv ?_
        refine And.intro wkv ?_
        refine And.intro wkv ?_
        refine And.intro wkv ?_
        refine And.intro wkv ?_
        refine And.intro wkv ?_
        refine And.intro wkv ?_
        refine And.intro wkv ?_
        refine And.intro wkv ?_
        refine And.intro wkv ?_
        refine And.intro wkv ?_
        refine And.intro wkv ?_
        refine And.intro wkv ?_
        refine And.intro wkv ?_
        exact True.intro
      · exact True.intro
      ) ?_
    intro i hi1; have hsx : ((Sp.crcMove x (im.take i)).toNat : Int).fdiv (2 ^ min (Int.toNat 8) IntKind.u32.bits) = ((Sp.crcMove x (im.take i) >>> 8).toNat : Int) := bv_shr _ 8 (by decide); have hix := bv8_idx (Sp.crcMove x (im.take i)) (im.getD (Int.toNat (i : Int)) 0); have hil := Sp.crcIdx_lt (Sp.crcMove x (im.take i)) (im.getD (Int.toNat (i : Int)) 0)
    refine awp_seq ?_
    refine awp_region rfl ?_
    refine sP (opp_cmp rfl rfl rfl rfl) rfl rfl ?_
    refine awp_seq ?_
    refine awp_cond _ rfl (fun hc8 => ?_) (fun hc8 => ?_)
    · (try simp only [cmpI, errD_nil, Bool.not_eq_true', Bool.not_eq_false', decide_eq_true_eq, decide_eq_false_iff_not] at hc8); have ht16 := hc8
      refine awp_skip ?_
      refine awp_seq ?_
      refine awp_block ?_
      refine awp_seq ?_
      refine awp_region rfl ?_
      first
        | refine sP (opp_indexSl rfl rfl rfl el36 (by omega) (by omega)) rfl rfl ?_
        | refine sP (opp_indexOsl0 rfl rfl rfl el36 (by omega) (by omega)) rfl rfl ?_
        | refine sP (opp_indexOsl rfl rfl rfl el36 (by omega) (by omega)) rfl rfl ?_
      first
        | refine sP (opp_loadP rfl rfl rfl rfl bi rfl ty5) rfl rfl ?_
        | refine sP (opp_loadF rfl rfl ty5) rfl rfl ?_
      refine sP (opp_as (v := .int _ _) rfl rfl) rfl rfl ?_
      refine awp_region rfl ?_
      first
        | refine sP (opp_mv (v := .ptr _ _ _) rfl rfl) rfl rfl ?_
        | refine sP (opp_mv (v := .fptr _) rfl rfl) rfl rfl ?_
      refine sP (opp_mv (v := .int _ _) rfl rfl) rfl rfl ?_
      first
        | refine sP (opp_convInt rfl rfl un24s un5 (wu8 (by omega))) rfl rfl ?_
        | refine sP (opp_convInt rfl rfl un24s un5 rfl) rfl rfl ?_
      refine sP (opp_mv (v := .int _ _) rfl rfl) rfl rfl ?_
      refine sP (opp_arith rfl rfl rfl (.inr <| .inr <| .inr <| .inr <| .inr <| .inr <| .inr <| .inl ⟨rfl, rfl⟩)) rfl rfl ?_
      rw [hix]
      first
        | refine sP (opp_nilCheckP rfl rfl) rfl rfl ?_
        | refine sP (opp_nilCheckF rfl rfl) rfl rfl ?_
      first
        | refine sP (opp_indexArrP rfl rfl rfl arr242 (by omega) (by omega)) rfl rfl ?_
        | refine sP (opp_indexArrF rfl rfl rfl arr242 (by omega) (by omega)) rfl rfl ?_
      refine sP (opp_loadP rfl rfl rfl rfl bi (by simp [offP]) ty24) rfl rfl ?_
      refine sP (opp_mv (v := .int _ _) rfl rfl) rfl rfl ?_
      refine sP (opp_shift rfl rfl rfl (by omega) (.inr ⟨rfl, rfl⟩)) rfl rfl ?_
      refine sP (opp_arith rfl rfl rfl (.inr <| .inr <| .inr <| .inr <| .inr <| .inr <| .inr <| .inl ⟨rfl, rfl⟩)) rfl rfl ?_
      refine sP (opp_as (v := .int _ _) rfl rfl) rfl rfl ?_
      refine awp_region rfl ?_
      first
        | refine sP (opp_arith rfl rfl rfl (.inl ⟨rfl, w64 (by omega)⟩)) rfl rfl ?_
        | refine sP (opp_arith rfl rfl rfl (.inl ⟨rfl, rfl⟩)) rfl rfl ?_
      refine sP (opp_mv (v := .int _ _) rfl rfl) rfl rfl ?_
      refine Exists.intro (i + 1) (And.intro (And.intro ((by show i + 1 ≤ im.length; omega)) (by omega)) (by
        refine imp_over [] rfl rfl (by kernel_rfl) ?_ ?_
        · refine And.intro (by exact Or.inr (And.intro rfl (WkV.of (by show AV.int .u32 (IntKind.u32.wrap ((BitVec.ofInt IntKind.u32.bits ((Sp.crcTab (Int.toNat (Sp.crcIdx (Sp.crcMove x (im.take i)) (im.getD (Int.toNat (i : Int)) 0) : Int))).toNat : Int) ^^^ BitVec.ofInt IntKind.u32.bits (((Sp.crcMove x (im.take i)).toNat : Int).fdiv (2 ^ min (Int.toNat 8) IntKind.u32.bits))).toNat : Int)) = u32V (Sp.crcMove x (im.take (i + 1))); rw [hsx, bv_xor, Int.toNat_natCast, Int.toNat_natCast, Sp.crcMove_take x im i (by omega)]; rfl)))) ?_
          refine And.intro wkv ?_
          refine And.intro wkv ?_
          refine And.intro wkv ?_
          refine And.intro wkv ?_
          refine And.intro wkv ?_
          refine And.intro wkv ?_
          refine And.intro wkv ?_
          refine And.intro wkv ?_
          refine And.intro wkv ?_
          refine And.intro wkv ?_
          refine And.intro wkv ?_
          refine And.intro wkv ?_
          refine And.intro wkv ?_
          refine And.intro wkv ?_
          refine And.intro wkv ?_
          refine And.intro wkv ?_
          refine And.intro wkv ?_
          exact True.intro
        · exact True.intro
        ))
    · (try simp only [cmpI, errD_nil, Bool.not_eq_true', Bool.not_eq_false', decide_eq_true_eq, decide_eq_false_iff_not] at hc8); have ht16 := hc8
      refine awp_exit ?_
      refine awp_seq ?_
      refine awp_region rfl ?_
      refine sP (opp_mv (v := .int _ _) rfl rfl) rfl rfl ?_
      refine sP (opp_as (v := .int _ _) rfl rfl) rfl rfl ?_
      refine awp_ret ?_
      repeat (first | refine athen_ret ?_ | refine ain_ret ?_)
      first
        | refine apost_ret (aend1 (r0 := .int _ _) (.tmp .nil) (.noN rfl rfl) ⟨Wk.v ?_, rfl, rfl⟩)
        | refine apost_ret (aend1s (r0 := .int _ _) (.tmp .nil) shut rfl ⟨Wk.v ?_, rfl, rfl⟩)
      have hi2 : i = im.length := by omega
      subst hi2; rw [List.take_length]; exact .refl
theorem c136 (s : BitVec 32) (b : Bool) (im : List UInt8) (h0 : im.length ≤ 281474976710656) : APure (V ea cds gl) 136 [u32V s, .sl 1 b im.length (bAt im)] false (u32V (~~~ (Sp.crcMove (~~~ s) im))) := by
  have hcs := bv_compl s
  have hcm := bv_compl (Sp.crcMove (~~~ s) im)
  refine acalls_of_body (N := 10) Tryd.func136 rfl rfl (Nat.le_of_ble_eq_true rfl) fun C hV hN hM hO => ?_
  obtain ⟨_, _, w0, G0, σ0, _, own0⟩ := C; dsimp only at hV hN hM hO; subst hV; subst hN; subst hM
  refine awp_seq ?_
  refine awp_region rfl ?_
  refine sP (opp_as (v := .int _ _) rfl rfl) rfl rfl ?_
  refine awp_seq ?_
  refine awp_region rfl ?_
  refine sP (opp_mv (v := .int _ _) rfl rfl) rfl rfl ?_
  refine sP (opp_compl (n := ((~~~ s).toNat : Int)) rfl rfl hcs) rfl rfl ?_
  first
    | refine sP (opp_mv (v := .sl _ _ _ _) rfl rfl) rfl rfl ?_
    | refine sP (opp_mv (v := .osl _ _ _ _ _) rfl rfl) rfl rfl ?_
  refine sR (opr_call rfl rfl ent149 rfl (c149 (~~~ s) b im h0) (AViews.refl _ rfl)) rfl rfl rfl ?_ -- d=8 t=24
  refine sP (opp_compl (n := ((~~~ (Sp.crcMove (~~~ s) im)).toNat : Int)) rfl rfl hcm) rfl rfl ?_
  refine sP (opp_as (v := .int _ _) rfl rfl) rfl rfl ?_
  refine awp_ret ?_
  repeat (first | refine athen_ret ?_ | refine ain_ret ?_)
  first
    | refine apost_ret (aend1 (r0 := .int _ _) (.tmp .nil) (.noN rfl rfl) ⟨Wk.v ?_, rfl, rfl⟩)
    | refine apost_ret (aend1s (r0 := .int _ _) (.tmp .nil) shut rfl ⟨Wk.v ?_, rfl, rfl⟩)
  exact .refl
theorem c109 (b : Bool) (im : List UInt8) (h0 : im.length ≤ 281474976710656) : APure (V ea cds gl) 109 [.sl 1 b im.length (bAt im)] false (u32V (~~~ (Sp.crcMove (~~~ 0#32) im))) := by
  refine acalls_of_body (N := 5) Tryd.func109 rfl rfl (Nat.le_of_ble_eq_true rfl) fun C hV hN hM hO => ?_
  obtain ⟨_, _, w0, G0, σ0, _, own0⟩ := C; dsimp only at hV hN hM hO; subst hV; subst hN; subst hM
  refine awp_seq ?_
  refine awp_region rfl ?_
  refine sP (opp_as (v := .int _ _) rfl rfl) rfl rfl ?_
  refine awp_seq ?_
  refine awp_region rfl ?_
  first
    | refine sP (opp_mv (v := .sl _ _ _ _) rfl rfl) rfl rfl ?_
    | refine sP (opp_mv (v := .osl _ _ _ _ _) rfl rfl) rfl rfl ?_
  refine sR (opr_call rfl rfl ent136 rfl (c136 0#32 b im h0) (AViews.refl _ rfl)) rfl rfl rfl ?_ -- d=4 t=24
  refine sP (opp_as (v := .int _ _) rfl rfl) rfl rfl ?_
  refine awp_ret ?_
  repeat (first | refine athen_ret ?_ | refine ain_ret ?_)
  first
    | refine apost_ret (aend1 (r0 := .int _ _) (.tmp .nil) (.noN rfl rfl) ⟨Wk.v ?_, rfl, rfl⟩)
    | refine apost_ret (aend1s (r0 := .int _ _) (.tmp .nil) shut rfl ⟨Wk.v ?_, rfl, rfl⟩)
  exact .refl
theorem co108 (x : BitVec 32) : AOwn (V ea cds gl) 108 [u32V x] false (.osl 14 1 0 4 4) [(14, some (.arr 1 4 (bAt (Sp.crcLaid x))))] := by
  have h0 := bv_byte x
  have s1 : (x.toNat : Int).fdiv (2 ^ min (Int.toNat 8) IntKind.u32.bits) = ((x >>> 8).toNat : Int) := bv_shr x 8 (by decide)
  have s2 : (x.toNat : Int).fdiv (2 ^ min (Int.toNat 16) IntKind.u32.bits) = ((x >>> 16).toNat : Int) := bv_shr x 16 (by decide)
  have s3 : (x.toNat : Int).fdiv (2 ^ min (Int.toNat 24) IntKind.u32.bits) = ((x >>> 24).toNat : Int) := bv_shr x 24 (by decide)
  refine aown_of_body (N := 15) Tryd.func108 rfl rfl (Nat.le_of_ble_eq_true rfl) fun C hV hN hM hO => ?_
  obtain ⟨_, _, w0, G0, σ0, _, own0⟩ := C; dsimp only at hV hN hM hO; subst hV; subst hN; subst hM
  refine awp_seq ?_
  refine awp_region rfl ?_
  first
    | refine sP (opp_as (v := .sl _ _ _ _) rfl rfl) rfl rfl ?_
    | refine sP (opp_as (v := .osl _ _ _ _ _) rfl rfl) rfl rfl ?_
  refine awp_seq ?_
  refine awp_region rfl ?_
  refine sP (opp_mv (v := .int _ _) rfl rfl) rfl rfl ?_
  first
    | refine sP (opp_convInt rfl rfl un24s un5 (wu8 (by omega))) rfl rfl ?_
    | refine sP (opp_convInt rfl rfl un24s un5 rfl) rfl rfl ?_
  refine sP (opp_mv (v := .int _ _) rfl rfl) rfl rfl ?_
  refine sP (opp_shift rfl rfl rfl (by omega) (.inr ⟨rfl, rfl⟩)) rfl rfl ?_
  first
    | refine sP (opp_convInt rfl rfl un24s un5 (wu8 (by omega))) rfl rfl ?_
    | refine sP (opp_convInt rfl rfl un24s un5 rfl) rfl rfl ?_
  refine sP (opp_mv (v := .int _ _) rfl rfl) rfl rfl ?_
  refine sP (opp_shift rfl rfl rfl (by omega) (.inr ⟨rfl, rfl⟩)) rfl rfl ?_
  first
    | refine sP (opp_convInt rfl rfl un24s un5 (wu8 (by omega))) rfl rfl ?_
    | refine sP (opp_convInt rfl rfl un24s un5 rfl) rfl rfl ?_
  refine sP (opp_mv (v := .int _ _) rfl rfl) rfl rfl ?_
  refine sP (opp_shift rfl rfl rfl (by omega) (.inr ⟨rfl, rfl⟩)) rfl rfl ?_
  first
    | refine sP (opp_convInt rfl rfl un24s un5 (wu8 (by omega))) rfl rfl ?_
    | refine sP (opp_convInt rfl rfl un24s un5 rfl) rfl rfl ?_
  refine sR (opr_buildSlice (n := 14) (g := fun j => if j = 3 then .int _ _ else if j = 2 then .int _ _ else if j = 1 then .int _ _ else if j = 0 then .int _ _ else .int .u8 0) rfl eb36 z5 (by decide) rfl rfl) rfl rfl rfl ?_
  first
    | refine sP (opp_as (v := .sl _ _ _ _) rfl rfl) rfl rfl ?_
    | refine sP (opp_as (v := .osl _ _ _ _ _) rfl rfl) rfl rfl ?_
  refine awp_ret ?_
  repeat (first | refine athen_ret ?_ | refine ain_ret ?_)
  first
    | refine opost_ret (oend1 (r0 := .sl _ _ _ _) (.tmp .nil) shut rfl ?_ (And.intro (Exists.intro _ (Exists.intro _ (And.intro rfl (And.intro shut (And.intro (fun h => by cases h) (And.intro ?_ rfl)))))) True.intro))
    | refine opost_ret (oend1 (r0 := .osl _ _ _ _ _) (.tmp .nil) shut rfl ?_ (And.intro (Exists.intro _ (Exists.intro _ (And.intro rfl (And.intro shut (And.intro (fun h => by cases h) (And.intro ?_ rfl)))))) True.intro))
  · exact .refl
  · refine .arr (fun j hj => ?_)
    rw [s1, s2, s3, bv_byte, bv_byte, bv_byte, bv_byte]
    rcases j with _ | _ | _ | _ | j
    · rfl
    · rfl
    · rfl
    · rfl
    · exact absurd hj (by omega)
theorem c71 (im : List UInt8) (h0 : im.length ≤ 1099511627776) : APure (V ea cds gl) 71 [.sl 1 false im.length (bAt im)] false (.sl 1 false (Sp.crcSeal im).length (bAt (Sp.crcSeal im))) := by
  refine acalls_of_body (N := 9) Tryd.func71 rfl rfl (Nat.le_of_ble_eq_true rfl) fun C hV hN hM hO => ?_
  obtain ⟨_, _, w0, G0, σ0, _, own0⟩ := C; dsimp only at hV hN hM hO; subst hV; subst hN; subst hM
  refine awp_seq ?_
  refine awp_region rfl ?_
  first
    | refine sP (opp_as (v := .sl _ _ _ _) rfl rfl) rfl rfl ?_
    | refine sP (opp_as (v := .osl _ _ _ _ _) rfl rfl) rfl rfl ?_
  refine awp_seq ?_
  refine awp_region rfl ?_
  first
    | refine sP (opp_mv (v := .sl _ _ _ _) rfl rfl) rfl rfl ?_
    | refine sP (opp_mv (v := .osl _ _ _ _ _) rfl rfl) rfl rfl ?_
  first
      | refine sR (opr_callO (rl := [(7, 4)]) (r1 := .osl _ _ _ _ _) (H1 := [(4, some (.arr _ _ _))]) (n1 := [4]) rfl rfl ent74 rfl (co74 im.length (bAt im) (by omega)) (AViews.refl _ rfl) rfl rfl rfl rfl) rfl rfl rfl ?_
      | refine sR (opr_callO (rl := [(7, 4)]) (r1 := .sl _ _ _ _) (H1 := [(4, some (.arr _ _ _))]) (n1 := [4]) rfl rfl ent74 rfl (co74 im.length (bAt im) (by omega)) (AViews.refl _ rfl) rfl rfl rfl rfl) rfl rfl rfl ?_
  first
    | refine sP (opp_mv (v := .sl _ _ _ _) rfl rfl) rfl rfl ?_
    | refine sP (opp_mv (v := .osl _ _ _ _ _) rfl rfl) rfl rfl ?_
  refine sR (opr_call rfl rfl ent109 rfl (c109 false im (by omega)) (AViews.refl _ rfl)) rfl rfl rfl ?_ -- d=6 t=24
  first
      | refine sR (opr_callO (rl := [(14, 7)]) (r1 := .osl _ _ _ _ _) (H1 := [(7, some (.arr _ _ _))]) (n1 := [7]) rfl rfl ent108 rfl (co108 (Sp.crcSum im)) (AViews.refl _ rfl) rfl rfl rfl rfl) rfl rfl rfl ?_
      | refine sR (opr_callO (rl := [(14, 7)]) (r1 := .sl _ _ _ _) (H1 := [(7, some (.arr _ _ _))]) (n1 := [7]) rfl rfl ent108 rfl (co108 (Sp.crcSum im)) (AViews.refl _ rfl) rfl rfl rfl rfl) rfl rfl rfl ?_
  first
    | refine sR (opr_append (d := 8) rfl rfl rfl (by omega) (.osl0 rfl (by omega)) eb36 z5 (by omega) (by omega)) rfl rfl rfl ?_
    | refine sR (opr_append (d := 8) rfl rfl rfl (by omega) .sl eb36 z5 (by omega) (by omega)) rfl rfl rfl ?_
    | refine sR (opr_append (d := 8) rfl rfl rfl (by omega) (.osl rfl (by omega) (fun _ _ => rfl)) eb36 z5 (by omega) (by omega)) rfl rfl rfl ?_
    | refine sR (opr_appendNil (d := 8) rfl rfl (.osl0 rfl (by omega)) eb36 z5 (by omega) (by omega) (by omega)) rfl rfl rfl ?_
    | refine sR (opr_appendNil (d := 8) rfl rfl .sl eb36 z5 (by omega) (by omega) (by omega)) rfl rfl rfl ?_
    | refine sR (opr_appendNil (d := 8) rfl rfl (.osl rfl (by omega) (fun _ _ => rfl)) eb36 z5 (by omega) (by omega) (by omega)) rfl rfl rfl ?_
  first
    | refine sP (opp_as (v := .sl _ _ _ _) rfl rfl) rfl rfl ?_
    | refine sP (opp_as (v := .osl _ _ _ _ _) rfl rfl) rfl rfl ?_
  refine awp_ret ?_
  repeat (first | refine athen_ret ?_ | refine ain_ret ?_)
  first
    | refine apost_ret (aend1 (r0 := .sl _ _ _ _) (.tmp .nil) (.noN rfl rfl) ⟨Wk.v ?_, rfl, rfl⟩)
    | refine apost_ret (aend1s (r0 := .sl _ _ _ _) (.tmp .nil) shut rfl ⟨Wk.v ?_, rfl, rfl⟩)
    | refine apost_ret (aend1 (r0 := .osl _ _ _ _ _) (.tmp .nil) (.noN rfl rfl) ⟨Wk.v ?_, rfl, rfl⟩)
    | refine apost_ret (aend1s (r0 := .osl _ _ _ _ _) (.tmp .nil) shut rfl ⟨Wk.v ?_, rfl, rfl⟩)
  have hl : (Sp.crcSeal im).length = im.length + 4 := by simp [Sp.crcSeal, Sp.crcLaid]
  rw [hl]; (repeat' (first | exact Wk.refl | exact Wk.sl0 | apply Wk.tup | apply Wk.agg | apply WkL.cons | exact WkL.nil | refine Wk.sl (fun _ _ => ?_)))
  rename_i j hj
  by_cases h1 : j < im.length
  · simp [bAt, Sp.crcSeal, h1, List.getD_eq_getElem?_getD, List.getElem?_append_left]
  · simp [bAt, Sp.crcSeal, h1, List.getD_eq_getElem?_getD, List.getElem?_append_right (Nat.le_of_not_lt h1)]
end
end Go.Proofs.YtgaihhimkodmmaaDoor
/- Plain Lean: numbers in bytes, notes in bytes (my own text; no program in sight). -/
set_option linter.unusedSimpArgs false
namespace Go.Fy
namespace Sp
/-- A number in w bytes, the highest first. -/
def be (n : Nat) : Nat → List UInt8
  | 0 => []
  | w + 1 => be (n / 256) w ++ [UInt8.ofNat (n % 256)]
/-- The number of bytes. -/
def num (l : List UInt8) : Nat := l.foldl (fun n c => n * 256 + c.toNat) 0
theorem be_length (n w : Nat) : (be n w).length = w := by
  induction w generalizing n with
  | zero => rfl
  | succ w ih => simp [be, ih]
theorem num_snoc (l : List UInt8) (c : UInt8) : num (l ++ [c]) = num l * 256 + c.toNat := by simp [num, List.foldl_append]
theorem num_be (n w : Nat) (h : n < 256 ^ w) : num (be n w) = n := by
  induction w generalizing n with
  | zero => simp at h; subst h; rfl
  | succ w ih =>
    rw [be, num_snoc, ih (n / 256) (by rw [Nat.div_lt_iff_lt_mul (by decide)]; rw [Nat.pow_succ] at h; exact h)]
    have : (UInt8.ofNat (n % 256)).toNat = n % 256 := by simp
    rw [this]; omega
theorem snoc_ind {P : List UInt8 → Prop} (h0 : P []) (h1 : ∀ l c, P l → P (l ++ [c])) : ∀ l, P l := by
  intro l
  have : ∀ n, ∀ l : List UInt8, l.length = n → P l := by
    intro n
    induction n with
    | zero => intro l hl; rw [List.length_eq_zero_iff.1 hl]; exact h0
    | succ n ih =>
      intro l hl
      have hne : l ≠ [] := fun h => by rw [h] at hl; cases hl
      rw [← List.dropLast_concat_getLast hne]
      exact h1 _ _ (ih _ (by rw [List.length_dropLast, hl]; rfl))
  exact this _ l rfl
theorem num_lt (l : List UInt8) : num l < 256 ^ l.length := by
  refine snoc_ind (P := fun l => num l < 256 ^ l.length) (by decide) (fun l c ih => ?_) l
  · skip
    rw [num_snoc, List.length_append, List.length_singleton, Nat.pow_succ]
    have := c.toNat_lt
    omega
theorem be_num (l : List UInt8) : be (num l) l.length = l := by
  refine snoc_ind (P := fun l => be (num l) l.length = l) rfl (fun l c ih => ?_) l
  · skip
    have hc := c.toNat_lt
    rw [num_snoc, List.length_append, List.length_singleton, be, show (num l * 256 + c.toNat) / 256 = num l by omega, ih, show (num l * 256 + c.toNat) % 256 = c.toNat by omega]
    simp
theorem be_getD (n : Nat) : ∀ (w j : Nat), j < w → (be n w).getD j 0 = UInt8.ofNat (n / 256 ^ (w - 1 - j) % 256) := by
  intro w
  induction w generalizing n with
  | zero => intro j hj; omega
  | succ w ih =>
    intro j hj
    rw [be, List.getD_eq_getElem?_getD, List.getElem?_append, be_length]
    by_cases h : j < w
    · rw [if_pos h]
      have := ih (n / 256) j h
      rw [List.getD_eq_getElem?_getD] at this
      rw [this, Nat.div_div_eq_div_mul, show w + 1 - 1 - j = (w - 1 - j) + 1 by omega, Nat.pow_succ, Nat.mul_comm]
    · have : j = w := by omega
      subst this
      rw [if_neg h]; simp
/-- Sealed bytes opened: the bytes, the number of the error. -/
def opened (s : List UInt8) : List UInt8 × Nat :=
  if s.length < 4 then ([], 1) else if crcLaid (crcSum (s.take (s.length - 4))) ≠ s.drop (s.length - 4) then ([], 6) else (s.take (s.length - 4), 0)
theorem opened_seal (l : List UInt8) : opened (crcSeal l) = (l, 0) := by
  have hl : (crcSeal l).length = l.length + 4 := by simp [crcSeal, crcLaid]
  have ht : (crcSeal l).take ((crcSeal l).length - 4) = l := by rw [hl]; simp [crcSeal]
  have hd : (crcSeal l).drop ((crcSeal l).length - 4) = crcLaid (crcSum l) := by rw [hl]; simp [crcSeal]
  unfold opened
  rw [if_neg (by omega), ht, hd, if_neg (by simp)]
theorem opened_ok {s : List UInt8} (h : (opened s).2 = 0) : 4 ≤ s.length ∧ (opened s).1 = s.take (s.length - 4) ∧ s = crcSeal (s.take (s.length - 4)) := by
  unfold opened at h ⊢
  by_cases h1 : s.length < 4
  · rw [if_pos h1] at h; cases h
  · rw [if_neg h1] at h ⊢
    by_cases h2 : crcLaid (crcSum (s.take (s.length - 4))) ≠ s.drop (s.length - 4)
    · rw [if_pos h2] at h; cases h
    · rw [if_neg h2] at h ⊢
      refine ⟨by omega, rfl, ?_⟩
      have h2 := Decidable.of_not_not h2
      rw [crcSeal, h2, List.take_append_drop]
/-- A field: w bytes from a place on. -/
def fld (s : List UInt8) (a w : Nat) : Nat := num ((s.drop a).take w)
/-- The note's bytes, but the sum. -/
def noteBytes (n : Note) : List UInt8 :=
  be (27 + n.data.length) 2 ++ (be n.kind.toNat 1 ++ (be n.part.toNat 1 ++ (be n.xid.boot.toNat 4 ++ (be n.xid.peer.toNat 4 ++ (be n.xid.num.toNat 4 ++ (be n.stage.toNat 1 ++ (be n.index.toNat 1 ++ (be n.total.toNat 1 ++ (be n.sum.toNat 4 ++ n.data)))))))))
def put (n : Note) : List UInt8 × Nat := if check n ≠ 0 then ([], check n) else (crcSeal (noteBytes n), 0)
/-- The note that stands in bytes (without the sum). -/
def noteOf (b : List UInt8) : Note := ⟨fld b 2 1, fld b 3 1, ⟨fld b 4 4, fld b 8 4, fld b 12 4⟩, fld b 16 1, fld b 17 1, fld b 18 1, fld b 19 4, b.drop 23⟩
def get (s : List UInt8) : Note × Nat :=
  if (opened s).2 ≠ 0 then (zero, (opened s).2) else if s.length < 27 then (zero, 1) else if fld (opened s).1 0 2 ≠ s.length then (zero, 5)
  else if check (noteOf (opened s).1) ≠ 0 then (zero, check (noteOf (opened s).1)) else (noteOf (opened s).1, 0)
theorem fld_append (a b : List UInt8) (k w : Nat) (h : a.length ≤ k) : fld (a ++ b) k w = fld b (k - a.length) w := by
  unfold fld
  rw [List.drop_append, List.drop_eq_nil_of_le h, List.nil_append]
theorem fld_head (a b : List UInt8) (w : Nat) (h : a.length = w) : fld (a ++ b) 0 w = num a := by
  subst h
  simp [fld]
theorem noteBytes_length (n : Note) : (noteBytes n).length = 23 + n.data.length := by
  simp [noteBytes, be_length]; omega
/-- What a note in form has. -/
theorem check_bounds {n : Note} (h : check n = 0) : 1 ≤ n.kind ∧ n.kind ≤ 7 ∧ 0 ≤ n.part ∧ n.part ≤ 7 ∧ 1 ≤ n.xid.boot ∧ n.xid.boot ≤ 2147483647 ∧ 1 ≤ n.xid.peer ∧ n.xid.peer ≤ 2147483647 ∧ 1 ≤ n.xid.num ∧ n.xid.num ≤ 2147483647 ∧
    0 ≤ n.stage ∧ n.stage ≤ 2 ∧ 0 ≤ n.index ∧ n.index ≤ 31 ∧ 0 ≤ n.total ∧ n.total ≤ 32 ∧ n.data.length ≤ 128 := by
  unfold check at h
  split at h
  · cases h
  · rename_i hk
    have hnot := fun h' => absurd (b := False) (ite_eq_right_iff.1 h h') (by decide)
    simp only [not_or, Bool.not_eq_false, imp_false] at hnot
    obtain ⟨h1, h2, h3, h4, -⟩ := hnot
    simp [within] at hk
    simp [goodPart, within] at h2
    simp [goodXid, within] at h3
    have hst : 0 ≤ n.stage ∧ n.stage ≤ 2 := by
      split at h1
      · simp [goodStage] at h1; omega
      · simp at h1; omega
    have hp : 0 ≤ n.index ∧ n.index ≤ 31 ∧ 0 ≤ n.total ∧ n.total ≤ 32 ∧ n.data.length ≤ 128 := by
      unfold pieces at h4
      by_cases k1 : n.kind = 1
      · rw [if_pos k1] at h4
        simp [within, goodLen] at h4
        obtain ⟨⟨h5, h6⟩, h7⟩ := h4
        split at h7
        · omega
        · have h7 : (n.data.length : Int) = 128 := by simpa using h7
          omega
      · rw [if_neg k1] at h4
        by_cases k7 : n.kind = 7
        · rw [if_pos k7] at h4
          simp [within] at h4
          obtain ⟨⟨h5, h6⟩, h7⟩ := h4
          subst_vars
          rw [h7]; simp; omega
        · rw [if_neg k7] at h4
          simp at h4
          obtain ⟨⟨h5, h6⟩, h7⟩ := h4
          rw [h7, h6, h5]; simp
    omega
theorem noteOf_bytes {n : Note} (h : check n = 0) (hs : 0 ≤ n.sum ∧ n.sum ≤ 4294967295) : noteOf (noteBytes n) = n ∧ fld (noteBytes n) 0 2 = 27 + n.data.length := by
  have hb := check_bounds h
  obtain ⟨kind, part, ⟨boot, peer, nu⟩, stage, index, total, sum, data⟩ := n
  simp only at hb hs
  have e : ∀ (x : Int) (w : Nat), 0 ≤ x → x.toNat < 256 ^ w → ((num (be x.toNat w) : Nat) : Int) = x := fun x w h1 h2 => by rw [num_be _ _ h2]; omega
  constructor
  · simp only [noteOf, noteBytes]
    simp only [fld_append, fld_head, be_length, Nat.reduceLeDiff, Nat.reduceSub, Nat.le_refl, Nat.sub_self]
    rw [e kind 1 (by omega) (by omega), e part 1 (by omega) (by omega), e boot 4 (by omega) (by omega), e peer 4 (by omega) (by omega), e nu 4 (by omega) (by omega), e stage 1 (by omega) (by omega), e index 1 (by omega) (by omega), e total 1 (by omega) (by omega), e sum 4 (by omega) (by omega)]
    congr 1
  · simp only [noteBytes]
    rw [fld_head _ _ _ (be_length _ _), num_be _ _ (by omega)]
theorem get_put {n : Note} (h : check n = 0) (hs : 0 ≤ n.sum ∧ n.sum ≤ 4294967295) : get (put n).1 = (n, 0) := by
  obtain ⟨h1, h2⟩ := noteOf_bytes h hs
  have hb := check_bounds h
  have e : put n = (crcSeal (noteBytes n), 0) := by rw [put, if_neg (by simpa using h)]
  have hl : (crcSeal (noteBytes n)).length = 27 + n.data.length := by simp [crcSeal, crcLaid, noteBytes_length]; omega
  rw [e]
  simp only [get, opened_seal, h1, h2, hl, h]
  simp
/-- Numbers behind one another. -/
def bes (w : Nat) (xs : List Nat) : List UInt8 := (xs.map fun x => be x w).flatten
theorem bes_take (w : Nat) (xs : List Nat) (i : Nat) (h : i < xs.length) : bes w (xs.take (i + 1)) = bes w (xs.take i) ++ be (xs.getD i 0) w := by
  unfold bes
  rw [List.take_add_one, List.getElem?_eq_getElem h, List.map_append, List.flatten_append]
  simp only [Option.toList_some, List.map_cons, List.map_nil, List.flatten_cons, List.flatten_nil, List.append_nil, List.getD_eq_getElem?_getD, List.getElem?_eq_getElem h, Option.getD_some]
theorem bes_length (w : Nat) (xs : List Nat) : (bes w xs).length = w * xs.length := by
  induction xs with
  | nil => rfl
  | cons x xs ih => simp [bes, be_length] at ih ⊢; rw [Nat.mul_add, Nat.mul_one]; omega
/-- What the laws begin with: a commit, an image of three pieces. -/
def kN : Note := ⟨4, 2, ⟨1, 3, 2⟩, 0, 0, 0, 0, []⟩
def kCut : List Note := [⟨1, 2, ⟨1, 3, 2⟩, 1, 0, 3, 0, List.replicate 128 0⟩, ⟨1, 2, ⟨1, 3, 2⟩, 1, 1, 3, 0, List.replicate 128 0⟩, ⟨1, 2, ⟨1, 3, 2⟩, 1, 2, 3, 0, List.replicate 44 0⟩]
def kB : List UInt8 := [0, 27, 4, 2, 0, 0, 0, 1, 0, 0, 0, 3, 0, 0, 0, 2, 0, 0, 0, 0, 0, 0, 0]
theorem k_check : check kN = 0 := by decide
theorem k_put : put kN = (crcSeal kB, 0) := by
  rw [put, if_neg (by rw [k_check]; simp)]
  have : noteBytes kN = kB := by decide
  rw [this]
theorem k_get : get (crcSeal kB) = (kN, 0) := by
  have := get_put k_check (by decide)
  rw [k_put] at this; exact this
theorem k_len : (crcSeal kB).length = 27 := by simp [crcSeal, crcLaid, kB]
theorem k_head : (crcSeal kB).take 23 = kB := by
  rw [crcSeal, List.take_append_of_le_length (by decide)]; rfl
theorem k_cut : cut 2 ⟨1, 3, 2⟩ 1 (List.replicate 300 0) = (kCut, 0) := by decide +kernel
end Sp
end Go.Fy
/- Layer 1: sealed bytes are opened (walks over this dump). -/
namespace Go.Proofs.YtgaihhimkodmmaaDoor
attribute [local irreducible] Tryd.prog
open Go.Fy
set_option linter.unusedSimpArgs false
set_option linter.unusedVariables false
section
variable {ea : Nat → Addr} {cds : List Nat} {gl : Nat → Option AV}
theorem c107 (x y : Bool) (a b : List UInt8) : APure (V ea cds gl) 107 [.sl 1 x a.length (bAt a), .sl 1 y b.length (bAt b)] true (.bool (decide (a = b))) := by
  refine acalls_of_body (N := 10) Tryd.func107 rfl rfl (Nat.le_of_ble_eq_true rfl) fun C hV hN hM hO => ?_
  obtain ⟨_, _, w0, G0, σ0, _, own0⟩ := C; dsimp only at hV hN hM hO; subst hV; subst hN; subst hM
  refine awp_seq ?_
  refine awp_region rfl ?_
  refine sP (opp_as (v := .bool _) rfl rfl) rfl rfl ?_
  refine awp_seq ?_
  refine awp_region rfl ?_
  first
    | refine sP (opp_mv (v := .sl _ _ _ _) rfl rfl) rfl rfl ?_
    | refine sP (opp_mv (v := .osl _ _ _ _ _) rfl rfl) rfl rfl ?_
  refine sP (opp_bytesStr rfl rfl _ rfl (fun j hj => rfl) un36 unu8 un9) rfl rfl ?_
  first
    | refine sP (opp_mv (v := .sl _ _ _ _) rfl rfl) rfl rfl ?_
    | refine sP (opp_mv (v := .osl _ _ _ _ _) rfl rfl) rfl rfl ?_
  refine sP (opp_bytesStr rfl rfl _ rfl (fun j hj => rfl) un36 unu8 un9) rfl rfl ?_
  refine sP (opp_strEq rfl rfl rfl (.inl ⟨rfl, rfl⟩)) rfl rfl ?_
  refine sP (opp_as (v := .bool _) rfl rfl) rfl rfl ?_
  refine awp_ret ?_
  repeat (first | refine athen_ret ?_ | refine ain_ret ?_)
  first
    | refine apost_ret (aend1 (r0 := .bool _) (.tmp .nil) (.noN rfl rfl) ⟨Wk.v ?_, rfl, rfl⟩)
    | refine apost_ret (aend1s (r0 := .bool _) (.tmp .nil) shut rfl ⟨Wk.v ?_, rfl, rfl⟩)
  exact .of (congrArg AV.bool (by first | rfl | simp))
/-- A part of a row. -/
theorem bAt_take (l : List UInt8) (k j : Nat) (h : j < k) : bAt (l.take k) j = bAt l j := by simp [bAt, List.getD_eq_getElem?_getD, List.getElem?_take, h]
theorem bAt_drop (l : List UInt8) (k j : Nat) : bAt (l.drop k) j = bAt l (k + j) := by simp [bAt, List.getD_eq_getElem?_getD]
theorem wk_slx {z n n' : Nat} {b : Bool} {f f' : Nat → AV} (hn : n = n') (h : ∀ j, j < n → f j = f' j) : Wk (.sl z b n f) (.sl z b n' f') := by
  subst hn; exact .sl h
theorem c58 (s : List UInt8) (h0 : s.length ≤ 140737488355328) (hG0 : gl 0 = some (.err (.code 1))) (hG9 : gl 9 = some (.err (.code 6))) :
    APure (V ea cds gl) 58 [.sl 1 false s.length (bAt s)] false (.tup [.sl 1 (decide ((Sp.opened s).2 ≠ 0)) (Sp.opened s).1.length (bAt (Sp.opened s).1), .err (errD (Sp.opened s).2)]) := by
  refine acalls_of_body (N := 26) Tryd.func58 rfl rfl (Nat.le_of_ble_eq_true rfl) fun C hV hN hM hO => ?_
  obtain ⟨_, _, w0, G0, σ0, _, own0⟩ := C; dsimp only at hV hN hM hO; subst hV; subst hN; subst hM
  refine awp_seq ?_
  refine awp_region rfl ?_
  first
    | refine sP (opp_as (v := .sl _ _ _ _) rfl rfl) rfl rfl ?_
    | refine sP (opp_as (v := .osl _ _ _ _ _) rfl rfl) rfl rfl ?_
  refine sP (opp_as (v := .err _) rfl rfl) rfl rfl ?_
  refine awp_seq ?_
  refine awp_seq ?_
  refine awp_region rfl ?_
  first
    | refine sP (opp_mv (v := .sl _ _ _ _) rfl rfl) rfl rfl ?_
    | refine sP (opp_mv (v := .osl _ _ _ _ _) rfl rfl) rfl rfl ?_
  first
    | refine sP (opp_lenSl rfl rfl un36) rfl rfl ?_
    | refine sP (opp_lenOsl rfl rfl un36) rfl rfl ?_
  refine sP (opp_cmp rfl rfl rfl rfl) rfl rfl ?_
  refine awp_cond _ rfl (fun hc3 => ?_) (fun hc3 => ?_)
  · (try simp only [cmpI, errD_nil, Bool.not_eq_true', Bool.not_eq_false', decide_eq_true_eq, decide_eq_false_iff_not] at hc3); have ht7 := hc3
    refine awp_seq ?_
    refine awp_draw hmix rfl (by kernel_rfl) ?_
    refine dP (fun _ => false) (opp_loadF rfl (ev_glob hG0) ty29) rfl rfl ?_
    first
      | refine dP (fun _ => false) (opp_as (v := .sl _ _ _ _) rfl rfl) rfl rfl ?_
      | refine dP (fun _ => false) (opp_as (v := .osl _ _ _ _ _) rfl rfl) rfl rfl ?_
    refine dP (fun _ => false) (opp_as (v := .err _) rfl rfl) rfl rfl ?_
    refine And.intro (by kernel_rfl) ?_
    refine awp_ret ?_
    repeat (first | refine athen_ret ?_ | refine ain_ret ?_)
    first
      | refine apost_ret (aend (l := [.sl _ _ _ _, .err _]) (.tmp (.tmp .nil)) (fun h => by cases h) (.cons (.noN rfl rfl) (.cons (.noN rfl rfl) .nil)) ⟨Wk.v ?_, rfl, rfl⟩)
      | refine apost_ret (aends (l := [.sl _ _ _ _, .err _]) (.tmp (.tmp .nil)) (fun h => by cases h) (.cons shut (fun h => by cases h) (.cons shut (fun h => by cases h) .nil)) rfl ⟨Wk.v ?_, rfl, rfl⟩)
      | refine apost_ret (aend (l := [.osl _ _ _ _ _, .err _]) (.tmp (.tmp .nil)) (fun h => by cases h) (.cons (.noN rfl rfl) (.cons (.noN rfl rfl) .nil)) ⟨Wk.v ?_, rfl, rfl⟩)
      | refine apost_ret (aends (l := [.osl _ _ _ _ _, .err _]) (.tmp (.tmp .nil)) (fun h => by cases h) (.cons shut (fun h => by cases h) (.cons shut (fun h => by cases h) .nil)) rfl ⟨Wk.v ?_, rfl, rfl⟩)
    have h4 : s.length < 4 := by omega
    rw [show Sp.opened s = ([], 1) from if_pos h4]; show Wk _ (.tup [.sl 1 true 0 _, .err (.code 1)]); (repeat' (first | exact Wk.refl | exact Wk.sl0 | apply Wk.tup | apply Wk.agg | apply WkL.cons | exact WkL.nil | refine Wk.sl (fun _ _ => ?_)))
  · (try simp only [cmpI, errD_nil, Bool.not_eq_true', Bool.not_eq_false', decide_eq_true_eq, decide_eq_false_iff_not] at hc3); have ht7 := hc3
    refine awp_skip ?_
    refine awp_seq ?_
    have h4 : ¬ s.length < 4 := by omega
    refine awp_region rfl ?_
    first
      | refine sP (opp_mv (v := .sl _ _ _ _) rfl rfl) rfl rfl ?_
      | refine sP (opp_mv (v := .osl _ _ _ _ _) rfl rfl) rfl rfl ?_
    first
      | refine sP (opp_mv (v := .sl _ _ _ _) rfl rfl) rfl rfl ?_
      | refine sP (opp_mv (v := .osl _ _ _ _ _) rfl rfl) rfl rfl ?_
    first
      | refine sP (opp_lenSl rfl rfl un36) rfl rfl ?_
      | refine sP (opp_lenOsl rfl rfl un36) rfl rfl ?_
    first
      | refine sP (opp_arith rfl rfl rfl (.inr <| .inl ⟨rfl, w64 (by omega)⟩)) rfl rfl ?_
      | refine sP (opp_arith rfl rfl rfl (.inr <| .inl ⟨rfl, rfl⟩)) rfl rfl ?_
    refine sP (opp_sliceSl rfl rfl rfl rfl el36 (by omega) (by omega) (by omega)) rfl rfl ?_
    first
      | refine sP (opp_as (v := .sl _ _ _ _) rfl rfl) rfl rfl ?_
      | refine sP (opp_as (v := .osl _ _ _ _ _) rfl rfl) rfl rfl ?_
    refine awp_seq ?_
    refine awp_seq ?_
    rw [show ((s.length : Int) - 4 - 0).toNat = s.length - 4 by omega]
    refine awp_draw hmix rfl (by kernel_rfl) ?_
    first
      | refine dP (fun _ => false) (opp_mv (v := .sl _ _ _ _) rfl rfl) rfl rfl ?_
      | refine dP (fun _ => false) (opp_mv (v := .osl _ _ _ _ _) rfl rfl) rfl rfl ?_
    refine dR (fun _ => false) (opr_call rfl rfl ent109 rfl (c109 false (s.take (s.length - 4)) (by rw [List.length_take]; omega)) (.cons (aview_wk rfl (wk_slx (by rw [List.length_take]; omega) (fun j hj => by rw [bAt_take _ _ _ (by omega), show Int.toNat 0 + j = j by simp]))) .nil)) rfl rfl rfl ?_ -- d=15 t=24
    refine dR (fun _ => false) (opr_callO (rl := [(14, 1016)]) (r1 := .osl _ _ _ _ _) (H1 := [(1016, some (.arr _ _ _))]) (n1 := [1016]) rfl rfl ent108 rfl (co108 _) (AViews.refl _ rfl) rfl rfl rfl rfl) rfl rfl rfl ?_
    first
      | refine dP (fun _ => false) (opp_mv (v := .sl _ _ _ _) rfl rfl) rfl rfl ?_
      | refine dP (fun _ => false) (opp_mv (v := .osl _ _ _ _ _) rfl rfl) rfl rfl ?_
    first
      | refine dP (fun _ => false) (opp_mv (v := .sl _ _ _ _) rfl rfl) rfl rfl ?_
      | refine dP (fun _ => false) (opp_mv (v := .osl _ _ _ _ _) rfl rfl) rfl rfl ?_
    first
      | refine dP (fun _ => false) (opp_lenSl rfl rfl un36) rfl rfl ?_
      | refine dP (fun _ => false) (opp_lenOsl rfl rfl un36) rfl rfl ?_
    refine dP (fun _ => false) (opp_sliceSl rfl rfl rfl rfl el36 (by omega) (by omega) (by omega)) rfl rfl ?_
    refine dR (fun n => Nat.beq n 1016) (opr_call rfl rfl ent107 rfl (c107 false false (Sp.crcLaid (~~~ (Sp.crcMove (~~~ 0#32) (s.take (s.length - 4))))) (s.drop (s.length - 4))) (.cons (aview_osl0 rfl (Nat.le_refl _)) (.cons (aview_wk rfl (wk_slx (by rw [List.length_drop]; omega) (fun j hj => by rw [bAt_drop]; congr 1))) .nil))) rfl rfl rfl ?_ -- d=21 t=4
    refine dP (fun _ => false) (opp_not rfl rfl) rfl rfl ?_
    refine And.intro (by kernel_rfl) ?_
    refine awp_cond _ rfl (fun hc7 => ?_) (fun hc7 => ?_)
    · (try simp only [cmpI, errD_nil, Bool.not_eq_true', Bool.not_eq_false', decide_eq_true_eq, decide_eq_false_iff_not] at hc7); have ht22 := hc7
      refine awp_seq ?_
      refine awp_draw hmix rfl (by kernel_rfl) ?_
      refine dP (fun _ => false) (opp_loadF rfl (ev_glob hG9) ty29) rfl rfl ?_
      first
        | refine dP (fun _ => false) (opp_as (v := .sl _ _ _ _) rfl rfl) rfl rfl ?_
        | refine dP (fun _ => false) (opp_as (v := .osl _ _ _ _ _) rfl rfl) rfl rfl ?_
      refine dP (fun _ => false) (opp_as (v := .err _) rfl rfl) rfl rfl ?_
      refine And.intro (by kernel_rfl) ?_
      refine awp_ret ?_
      repeat (first | refine athen_ret ?_ | refine ain_ret ?_)
      first
        | refine apost_ret (aend (l := [.sl _ _ _ _, .err _]) (.tmp (.tmp .nil)) (fun h => by cases h) (.cons (.noN rfl rfl) (.cons (.noN rfl rfl) .nil)) ⟨Wk.v ?_, rfl, rfl⟩)
        | refine apost_ret (aends (l := [.sl _ _ _ _, .err _]) (.tmp (.tmp .nil)) (fun h => by cases h) (.cons shut (fun h => by cases h) (.cons shut (fun h => by cases h) .nil)) rfl ⟨Wk.v ?_, rfl, rfl⟩)
        | refine apost_ret (aend (l := [.osl _ _ _ _ _, .err _]) (.tmp (.tmp .nil)) (fun h => by cases h) (.cons (.noN rfl rfl) (.cons (.noN rfl rfl) .nil)) ⟨Wk.v ?_, rfl, rfl⟩)
        | refine apost_ret (aends (l := [.osl _ _ _ _ _, .err _]) (.tmp (.tmp .nil)) (fun h => by cases h) (.cons shut (fun h => by cases h) (.cons shut (fun h => by cases h) .nil)) rfl ⟨Wk.v ?_, rfl, rfl⟩)
      have hq : Sp.crcLaid (Sp.crcSum (s.take (s.length - 4))) ≠ s.drop (s.length - 4) := ht22
      rw [show Sp.opened s = ([], 6) by rw [Sp.opened, if_neg h4, if_pos hq]]; show Wk _ (.tup [.sl 1 true 0 _, .err (.code 6)]); (repeat' (first | exact Wk.refl | exact Wk.sl0 | apply Wk.tup | apply Wk.agg | apply WkL.cons | exact WkL.nil | refine Wk.sl (fun _ _ => ?_)))
    · (try simp only [cmpI, errD_nil, Bool.not_eq_true', Bool.not_eq_false', decide_eq_true_eq, decide_eq_false_iff_not] at hc7); have ht22 := hc7
      refine awp_skip ?_
      refine awp_seq ?_
      refine awp_region rfl ?_
      first
        | refine sP (opp_mv (v := .sl _ _ _ _) rfl rfl) rfl rfl ?_
        | refine sP (opp_mv (v := .osl _ _ _ _ _) rfl rfl) rfl rfl ?_
      first
          | refine sR (opr_callO (rl := [(7, 25)]) (r1 := .osl _ _ _ _ _) (H1 := [(25, some (.arr _ _ _))]) (n1 := [25]) rfl rfl ent74 rfl (co74 (s.length - 4) _ (by omega)) (AViews.refl _ rfl) rfl rfl rfl rfl) rfl rfl rfl ?_
          | refine sR (opr_callO (rl := [(7, 25)]) (r1 := .sl _ _ _ _) (H1 := [(25, some (.arr _ _ _))]) (n1 := [25]) rfl rfl ent74 rfl (co74 (s.length - 4) _ (by omega)) (AViews.refl _ rfl) rfl rfl rfl rfl) rfl rfl rfl ?_
      first
        | refine sP (opp_as (v := .sl _ _ _ _) rfl rfl) rfl rfl ?_
        | refine sP (opp_as (v := .osl _ _ _ _ _) rfl rfl) rfl rfl ?_
      refine sP (opp_as (v := .err _) rfl rfl) rfl rfl ?_
      refine awp_ret ?_
      repeat (first | refine athen_ret ?_ | refine ain_ret ?_)
      first
        | refine apost_ret (aend (l := [.sl _ _ _ _, .err _]) (.tmp (.tmp .nil)) (fun h => by cases h) (.cons (.noN rfl rfl) (.cons (.noN rfl rfl) .nil)) ⟨Wk.v ?_, rfl, rfl⟩)
        | refine apost_ret (aends (l := [.sl _ _ _ _, .err _]) (.tmp (.tmp .nil)) (fun h => by cases h) (.cons shut (fun h => by cases h) (.cons shut (fun h => by cases h) .nil)) rfl ⟨Wk.v ?_, rfl, rfl⟩)
        | refine apost_ret (aend (l := [.osl _ _ _ _ _, .err _]) (.tmp (.tmp .nil)) (fun h => by cases h) (.cons (.noN rfl rfl) (.cons (.noN rfl rfl) .nil)) ⟨Wk.v ?_, rfl, rfl⟩)
        | refine apost_ret (aends (l := [.osl _ _ _ _ _, .err _]) (.tmp (.tmp .nil)) (fun h => by cases h) (.cons shut (fun h => by cases h) (.cons shut (fun h => by cases h) .nil)) rfl ⟨Wk.v ?_, rfl, rfl⟩)
      have hq : ¬ Sp.crcLaid (Sp.crcSum (s.take (s.length - 4))) ≠ s.drop (s.length - 4) := not_not_intro ht22
      rw [show Sp.opened s = (s.take (s.length - 4), 0) by rw [Sp.opened, if_neg h4, if_neg hq]]; exact .tup (.cons (wk_slx (by rw [List.length_take]; omega) (fun j hj => by rw [bAt_take _ _ _ (by omega), show Int.toNat 0 + j = j by simp])) (.cons .refl .nil))
end
end Go.Proofs.YtgaihhimkodmmaaDoor
/- Layer 2: a writer (walks over this dump). -/
namespace Go.Proofs.YtgaihhimkodmmaaDoor
attribute [local irreducible] Tryd.prog
open Go.Fy
set_option linter.unusedSimpArgs false
set_option linter.unusedVariables false
section
variable {ea : Nat → Addr} {cds : List Nat} {gl : Nat → Option AV}
theorem cg115n (k : Nat) (g : Nat → AV) (h1 : 1 ≤ k) (h2 : k ≤ 1099511627776) : AGen (V ea cds gl) 115 [.ptr 1 [] 0, .osl 3 1 0 k k] [(1, some (.agg [.sl 1 true 0 (fun _ => .top), .err .nil])), (3, some (.arr 1 k g))]
    (.tup []) [(1, some (.agg [.osl 15 1 0 k k, .err .nil])), (3, none), (15, some (.arr 1 k g))] := by
  refine agen_of_body (N := 18) Tryd.func115 rfl rfl (Nat.le_of_ble_eq_true rfl) fun C hV hN hM hO => ?_
  obtain ⟨_, _, w0, G0, σ0, _, own0⟩ := C; dsimp only at hV hN hM hO; subst hV; subst hN; subst hM
  refine awp_seq ?_
  refine awp_region rfl ?_
  first
    | refine sP (opp_mv (v := .ptr _ _ _) rfl rfl) rfl rfl ?_
    | refine sP (opp_mv (v := .fptr _) rfl rfl) rfl rfl ?_
  first
    | refine sP (opp_nilCheckP rfl rfl) rfl rfl ?_
    | refine sP (opp_nilCheckF rfl rfl) rfl rfl ?_
  first
    | refine sP (opp_fieldP rfl rfl fld178_1 rfl) rfl rfl ?_
    | refine sP (opp_fieldF rfl rfl rfl fld178_1 rfl rfl) rfl rfl ?_
  first
    | refine sP (opp_loadP rfl rfl rfl rfl bi rfl ty29) rfl rfl ?_
    | refine sP (opp_loadF rfl rfl ty29) rfl rfl ?_
  refine sP (opp_errNil rfl rfl rfl un29 (.inl ⟨rfl, rfl⟩)) rfl rfl ?_
  refine awp_cond _ rfl (fun hc2 => ?_) (fun hc2 => ?_)
  · (try simp only [cmpI, errD_nil, Bool.not_eq_true', Bool.not_eq_false', decide_eq_true_eq, decide_eq_false_iff_not] at hc2); have ht8 := hc2
    refine awp_region rfl ?_
    first
      | refine sP (opp_mv (v := .ptr _ _ _) rfl rfl) rfl rfl ?_
      | refine sP (opp_mv (v := .fptr _) rfl rfl) rfl rfl ?_
    first
      | refine sP (opp_mv (v := .ptr _ _ _) rfl rfl) rfl rfl ?_
      | refine sP (opp_mv (v := .fptr _) rfl rfl) rfl rfl ?_
    first
      | refine sP (opp_nilCheckP rfl rfl) rfl rfl ?_
      | refine sP (opp_nilCheckF rfl rfl) rfl rfl ?_
    first
      | refine sP (opp_fieldP rfl rfl fld178_0 rfl) rfl rfl ?_
      | refine sP (opp_fieldF rfl rfl rfl fld178_0 rfl rfl) rfl rfl ?_
    first
      | refine sP (opp_loadP rfl rfl rfl rfl bi rfl ty36) rfl rfl ?_
      | refine sP (opp_loadF rfl rfl ty36) rfl rfl ?_
    first
      | refine sP (opp_mv (v := .sl _ _ _ _) rfl rfl) rfl rfl ?_
      | refine sP (opp_mv (v := .osl _ _ _ _ _) rfl rfl) rfl rfl ?_
    first
      | refine sR (opr_append (d := 15) rfl rfl rfl (by omega) (.osl0 rfl (by omega)) eb36 z5 (by omega) (by omega)) rfl rfl rfl ?_
      | refine sR (opr_append (d := 15) rfl rfl rfl (by omega) .sl eb36 z5 (by omega) (by omega)) rfl rfl rfl ?_
      | refine sR (opr_append (d := 15) rfl rfl rfl (by omega) (.osl rfl (by omega) (fun _ _ => rfl)) eb36 z5 (by omega) (by omega)) rfl rfl rfl ?_
      | refine sR (opr_appendNil (d := 15) rfl rfl (.osl0 rfl (by omega)) eb36 z5 (by omega) (by omega) (by omega)) rfl rfl rfl ?_
      | refine sR (opr_appendNil (d := 15) rfl rfl .sl eb36 z5 (by omega) (by omega) (by omega)) rfl rfl rfl ?_
      | refine sR (opr_appendNil (d := 15) rfl rfl (.osl rfl (by omega) (fun _ _ => rfl)) eb36 z5 (by omega) (by omega) (by omega)) rfl rfl rfl ?_
    first
      | refine sP (opp_nilCheckP rfl rfl) rfl rfl ?_
      | refine sP (opp_nilCheckF rfl rfl) rfl rfl ?_
    first
      | refine sP (opp_fieldP rfl rfl fld178_0 rfl) rfl rfl ?_
      | refine sP (opp_fieldF rfl rfl rfl fld178_0 rfl rfl) rfl rfl ?_
    first
      | refine sR0 (opr_store (v := .sl _ _ _ _) (trn := (.agg [.sl _ _ _ _, _])) rfl rfl rfl rfl bi rfl rfl rfl rfl fr2 ty36 (fun _ _ h => h)) rfl rfl rfl ?_
      | refine sR0 (opr_store (v := .osl _ _ _ _ _) (trn := (.agg [.osl _ _ _ _ _, _])) rfl rfl rfl rfl bi rfl rfl rfl rfl fr2 ty36 (fun _ _ h => h)) rfl rfl rfl ?_
    repeat (first | refine athen_ret ?_ | refine ain_ret ?_)
    first
      | refine gpost_ret (gends (l := []) true .nil (fun h => by cases h) .nil rfl .refl rfl (And.intro (Exists.intro _ (Exists.intro _ (And.intro rfl (And.intro shut (And.intro (fun h => by cases h) (And.intro ?_ rfl)))))) (And.intro (Exists.intro _ (Exists.intro _ (And.intro rfl (And.intro shut (And.intro (fun h => by cases h) (And.intro ?_ rfl)))))) True.intro)))
      | refine gpost_normal (gends (l := []) true .nil (fun h => by cases h) .nil rfl .refl rfl (And.intro (Exists.intro _ (Exists.intro _ (And.intro rfl (And.intro shut (And.intro (fun h => by cases h) (And.intro ?_ rfl)))))) (And.intro (Exists.intro _ (Exists.intro _ (And.intro rfl (And.intro shut (And.intro (fun h => by cases h) (And.intro ?_ rfl)))))) True.intro)))
      | refine gpost_ret (gends (l := []) false .nil (fun h => by cases h) .nil rfl .refl rfl (And.intro (Exists.intro _ (Exists.intro _ (And.intro rfl (And.intro shut (And.intro (fun h => by cases h) (And.intro ?_ rfl)))))) (And.intro (Exists.intro _ (Exists.intro _ (And.intro rfl (And.intro shut (And.intro (fun h => by cases h) (And.intro ?_ rfl)))))) True.intro)))
      | refine gpost_normal (gends (l := []) false .nil (fun h => by cases h) .nil rfl .refl rfl (And.intro (Exists.intro _ (Exists.intro _ (And.intro rfl (And.intro shut (And.intro (fun h => by cases h) (And.intro ?_ rfl)))))) (And.intro (Exists.intro _ (Exists.intro _ (And.intro rfl (And.intro shut (And.intro (fun h => by cases h) (And.intro ?_ rfl)))))) True.intro)))
    · exact .refl
    · exact .refl
  · (try simp only [cmpI, errD_nil, Bool.not_eq_true', Bool.not_eq_false', decide_eq_true_eq, decide_eq_false_iff_not] at hc2); have ht8 := hc2
    exact absurd hc2 (by decide)
theorem cg115r (n k : Nat) (f g : Nat → AV) (h1 : n ≤ 1099511627776) (h2 : k ≤ 1099511627776) : AGen (V ea cds gl) 115 [.ptr 1 [] 0, .osl 3 1 0 k k] [(1, some (.agg [.osl 2 1 0 n n, .err .nil])), (2, some (.arr 1 n f)), (3, some (.arr 1 k g))]
    (.tup []) [(1, some (.agg [.osl 15 1 0 (n + k) (n + k), .err .nil])), (2, none), (3, none), (15, some (.arr 1 (n + k) (fun j => if j < n then f j else g (j - n))))] := by
  refine agen_of_body (N := 18) Tryd.func115 rfl rfl (Nat.le_of_ble_eq_true rfl) fun C hV hN hM hO => ?_
  obtain ⟨_, _, w0, G0, σ0, _, own0⟩ := C; dsimp only at hV hN hM hO; subst hV; subst hN; subst hM
  refine awp_seq ?_
  refine awp_region rfl ?_
  first
    | refine sP (opp_mv (v := .ptr _ _ _) rfl rfl) rfl rfl ?_
    | refine sP (opp_mv (v := .fptr _) rfl rfl) rfl rfl ?_
  first
    | refine sP (opp_nilCheckP rfl rfl) rfl rfl ?_
    | refine sP (opp_nilCheckF rfl rfl) rfl rfl ?_
  first
    | refine sP (opp_fieldP rfl rfl fld178_1 rfl) rfl rfl ?_
    | refine sP (opp_fieldF rfl rfl rfl fld178_1 rfl rfl) rfl rfl ?_
  first
    | refine sP (opp_loadP rfl rfl rfl rfl bi rfl ty29) rfl rfl ?_
    | refine sP (opp_loadF rfl rfl ty29) rfl rfl ?_
  refine sP (opp_errNil rfl rfl rfl un29 (.inl ⟨rfl, rfl⟩)) rfl rfl ?_
  refine awp_cond _ rfl (fun hc2 => ?_) (fun hc2 => ?_)
  · (try simp only [cmpI, errD_nil, Bool.not_eq_true', Bool.not_eq_false', decide_eq_true_eq, decide_eq_false_iff_not] at hc2); have ht8 := hc2
    refine awp_region rfl ?_
    first
      | refine sP (opp_mv (v := .ptr _ _ _) rfl rfl) rfl rfl ?_
      | refine sP (opp_mv (v := .fptr _) rfl rfl) rfl rfl ?_
    first
      | refine sP (opp_mv (v := .ptr _ _ _) rfl rfl) rfl rfl ?_
      | refine sP (opp_mv (v := .fptr _) rfl rfl) rfl rfl ?_
    first
      | refine sP (opp_nilCheckP rfl rfl) rfl rfl ?_
      | refine sP (opp_nilCheckF rfl rfl) rfl rfl ?_
    first
      | refine sP (opp_fieldP rfl rfl fld178_0 rfl) rfl rfl ?_
      | refine sP (opp_fieldF rfl rfl rfl fld178_0 rfl rfl) rfl rfl ?_
    first
      | refine sP (opp_loadP rfl rfl rfl rfl bi rfl ty36) rfl rfl ?_
      | refine sP (opp_loadF rfl rfl ty36) rfl rfl ?_
    first
      | refine sP (opp_mv (v := .sl _ _ _ _) rfl rfl) rfl rfl ?_
      | refine sP (opp_mv (v := .osl _ _ _ _ _) rfl rfl) rfl rfl ?_
    first
      | refine sR (opr_append (d := 15) rfl rfl rfl (by omega) (.osl0 rfl (by omega)) eb36 z5 (by omega) (by omega)) rfl rfl rfl ?_
      | refine sR (opr_append (d := 15) rfl rfl rfl (by omega) .sl eb36 z5 (by omega) (by omega)) rfl rfl rfl ?_
      | refine sR (opr_append (d := 15) rfl rfl rfl (by omega) (.osl rfl (by omega) (fun _ _ => rfl)) eb36 z5 (by omega) (by omega)) rfl rfl rfl ?_
      | refine sR (opr_appendNil (d := 15) rfl rfl (.osl0 rfl (by omega)) eb36 z5 (by omega) (by omega) (by omega)) rfl rfl rfl ?_
      | refine sR (opr_appendNil (d := 15) rfl rfl .sl eb36 z5 (by omega) (by omega) (by omega)) rfl rfl rfl ?_
      | refine sR (opr_appendNil (d := 15) rfl rfl (.osl rfl (by omega) (fun _ _ => rfl)) eb36 z5 (by omega) (by omega) (by omega)) rfl rfl rfl ?_
    first
      | refine sP (opp_nilCheckP rfl rfl) rfl rfl ?_
      | refine sP (opp_nilCheckF rfl rfl) rfl rfl ?_
    first
      | refine sP (opp_fieldP rfl rfl fld178_0 rfl) rfl rfl ?_
      | refine sP (opp_fieldF rfl rfl rfl fld178_0 rfl rfl) rfl rfl ?_
    first
      | refine sR0 (opr_store (v := .sl _ _ _ _) (trn := (.agg [.sl _ _ _ _, _])) rfl rfl rfl rfl bi rfl rfl rfl rfl fr2 ty36 (fun _ _ h => h)) rfl rfl rfl ?_
      | refine sR0 (opr_store (v := .osl _ _ _ _ _) (trn := (.agg [.osl _ _ _ _ _, _])) rfl rfl rfl rfl bi rfl rfl rfl rfl fr2 ty36 (fun _ _ h => h)) rfl rfl rfl ?_
    repeat (first | refine athen_ret ?_ | refine ain_ret ?_)
    first
      | refine gpost_ret (gends (l := []) true .nil (fun h => by cases h) .nil rfl .refl rfl (And.intro (Exists.intro _ (Exists.intro _ (And.intro rfl (And.intro shut (And.intro (fun h => by cases h) (And.intro ?_ rfl)))))) (And.intro (Exists.intro _ (Exists.intro _ (And.intro rfl (And.intro shut (And.intro (fun h => by cases h) (And.intro ?_ rfl)))))) True.intro)))
      | refine gpost_normal (gends (l := []) true .nil (fun h => by cases h) .nil rfl .refl rfl (And.intro (Exists.intro _ (Exists.intro _ (And.intro rfl (And.intro shut (And.intro (fun h => by cases h) (And.intro ?_ rfl)))))) (And.intro (Exists.intro _ (Exists.intro _ (And.intro rfl (And.intro shut (And.intro (fun h => by cases h) (And.intro ?_ rfl)))))) True.intro)))
      | refine gpost_ret (gends (l := []) false .nil (fun h => by cases h) .nil rfl .refl rfl (And.intro (Exists.intro _ (Exists.intro _ (And.intro rfl (And.intro shut (And.intro (fun h => by cases h) (And.intro ?_ rfl)))))) (And.intro (Exists.intro _ (Exists.intro _ (And.intro rfl (And.intro shut (And.intro (fun h => by cases h) (And.intro ?_ rfl)))))) True.intro)))
      | refine gpost_normal (gends (l := []) false .nil (fun h => by cases h) .nil rfl .refl rfl (And.intro (Exists.intro _ (Exists.intro _ (And.intro rfl (And.intro shut (And.intro (fun h => by cases h) (And.intro ?_ rfl)))))) (And.intro (Exists.intro _ (Exists.intro _ (And.intro rfl (And.intro shut (And.intro (fun h => by cases h) (And.intro ?_ rfl)))))) True.intro)))
    · exact .refl
    · exact .refl
  · (try simp only [cmpI, errD_nil, Bool.not_eq_true', Bool.not_eq_false', decide_eq_true_eq, decide_eq_false_iff_not] at hc2); have ht8 := hc2
    exact absurd hc2 (by decide)
theorem most_eq (w : Nat) (hw : w = 1 ∨ w = 2 ∨ w = 4) : IntKind.i64.wrap (IntKind.i64.wrap (1 * 2 ^ min (8 * (w : Int)).toNat IntKind.i64.bits) - 1) = ((256 ^ w - 1 : Nat) : Int) := by
  rcases hw with rfl | rfl | rfl <;> decide
theorem c112 (w : Nat) (hw : w = 1 ∨ w = 2 ∨ w = 4) : APure (V ea cds gl) 112 [.int .i64 w] false (.int .i64 ((256 ^ w - 1 : Nat) : Int)) := by
  refine acalls_of_body (N := 7) Tryd.func112 rfl rfl (Nat.le_of_ble_eq_true rfl) fun C hV hN hM hO => ?_
  obtain ⟨_, _, w0, G0, σ0, _, own0⟩ := C; dsimp only at hV hN hM hO; subst hV; subst hN; subst hM
  refine awp_seq ?_
  refine awp_region rfl ?_
  refine sP (opp_as (v := .int _ _) rfl rfl) rfl rfl ?_
  refine awp_seq ?_
  refine awp_region rfl ?_
  refine sP (opp_mv (v := .int _ _) rfl rfl) rfl rfl ?_
  first
    | refine sP (opp_arith rfl rfl rfl (.inr <| .inr <| .inl ⟨rfl, w64 (by omega)⟩)) rfl rfl ?_
    | refine sP (opp_arith rfl rfl rfl (.inr <| .inr <| .inl ⟨rfl, rfl⟩)) rfl rfl ?_
  refine sP (opp_shift rfl rfl rfl (by omega) (.inl ⟨rfl, rfl⟩)) rfl rfl ?_
  first
    | refine sP (opp_arith rfl rfl rfl (.inr <| .inl ⟨rfl, w64 (by omega)⟩)) rfl rfl ?_
    | refine sP (opp_arith rfl rfl rfl (.inr <| .inl ⟨rfl, rfl⟩)) rfl rfl ?_
  refine sP (opp_as (v := .int _ _) rfl rfl) rfl rfl ?_
  refine awp_ret ?_
  repeat (first | refine athen_ret ?_ | refine ain_ret ?_)
  first
    | refine apost_ret (aend1 (r0 := .int _ _) (.tmp .nil) (.noN rfl rfl) ⟨Wk.v ?_, rfl, rfl⟩)
    | refine apost_ret (aend1s (r0 := .int _ _) (.tmp .nil) shut rfl ⟨Wk.v ?_, rfl, rfl⟩)
  rw [most_eq w hw]; exact .refl
theorem be_take (n w i : Nat) (h : i < w) : (Sp.be n w).take (i + 1) = (Sp.be n w).take i ++ [UInt8.ofNat (n / 256 ^ (w - 1 - i) % 256)] := by
  rw [List.take_add_one, List.getElem?_eq_getElem (by rw [Sp.be_length]; exact h)]
  have := Sp.be_getD n w i h
  rw [List.getD_eq_getElem?_getD, List.getElem?_eq_getElem (by rw [Sp.be_length]; exact h)] at this
  simp only [Option.getD_some] at this
  rw [this]; rfl
theorem shr_byte (n k : Nat) (hk : k ≤ 3) : IntKind.u8.wrap ((n : Int).fdiv (2 ^ min (Int.toNat (8 * (k : Int))) IntKind.i64.bits)) = ((UInt8.ofNat (n / 256 ^ k % 256)).toNat : Int) := by
  have hw : ∀ m : Nat, IntKind.u8.wrap (m : Int) = ((UInt8.ofNat (m % 256)).toNat : Int) := fun m => by rw [IntKind.wrap_u8]; simp
  have e : ((n : Int).fdiv (2 ^ min (Int.toNat (8 * (k : Int))) IntKind.i64.bits)) = ((n / 256 ^ k : Nat) : Int) := by
    rw [Int.fdiv_eq_ediv_of_nonneg _ (Int.le_of_lt (Int.pow_pos (by decide)))]
    have hk : k = 0 ∨ k = 1 ∨ k = 2 ∨ k = 3 := by omega
    rcases hk with rfl | rfl | rfl | rfl <;> simp [IntKind.bits]
  rw [e, hw]
theorem WkC.trans' {x y z : AV} (h : WkC x y) (k : WkC y z) : WkC x z := fun E cs hv => k E cs (h E cs hv)
theorem row_put (l : List UInt8) (x : UInt8) (v : Int) (h : v = (x.toNat : Int)) : WkC (.arr 1 (l.length + 1) fun j => if j < l.length then bAt l j else if j - l.length = 0 then .int .u8 v else .int .u8 0) (.arr 1 (l ++ [x]).length (bAt (l ++ [x]))) := by
  subst h; rw [List.length_append]; exact WkC.arr (fun j hj => b_append l x j _ rfl _ hj)
theorem cg114r (l : List UInt8) (n w : Nat) (hw : w = 1 ∨ w = 2 ∨ w = 4) (hn : n < 256 ^ w) (h0 : l.length ≤ 549755813888) : AGen (V ea cds gl) 114 [.ptr 1 [] 0, .int .i64 (n : Int), .int .i64 (w : Int)]
    [(1, some (.agg [.osl 2 1 0 l.length l.length, .err .nil])), (2, some (.arr 1 l.length (bAt l)))]
    (.tup []) [(1, some (.agg [.osl 1004 1 0 (l ++ Sp.be n w).length (l ++ Sp.be n w).length, .err .nil])), (2, none), (1004, some (.arr 1 (l ++ Sp.be n w).length (bAt (l ++ Sp.be n w))))] := by
  have hp : 1 ≤ 256 ^ w := Nat.one_le_pow _ _ (by decide)
  refine agen_of_body (N := 32) Tryd.func114 rfl rfl (Nat.le_of_ble_eq_true rfl) fun C hV hN hM hO => ?_
  obtain ⟨_, _, w0, G0, σ0, _, own0⟩ := C; dsimp only at hV hN hM hO; subst hV; subst hN; subst hM
  refine awp_seq ?_
  refine awp_seq ?_
  refine awp_region rfl ?_
  refine sP (opp_mv (v := .int _ _) rfl rfl) rfl rfl ?_
  refine sP (opp_cmp rfl rfl rfl rfl) rfl rfl ?_
  refine sP (opp_mv (v := .bool _) rfl rfl) rfl rfl ?_
  refine sG _ rfl rfl rfl rfl (fun hg => (And.intro gi (True.intro))) (fun hg => opp_mv (v := .int _ _) rfl rfl) ?_
  refine sG _ rfl rfl rfl rfl (fun hg => (And.intro gi (True.intro))) (fun hg => opp_mv (v := .int _ _) rfl rfl) ?_
  refine sGR _ rfl rfl rfl rfl (fun hg => (And.intro gi (And.intro gi (True.intro)))) (fun hg => (opr_call rfl rfl ent112 rfl (c112 w hw) (AViews.refl _ rfl))) ?_
  refine sG _ rfl rfl rfl rfl (fun hg => (And.intro gi (And.intro gi (True.intro)))) (fun hg => opp_cmp rfl rfl rfl rfl) ?_
  refine sPick rfl rfl rfl rfl (by exact True.intro) rfl rfl (fun hg => gi) (fun hg => gi) ?_
  refine awp_cond _ rfl (fun hc2 => ?_) (fun hc2 => ?_)
  · (try simp only [cmpI, errD_nil, Bool.not_eq_true', Bool.not_eq_false', decide_eq_true_eq, decide_eq_false_iff_not] at hc2); have ht14 := hc2
    exfalso; simp [cmpI] at ht14; omega
  · (try simp only [cmpI, errD_nil, Bool.not_eq_true', Bool.not_eq_false', decide_eq_true_eq, decide_eq_false_iff_not] at hc2); have ht14 := hc2
    refine awp_skip ?_
    refine awp_seq ?_
    refine awp_region rfl ?_
    refine sP (opp_mv (v := .int _ _) rfl rfl) rfl rfl ?_
    first
      | refine sP (opp_arith rfl rfl rfl (.inr <| .inl ⟨rfl, w64 (by omega)⟩)) rfl rfl ?_
      | refine sP (opp_arith rfl rfl rfl (.inr <| .inl ⟨rfl, rfl⟩)) rfl rfl ?_
    refine sP (opp_as (v := .int _ _) rfl rfl) rfl rfl ?_
    refine awp_block ?_
    refine awp_loopK (ι := Nat) (fun i => i ≤ w) (fun i => [(6, .int .i64 ((w : Int) - 1 - i)), (20, .top), (21, .top), (22, .top), (23, .top), (24, .top), (25, .top), (26, .top), (27, .top), (28, .top), (29, .top), (30, .top), (31, .top)]) (fun i => [(1, some (.agg [.osl 1004 1 0 (l ++ (Sp.be n w).take i).length (l ++ (Sp.be n w).take i).length, .err .nil])), (2, none), (1004, some (.arr 1 (l ++ (Sp.be n w).take i).length (bAt (l ++ (Sp.be n w).take i))))]) [1004, 1, 2] (fun i => w - i) (0) (Nat.zero_le _) (by
      refine imp_over [(1004, 2)] rfl rfl (by kernel_rfl) ?_ ?_
      · refine And.intro (by exact Or.inr (And.intro rfl (WkV.of (by show AV.int .i64 _ = AV.int .i64 _; simp)))) ?_
        refine And.intro wkv ?_
        refine And.intro wkv ?_
        refine And.intro wkv ?_
        refine And.intro wkv ?_
        refine And.intro wkv ?_
        refine And.intro wkv ?_
        refine And.intro wkv ?_
        refine And.intro wkv ?_
        refine And.intro wkv ?_
        refine And.intro wkv ?_
        refine And.intro wkv ?_
        refine And.intro wkv ?_
        exact True.intro
      · refine And.intro (And.intro rfl (And.intro rfl (Exists.intro _ (And.intro rfl (by exact WkC.of (by show AV.agg [AV.osl 2 1 0 _ _, AV.err .nil] = AV.agg [AV.osl 2 1 0 _ _, AV.err .nil]; simp)))))) ?_
        refine And.intro (And.intro rfl (And.intro rfl (Exists.intro _ (And.intro rfl (by exact WkC.of (by show AV.arr 1 _ _ = AV.arr 1 _ _; simp)))))) ?_
        exact True.intro
      ) ?_
    intro i hi1
    refine awp_seq ?_
    refine awp_seq ?_
    refine awp_region rfl ?_
    refine sP (opp_mv (v := .int _ _) rfl rfl) rfl rfl ?_
    refine sP (opp_cmp rfl rfl rfl rfl) rfl rfl ?_
    refine awp_cond _ rfl (fun hc5 => ?_) (fun hc5 => ?_)
    · (try simp only [cmpI, errD_nil, Bool.not_eq_true', Bool.not_eq_false', decide_eq_true_eq, decide_eq_false_iff_not] at hc5); have ht21 := hc5
      refine awp_skip ?_
      refine awp_seq ?_
      refine awp_block ?_
      refine awp_region rfl ?_
      first
        | refine sP (opp_mv (v := .ptr _ _ _) rfl rfl) rfl rfl ?_
        | refine sP (opp_mv (v := .fptr _) rfl rfl) rfl rfl ?_
      refine sP (opp_mv (v := .int _ _) rfl rfl) rfl rfl ?_
      refine sP (opp_mv (v := .int _ _) rfl rfl) rfl rfl ?_
      first
        | refine sP (opp_arith rfl rfl rfl (.inr <| .inr <| .inl ⟨rfl, w64 (by omega)⟩)) rfl rfl ?_
        | refine sP (opp_arith rfl rfl rfl (.inr <| .inr <| .inl ⟨rfl, rfl⟩)) rfl rfl ?_
      refine sP (opp_shift rfl rfl rfl (by omega) (.inr ⟨rfl, rfl⟩)) rfl rfl ?_
      first
        | refine sP (opp_convInt rfl rfl un3s un5 (wu8 (by omega))) rfl rfl ?_
        | refine sP (opp_convInt rfl rfl un3s un5 rfl) rfl rfl ?_
      refine sR (opr_buildSlice (n := 30) (g := fun j => if j = 0 then .int _ _ else .int .u8 0) rfl eb36 z5 (by decide) rfl rfl) rfl rfl rfl ?_
      refine sR (opr_callG (rl := [(1, 1), (2, 1004), (3, 30), (15, 31)]) (r1 := .tup []) (H1 := [(1, some (.agg [.osl 31 _ _ _ _, .err _])), (1004, none), (30, none), (31, some (.arr _ _ _))]) (n1 := [31]) rfl rfl ent115 (cg115r (l ++ (Sp.be n w).take i).length 1 (bAt (l ++ (Sp.be n w).take i)) _ (by rw [List.length_append, List.length_take]; omega) (by omega)) (And.intro (And.intro rfl wka) (And.intro (And.intro rfl wka) True.intro)) (And.intro (And.intro rfl (Exists.intro _ (And.intro rfl wkc))) (And.intro (And.intro rfl (Exists.intro _ (And.intro rfl wkc))) (And.intro (And.intro rfl (Exists.intro _ (And.intro rfl wkc))) True.intro))) rfl rfl rfl rfl) rfl rfl rfl ?_
      refine awp_region rfl ?_
      refine sP (opp_mv (v := .int _ _) rfl rfl) rfl rfl ?_
      first
        | refine sP (opp_arith rfl rfl rfl (.inr <| .inl ⟨rfl, w64 (by omega)⟩)) rfl rfl ?_
        | refine sP (opp_arith rfl rfl rfl (.inr <| .inl ⟨rfl, rfl⟩)) rfl rfl ?_
      refine sP (opp_as (v := .int _ _) rfl rfl) rfl rfl ?_
      refine Exists.intro (i + 1) (And.intro (And.intro (by omega) (by omega)) (by
        refine imp_over [(1004, 31)] rfl rfl (by kernel_rfl) ?_ ?_
        · refine And.intro (by exact Or.inr (And.intro rfl (WkV.of (by show AV.int .i64 _ = AV.int .i64 _; simp; omega)))) ?_
          refine And.intro wkv ?_
          refine And.intro wkv ?_
          refine And.intro wkv ?_
          refine And.intro wkv ?_
          refine And.intro wkv ?_
          refine And.intro wkv ?_
          refine And.intro wkv ?_
          refine And.intro wkv ?_
          refine And.intro wkv ?_
          refine And.intro wkv ?_
          refine And.intro wkv ?_
          refine And.intro wkv ?_
          exact True.intro
        · refine And.intro (And.intro rfl (And.intro rfl (Exists.intro _ (And.intro rfl (by exact WkC.of (by show AV.agg [AV.osl 31 1 0 _ _, AV.err .nil] = AV.agg [AV.osl 31 1 0 _ _, AV.err .nil]; rw [be_take n w i (by omega)]; simp; omega)))))) ?_
          refine And.intro (And.intro rfl (And.intro rfl (Exists.intro _ (And.intro rfl (by show WkC (AV.arr 1 _ _) (AV.arr 1 _ _); have e := shr_byte n (w - 1 - i) (by omega); rw [show ((w - 1 - i : Nat) : Int) = (w : Int) - 1 - i by omega] at e; rw [be_take n w i (by omega), ← List.append_assoc]; exact row_put _ _ _ e))))) ?_
          exact True.intro
        ))
    · (try simp only [cmpI, errD_nil, Bool.not_eq_true', Bool.not_eq_false', decide_eq_true_eq, decide_eq_false_iff_not] at hc5); have ht21 := hc5
      refine awp_exit ?_
      repeat (first | refine athen_ret ?_ | refine ain_ret ?_)
      first
        | refine gpost_ret (gends (l := []) true .nil (fun h => by cases h) .nil rfl .refl rfl (And.intro (Exists.intro _ (Exists.intro _ (And.intro rfl (And.intro shut (And.intro (fun h => by cases h) (And.intro ?_ rfl)))))) (And.intro (Exists.intro _ (Exists.intro _ (And.intro rfl (And.intro shut (And.intro (fun h => by cases h) (And.intro ?_ rfl)))))) True.intro)))
        | refine gpost_normal (gends (l := []) true .nil (fun h => by cases h) .nil rfl .refl rfl (And.intro (Exists.intro _ (Exists.intro _ (And.intro rfl (And.intro shut (And.intro (fun h => by cases h) (And.intro ?_ rfl)))))) (And.intro (Exists.intro _ (Exists.intro _ (And.intro rfl (And.intro shut (And.intro (fun h => by cases h) (And.intro ?_ rfl)))))) True.intro)))
        | refine gpost_ret (gends (l := []) false .nil (fun h => by cases h) .nil rfl .refl rfl (And.intro (Exists.intro _ (Exists.intro _ (And.intro rfl (And.intro shut (And.intro (fun h => by cases h) (And.intro ?_ rfl)))))) (And.intro (Exists.intro _ (Exists.intro _ (And.intro rfl (And.intro shut (And.intro (fun h => by cases h) (And.intro ?_ rfl)))))) True.intro)))
        | refine gpost_normal (gends (l := []) false .nil (fun h => by cases h) .nil rfl .refl rfl (And.intro (Exists.intro _ (Exists.intro _ (And.intro rfl (And.intro shut (And.intro (fun h => by cases h) (And.intro ?_ rfl)))))) (And.intro (Exists.intro _ (Exists.intro _ (And.intro rfl (And.intro shut (And.intro (fun h => by cases h) (And.intro ?_ rfl)))))) True.intro)))
      · have ht : (Sp.be n w).take i = Sp.be n w := List.take_of_length_le (by rw [Sp.be_length]; omega)
        rw [ht]; exact .refl
      · have ht : (Sp.be n w).take i = Sp.be n w := List.take_of_length_le (by rw [Sp.be_length]; omega)
        rw [ht]; exact .refl
theorem cg114n (n w : Nat) (hw : w = 1 ∨ w = 2 ∨ w = 4) (hn : n < 256 ^ w) : AGen (V ea cds gl) 114 [.ptr 1 [] 0, .int .i64 (n : Int), .int .i64 (w : Int)]
    [(1, some (.agg [.sl 1 true 0 (fun _ => .top), .err .nil]))]
    (.tup []) [(1, some (.agg [.osl 1004 1 0 (Sp.be n w).length (Sp.be n w).length, .err .nil])), (1004, some (.arr 1 (Sp.be n w).length (bAt (Sp.be n w))))] := by
  have hp : 1 ≤ 256 ^ w := Nat.one_le_pow _ _ (by decide)
  refine agen_of_body (N := 32) Tryd.func114 rfl rfl (Nat.le_of_ble_eq_true rfl) fun C hV hN hM hO => ?_
  obtain ⟨_, _, w0, G0, σ0, _, own0⟩ := C; dsimp only at hV hN hM hO; subst hV; subst hN; subst hM
  refine awp_seq ?_
  refine awp_seq ?_
  refine awp_region rfl ?_
  refine sP (opp_mv (v := .int _ _) rfl rfl) rfl rfl ?_
  refine sP (opp_cmp rfl rfl rfl rfl) rfl rfl ?_
  refine sP (opp_mv (v := .bool _) rfl rfl) rfl rfl ?_
  refine sG _ rfl rfl rfl rfl (fun hg => (And.intro gi (True.intro))) (fun hg => opp_mv (v := .int _ _) rfl rfl) ?_
  refine sG _ rfl rfl rfl rfl (fun hg => (And.intro gi (True.intro))) (fun hg => opp_mv (v := .int _ _) rfl rfl) ?_
  refine sGR _ rfl rfl rfl rfl (fun hg => (And.intro gi (And.intro gi (True.intro)))) (fun hg => (opr_call rfl rfl ent112 rfl (c112 w hw) (AViews.refl _ rfl))) ?_
  refine sG _ rfl rfl rfl rfl (fun hg => (And.intro gi (And.intro gi (True.intro)))) (fun hg => opp_cmp rfl rfl rfl rfl) ?_
  refine sPick rfl rfl rfl rfl (by exact True.intro) rfl rfl (fun hg => gi) (fun hg => gi) ?_
  refine awp_cond _ rfl (fun hc2 => ?_) (fun hc2 => ?_)
  · (try simp only [cmpI, errD_nil, Bool.not_eq_true', Bool.not_eq_false', decide_eq_true_eq, decide_eq_false_iff_not] at hc2); have ht14 := hc2
    exfalso; simp [cmpI] at ht14; omega
  · (try simp only [cmpI, errD_nil, Bool.not_eq_true', Bool.not_eq_false', decide_eq_true_eq, decide_eq_false_iff_not] at hc2); have ht14 := hc2
    refine awp_skip ?_
    refine awp_seq ?_
    refine awp_region rfl ?_
    refine sP (opp_mv (v := .int _ _) rfl rfl) rfl rfl ?_
    first
      | refine sP (opp_arith rfl rfl rfl (.inr <| .inl ⟨rfl, w64 (by omega)⟩)) rfl rfl ?_
      | refine sP (opp_arith rfl rfl rfl (.inr <| .inl ⟨rfl, rfl⟩)) rfl rfl ?_
    refine sP (opp_as (v := .int _ _) rfl rfl) rfl rfl ?_
    refine awp_block ?_
    refine awp_loopK (ι := Nat × Bool) (fun p2 => p2.1 ≤ w ∧ (p2.2 = true ↔ p2.1 = 0)) (fun p2 => [(6, .int .i64 ((w : Int) - 1 - p2.1)), (20, .top), (21, .top), (22, .top), (23, .top), (24, .top), (25, .top), (26, .top), (27, .top), (28, .top), (29, .top), (30, .top), (31, .top)]) (fun p2 => [(1, cond p2.2 (some (.agg [.sl 1 true 0 (fun _ => .top), .err .nil])) (some (.agg [.osl 1004 1 0 ((Sp.be n w).take p2.1).length ((Sp.be n w).take p2.1).length, .err .nil]))), (1004, cond p2.2 none (some (.arr 1 ((Sp.be n w).take p2.1).length (bAt ((Sp.be n w).take p2.1)))))]) [1004, 1] (fun p2 => w - p2.1) ((0, true)) (⟨Nat.zero_le _, by simp⟩) (by
      refine imp_over [] rfl rfl (by kernel_rfl) ?_ ?_
      · refine And.intro (by exact Or.inr (And.intro rfl (WkV.of (by show AV.int .i64 _ = AV.int .i64 _; simp)))) ?_
        refine And.intro wkv ?_
        refine And.intro wkv ?_
        refine And.intro wkv ?_
        refine And.intro wkv ?_
        refine And.intro wkv ?_
        refine And.intro wkv ?_
        refine And.intro wkv ?_
        refine And.intro wkv ?_
        refine And.intro wkv ?_
        refine And.intro wkv ?_
        refine And.intro wkv ?_
        refine And.intro wkv ?_
        exact True.intro
      · refine And.intro (And.intro rfl (And.intro rfl (Exists.intro _ (And.intro rfl wkc)))) ?_
        exact True.intro
      ) ?_
    intro p2 hi1; obtain ⟨i, e⟩ := p2; rcases e with _ | _
    · dsimp only [cond] at hi1 ⊢
      refine awp_seq ?_
      refine awp_seq ?_
      refine awp_region rfl ?_
      refine sP (opp_mv (v := .int _ _) rfl rfl) rfl rfl ?_
      refine sP (opp_cmp rfl rfl rfl rfl) rfl rfl ?_
      refine awp_cond _ rfl (fun hc5 => ?_) (fun hc5 => ?_)
      · (try simp only [cmpI, errD_nil, Bool.not_eq_true', Bool.not_eq_false', decide_eq_true_eq, decide_eq_false_iff_not] at hc5); have ht21 := hc5
        refine awp_skip ?_
        refine awp_seq ?_
        refine awp_block ?_
        refine awp_region rfl ?_
        first
          | refine sP (opp_mv (v := .ptr _ _ _) rfl rfl) rfl rfl ?_
          | refine sP (opp_mv (v := .fptr _) rfl rfl) rfl rfl ?_
        refine sP (opp_mv (v := .int _ _) rfl rfl) rfl rfl ?_
        refine sP (opp_mv (v := .int _ _) rfl rfl) rfl rfl ?_
        first
          | refine sP (opp_arith rfl rfl rfl (.inr <| .inr <| .inl ⟨rfl, w64 (by omega)⟩)) rfl rfl ?_
          | refine sP (opp_arith rfl rfl rfl (.inr <| .inr <| .inl ⟨rfl, rfl⟩)) rfl rfl ?_
        refine sP (opp_shift rfl rfl rfl (by omega) (.inr ⟨rfl, rfl⟩)) rfl rfl ?_
        first
          | refine sP (opp_convInt rfl rfl un3s un5 (wu8 (by omega))) rfl rfl ?_
          | refine sP (opp_convInt rfl rfl un3s un5 rfl) rfl rfl ?_
        refine sR (opr_buildSlice (n := 30) (g := fun j => if j = 0 then .int _ _ else .int .u8 0) rfl eb36 z5 (by decide) rfl rfl) rfl rfl rfl ?_
        refine sR (opr_callG (rl := [(1, 1), (2, 1004), (3, 30), (15, 31)]) (r1 := .tup []) (H1 := [(1, some (.agg [.osl 31 _ _ _ _, .err _])), (1004, none), (30, none), (31, some (.arr _ _ _))]) (n1 := [31]) rfl rfl ent115 (cg115r ((Sp.be n w).take i).length 1 (bAt ((Sp.be n w).take i)) _ (by rw [List.length_take]; rcases hw with rfl | rfl | rfl <;> omega) (by omega)) (And.intro (And.intro rfl wka) (And.intro (And.intro rfl wka) True.intro)) (And.intro (And.intro rfl (Exists.intro _ (And.intro rfl wkc))) (And.intro (And.intro rfl (Exists.intro _ (And.intro rfl wkc))) (And.intro (And.intro rfl (Exists.intro _ (And.intro rfl wkc))) True.intro))) rfl rfl rfl rfl) rfl rfl rfl ?_
        refine awp_region rfl ?_
        refine sP (opp_mv (v := .int _ _) rfl rfl) rfl rfl ?_
        first
          | refine sP (opp_arith rfl rfl rfl (.inr <| .inl ⟨rfl, w64 (by omega)⟩)) rfl rfl ?_
          | refine sP (opp_arith rfl rfl rfl (.inr <| .inl ⟨rfl, rfl⟩)) rfl rfl ?_
        refine sP (opp_as (v := .int _ _) rfl rfl) rfl rfl ?_
        refine Exists.intro ((i + 1, false)) (And.intro (And.intro (And.intro (by show i + 1 ≤ w; omega) (by simp)) (by omega)) (by
          refine imp_over [(1004, 31)] rfl rfl (by kernel_rfl) ?_ ?_
          · refine And.intro (by exact Or.inr (And.intro rfl (WkV.of (by show AV.int .i64 _ = AV.int .i64 _; simp; omega)))) ?_
            refine And.intro wkv ?_
            refine And.intro wkv ?_
            refine And.intro wkv ?_
            refine And.intro wkv ?_
            refine And.intro wkv ?_
            refine And.intro wkv ?_
            refine And.intro wkv ?_
            refine And.intro wkv ?_
            refine And.intro wkv ?_
            refine And.intro wkv ?_
            refine And.intro wkv ?_
            refine And.intro wkv ?_
            exact True.intro
          · refine And.intro (And.intro rfl (And.intro rfl (Exists.intro _ (And.intro rfl (by exact WkC.of (by show AV.agg [AV.osl 31 1 0 _ _, AV.err .nil] = AV.agg [AV.osl 31 1 0 _ _, AV.err .nil]; rw [be_take n w i (by omega)]; simp)))))) ?_
            refine And.intro (And.intro rfl (And.intro rfl (Exists.intro _ (And.intro rfl (by show WkC (AV.arr 1 _ _) (AV.arr 1 _ _); have e := shr_byte n (w - 1 - i) (by omega); rw [show ((w - 1 - i : Nat) : Int) = (w : Int) - 1 - i by omega] at e; rw [be_take n w i (by omega)]; exact row_put _ _ _ e))))) ?_
            exact True.intro
          ))
      · (try simp only [cmpI, errD_nil, Bool.not_eq_true', Bool.not_eq_false', decide_eq_true_eq, decide_eq_false_iff_not] at hc5); have ht21 := hc5
        refine awp_exit ?_
        repeat (first | refine athen_ret ?_ | refine ain_ret ?_)
        first
          | refine gpost_ret (gends (l := []) true .nil (fun h => by cases h) .nil rfl .refl rfl (And.intro (Exists.intro _ (Exists.intro _ (And.intro rfl (And.intro shut (And.intro (fun h => by cases h) (And.intro ?_ rfl)))))) (And.intro (Exists.intro _ (Exists.intro _ (And.intro rfl (And.intro shut (And.intro (fun h => by cases h) (And.intro ?_ rfl)))))) True.intro)))
          | refine gpost_normal (gends (l := []) true .nil (fun h => by cases h) .nil rfl .refl rfl (And.intro (Exists.intro _ (Exists.intro _ (And.intro rfl (And.intro shut (And.intro (fun h => by cases h) (And.intro ?_ rfl)))))) (And.intro (Exists.intro _ (Exists.intro _ (And.intro rfl (And.intro shut (And.intro (fun h => by cases h) (And.intro ?_ rfl)))))) True.intro)))
          | refine gpost_ret (gends (l := []) false .nil (fun h => by cases h) .nil rfl .refl rfl (And.intro (Exists.intro _ (Exists.intro _ (And.intro rfl (And.intro shut (And.intro (fun h => by cases h) (And.intro ?_ rfl)))))) (And.intro (Exists.intro _ (Exists.intro _ (And.intro rfl (And.intro shut (And.intro (fun h => by cases h) (And.intro ?_ rfl)))))) True.intro)))
          | refine gpost_normal (gends (l := []) false .nil (fun h => by cases h) .nil rfl .refl rfl (And.intro (Exists.intro _ (Exists.intro _ (And.intro rfl (And.intro shut (And.intro (fun h => by cases h) (And.intro ?_ rfl)))))) (And.intro (Exists.intro _ (Exists.intro _ (And.intro rfl (And.intro shut (And.intro (fun h => by cases h) (And.intro ?_ rfl)))))) True.intro)))
        · have ht : (Sp.be n w).take i = Sp.be n w := List.take_of_length_le (by rw [Sp.be_length]; omega)
          rw [ht]; exact .refl
        · have ht : (Sp.be n w).take i = Sp.be n w := List.take_of_length_le (by rw [Sp.be_length]; omega)
          rw [ht]; exact .refl
    · dsimp only [cond] at hi1 ⊢
      refine awp_seq ?_
      refine awp_seq ?_
      refine awp_region rfl ?_
      refine sP (opp_mv (v := .int _ _) rfl rfl) rfl rfl ?_
      refine sP (opp_cmp rfl rfl rfl rfl) rfl rfl ?_
      refine awp_cond _ rfl (fun hc9 => ?_) (fun hc9 => ?_)
      · (try simp only [cmpI, errD_nil, Bool.not_eq_true', Bool.not_eq_false', decide_eq_true_eq, decide_eq_false_iff_not] at hc9); have ht21 := hc9
        refine awp_skip ?_
        refine awp_seq ?_
        refine awp_block ?_
        refine awp_region rfl ?_
        first
          | refine sP (opp_mv (v := .ptr _ _ _) rfl rfl) rfl rfl ?_
          | refine sP (opp_mv (v := .fptr _) rfl rfl) rfl rfl ?_
        refine sP (opp_mv (v := .int _ _) rfl rfl) rfl rfl ?_
        refine sP (opp_mv (v := .int _ _) rfl rfl) rfl rfl ?_
        first
          | refine sP (opp_arith rfl rfl rfl (.inr <| .inr <| .inl ⟨rfl, w64 (by omega)⟩)) rfl rfl ?_
          | refine sP (opp_arith rfl rfl rfl (.inr <| .inr <| .inl ⟨rfl, rfl⟩)) rfl rfl ?_
        refine sP (opp_shift rfl rfl rfl (by omega) (.inr ⟨rfl, rfl⟩)) rfl rfl ?_
        first
          | refine sP (opp_convInt rfl rfl un3s un5 (wu8 (by omega))) rfl rfl ?_
          | refine sP (opp_convInt rfl rfl un3s un5 rfl) rfl rfl ?_
        refine sR (opr_buildSlice (n := 30) (g := fun j => if j = 0 then .int _ _ else .int .u8 0) rfl eb36 z5 (by decide) rfl rfl) rfl rfl rfl ?_
        refine sR (opr_callG (rl := [(1, 1), (3, 30), (15, 31)]) (r1 := .tup []) (H1 := [(1, some (.agg [.osl 31 _ _ _ _, .err _])), (30, none), (31, some (.arr _ _ _))]) (n1 := [31]) rfl rfl ent115 (cg115n 1 _ (by omega) (by omega)) (And.intro (And.intro rfl wka) (And.intro (And.intro rfl wka) True.intro)) (And.intro (And.intro rfl (Exists.intro _ (And.intro rfl wkc))) (And.intro (And.intro rfl (Exists.intro _ (And.intro rfl wkc))) True.intro)) rfl rfl rfl rfl) rfl rfl rfl ?_
        refine awp_region rfl ?_
        refine sP (opp_mv (v := .int _ _) rfl rfl) rfl rfl ?_
        first
          | refine sP (opp_arith rfl rfl rfl (.inr <| .inl ⟨rfl, w64 (by omega)⟩)) rfl rfl ?_
          | refine sP (opp_arith rfl rfl rfl (.inr <| .inl ⟨rfl, rfl⟩)) rfl rfl ?_
        refine sP (opp_as (v := .int _ _) rfl rfl) rfl rfl ?_
        have hi0 : i = 0 := hi1.2.1 rfl
        refine Exists.intro ((i + 1, false)) (And.intro (And.intro (And.intro (by show i + 1 ≤ w; omega) (by simp)) (by omega)) (by
          refine imp_over [(1004, 31)] rfl rfl (by kernel_rfl) ?_ ?_
          · refine And.intro (by exact Or.inr (And.intro rfl (WkV.of (by show AV.int .i64 _ = AV.int .i64 _; simp; omega)))) ?_
            refine And.intro wkv ?_
            refine And.intro wkv ?_
            refine And.intro wkv ?_
            refine And.intro wkv ?_
            refine And.intro wkv ?_
            refine And.intro wkv ?_
            refine And.intro wkv ?_
            refine And.intro wkv ?_
            refine And.intro wkv ?_
            refine And.intro wkv ?_
            refine And.intro wkv ?_
            refine And.intro wkv ?_
            exact True.intro
          · refine And.intro (And.intro rfl (And.intro rfl (Exists.intro _ (And.intro rfl (by exact WkC.of (by show AV.agg [AV.osl 31 1 0 _ _, AV.err .nil] = AV.agg [AV.osl 31 1 0 _ _, AV.err .nil]; rw [be_take n w i (by omega), hi0]; simp)))))) ?_
            refine And.intro (And.intro rfl (And.intro rfl (Exists.intro _ (And.intro rfl (by show WkC (AV.arr 1 _ _) (AV.arr 1 _ _); have e := shr_byte n (w - 1 - i) (by omega); rw [show ((w - 1 - i : Nat) : Int) = (w : Int) - 1 - i by omega] at e; rw [be_take n w i (by omega)]; have q := row_put ((Sp.be n w).take i) (UInt8.ofNat (n / 256 ^ (w - 1 - i) % 256)) _ e; simp only [hi0, List.take_zero, List.length_nil] at q ⊢; exact WkC.trans' (WkC.arr (fun j hj => by have h0 : j = 0 := (by simpa using hj); subst h0; rfl)) q))))) ?_
            exact True.intro
          ))
      · (try simp only [cmpI, errD_nil, Bool.not_eq_true', Bool.not_eq_false', decide_eq_true_eq, decide_eq_false_iff_not] at hc9); have ht21 := hc9
        refine awp_exit ?_
        repeat (first | refine athen_ret ?_ | refine ain_ret ?_)
        exfalso; have := hi1.2.1 rfl; omega
end
end Go.Proofs.YtgaihhimkodmmaaDoor
/- Layer 2: a writer's methods (walks over this dump). -/
namespace Go.Proofs.YtgaihhimkodmmaaDoor
attribute [local irreducible] Tryd.prog
open Go.Fy
set_option linter.unusedSimpArgs false
set_option linter.unusedVariables false
section
variable {ea : Nat → Addr} {cds : List Nat} {gl : Nat → Option AV}
theorem bAt_append (l d : List UInt8) (j : Nat) : (if j < l.length then bAt l j else bAt d (j - l.length)) = bAt (l ++ d) j := by
  simp only [bAt, List.getD_eq_getElem?_getD, List.getElem?_append]
  by_cases h : j < l.length
  · rw [if_pos h, if_pos h]
  · rw [if_neg h, if_neg h]
theorem cg66n (n : Nat) (hn : n < 65536) : AGen (V ea cds gl) 66 [.ptr 1 [] 0, .int .i64 (n : Int)] [(1, some (.agg [.sl 1 true 0 (fun _ => .top), .err .nil]))]
    (.tup []) [(1, some (.agg [.osl 1004 1 0 (Sp.be n 2).length (Sp.be n 2).length, .err .nil])), (1004, some (.arr 1 (Sp.be n 2).length (bAt (Sp.be n 2))))] := by
  refine agen_of_body (N := 7) Tryd.func66 rfl rfl (Nat.le_of_ble_eq_true rfl) fun C hV hN hM hO => ?_
  obtain ⟨_, _, w0, G0, σ0, _, own0⟩ := C; dsimp only at hV hN hM hO; subst hV; subst hN; subst hM
  refine awp_region rfl ?_
  first
    | refine sP (opp_mv (v := .ptr _ _ _) rfl rfl) rfl rfl ?_
    | refine sP (opp_mv (v := .fptr _) rfl rfl) rfl rfl ?_
  refine sP (opp_mv (v := .int _ _) rfl rfl) rfl rfl ?_
  refine sR (opr_callG (rl := [(1, 1), (1004, 1004)]) (r1 := .tup []) (H1 := [(1, some (.agg [.osl 1004 _ _ _ _, .err _])), (1004, some (.arr _ _ _))]) (n1 := [1004]) rfl rfl ent114 (cg114n n 2 (by simp) (by omega)) (And.intro (And.intro rfl wka) (And.intro (And.intro rfl wka) (And.intro (And.intro rfl wka) True.intro))) (And.intro (And.intro rfl (Exists.intro _ (And.intro rfl wkc))) True.intro) rfl rfl rfl rfl) rfl rfl rfl ?_
  repeat (first | refine athen_ret ?_ | refine ain_ret ?_)
  first
    | refine gpost_ret (gends (l := []) true .nil (fun h => by cases h) .nil rfl .refl rfl (And.intro (Exists.intro _ (Exists.intro _ (And.intro rfl (And.intro shut (And.intro (fun h => by cases h) (And.intro ?_ rfl)))))) (And.intro (Exists.intro _ (Exists.intro _ (And.intro rfl (And.intro shut (And.intro (fun h => by cases h) (And.intro ?_ rfl)))))) True.intro)))
    | refine gpost_normal (gends (l := []) true .nil (fun h => by cases h) .nil rfl .refl rfl (And.intro (Exists.intro _ (Exists.intro _ (And.intro rfl (And.intro shut (And.intro (fun h => by cases h) (And.intro ?_ rfl)))))) (And.intro (Exists.intro _ (Exists.intro _ (And.intro rfl (And.intro shut (And.intro (fun h => by cases h) (And.intro ?_ rfl)))))) True.intro)))
    | refine gpost_ret (gends (l := []) false .nil (fun h => by cases h) .nil rfl .refl rfl (And.intro (Exists.intro _ (Exists.intro _ (And.intro rfl (And.intro shut (And.intro (fun h => by cases h) (And.intro ?_ rfl)))))) (And.intro (Exists.intro _ (Exists.intro _ (And.intro rfl (And.intro shut (And.intro (fun h => by cases h) (And.intro ?_ rfl)))))) True.intro)))
    | refine gpost_normal (gends (l := []) false .nil (fun h => by cases h) .nil rfl .refl rfl (And.intro (Exists.intro _ (Exists.intro _ (And.intro rfl (And.intro shut (And.intro (fun h => by cases h) (And.intro ?_ rfl)))))) (And.intro (Exists.intro _ (Exists.intro _ (And.intro rfl (And.intro shut (And.intro (fun h => by cases h) (And.intro ?_ rfl)))))) True.intro)))
  · exact .refl
  · exact .refl
theorem cg67r (l : List UInt8) (n : Nat) (hn : n < 256) (h0 : l.length ≤ 549755813888) : AGen (V ea cds gl) 67 [.ptr 1 [] 0, .int .i64 (n : Int)] [(1, some (.agg [.osl 2 1 0 l.length l.length, .err .nil])), (2, some (.arr 1 l.length (bAt l)))]
    (.tup []) [(1, some (.agg [.osl 1004 1 0 (l ++ Sp.be n 1).length (l ++ Sp.be n 1).length, .err .nil])), (2, none), (1004, some (.arr 1 (l ++ Sp.be n 1).length (bAt (l ++ Sp.be n 1))))] := by
  refine agen_of_body (N := 7) Tryd.func67 rfl rfl (Nat.le_of_ble_eq_true rfl) fun C hV hN hM hO => ?_
  obtain ⟨_, _, w0, G0, σ0, _, own0⟩ := C; dsimp only at hV hN hM hO; subst hV; subst hN; subst hM
  refine awp_region rfl ?_
  first
    | refine sP (opp_mv (v := .ptr _ _ _) rfl rfl) rfl rfl ?_
    | refine sP (opp_mv (v := .fptr _) rfl rfl) rfl rfl ?_
  refine sP (opp_mv (v := .int _ _) rfl rfl) rfl rfl ?_
  refine sR (opr_callG (rl := [(1, 1), (2, 2), (1004, 1004)]) (r1 := .tup []) (H1 := [(1, some (.agg [.osl 1004 _ _ _ _, .err _])), (2, none), (1004, some (.arr _ _ _))]) (n1 := [1004]) rfl rfl ent114 (cg114r l n 1 (by simp) (by omega) h0) (And.intro (And.intro rfl wka) (And.intro (And.intro rfl wka) (And.intro (And.intro rfl wka) True.intro))) (And.intro (And.intro rfl (Exists.intro _ (And.intro rfl wkc))) (And.intro (And.intro rfl (Exists.intro _ (And.intro rfl wkc))) True.intro)) rfl rfl rfl rfl) rfl rfl rfl ?_
  repeat (first | refine athen_ret ?_ | refine ain_ret ?_)
  first
    | refine gpost_ret (gends (l := []) true .nil (fun h => by cases h) .nil rfl .refl rfl (And.intro (Exists.intro _ (Exists.intro _ (And.intro rfl (And.intro shut (And.intro (fun h => by cases h) (And.intro ?_ rfl)))))) (And.intro (Exists.intro _ (Exists.intro _ (And.intro rfl (And.intro shut (And.intro (fun h => by cases h) (And.intro ?_ rfl)))))) True.intro)))
    | refine gpost_normal (gends (l := []) true .nil (fun h => by cases h) .nil rfl .refl rfl (And.intro (Exists.intro _ (Exists.intro _ (And.intro rfl (And.intro shut (And.intro (fun h => by cases h) (And.intro ?_ rfl)))))) (And.intro (Exists.intro _ (Exists.intro _ (And.intro rfl (And.intro shut (And.intro (fun h => by cases h) (And.intro ?_ rfl)))))) True.intro)))
    | refine gpost_ret (gends (l := []) false .nil (fun h => by cases h) .nil rfl .refl rfl (And.intro (Exists.intro _ (Exists.intro _ (And.intro rfl (And.intro shut (And.intro (fun h => by cases h) (And.intro ?_ rfl)))))) (And.intro (Exists.intro _ (Exists.intro _ (And.intro rfl (And.intro shut (And.intro (fun h => by cases h) (And.intro ?_ rfl)))))) True.intro)))
    | refine gpost_normal (gends (l := []) false .nil (fun h => by cases h) .nil rfl .refl rfl (And.intro (Exists.intro _ (Exists.intro _ (And.intro rfl (And.intro shut (And.intro (fun h => by cases h) (And.intro ?_ rfl)))))) (And.intro (Exists.intro _ (Exists.intro _ (And.intro rfl (And.intro shut (And.intro (fun h => by cases h) (And.intro ?_ rfl)))))) True.intro)))
  · exact .refl
  · exact .refl
theorem cg68r (l : List UInt8) (n : Nat) (hn : n < 4294967296) (h0 : l.length ≤ 549755813888) : AGen (V ea cds gl) 68 [.ptr 1 [] 0, .int .i64 (n : Int)] [(1, some (.agg [.osl 2 1 0 l.length l.length, .err .nil])), (2, some (.arr 1 l.length (bAt l)))]
    (.tup []) [(1, some (.agg [.osl 1004 1 0 (l ++ Sp.be n 4).length (l ++ Sp.be n 4).length, .err .nil])), (2, none), (1004, some (.arr 1 (l ++ Sp.be n 4).length (bAt (l ++ Sp.be n 4))))] := by
  refine agen_of_body (N := 7) Tryd.func68 rfl rfl (Nat.le_of_ble_eq_true rfl) fun C hV hN hM hO => ?_
  obtain ⟨_, _, w0, G0, σ0, _, own0⟩ := C; dsimp only at hV hN hM hO; subst hV; subst hN; subst hM
  refine awp_region rfl ?_
  first
    | refine sP (opp_mv (v := .ptr _ _ _) rfl rfl) rfl rfl ?_
    | refine sP (opp_mv (v := .fptr _) rfl rfl) rfl rfl ?_
  refine sP (opp_mv (v := .int _ _) rfl rfl) rfl rfl ?_
  refine sR (opr_callG (rl := [(1, 1), (2, 2), (1004, 1004)]) (r1 := .tup []) (H1 := [(1, some (.agg [.osl 1004 _ _ _ _, .err _])), (2, none), (1004, some (.arr _ _ _))]) (n1 := [1004]) rfl rfl ent114 (cg114r l n 4 (by simp) (by omega) h0) (And.intro (And.intro rfl wka) (And.intro (And.intro rfl wka) (And.intro (And.intro rfl wka) True.intro))) (And.intro (And.intro rfl (Exists.intro _ (And.intro rfl wkc))) (And.intro (And.intro rfl (Exists.intro _ (And.intro rfl wkc))) True.intro)) rfl rfl rfl rfl) rfl rfl rfl ?_
  repeat (first | refine athen_ret ?_ | refine ain_ret ?_)
  first
    | refine gpost_ret (gends (l := []) true .nil (fun h => by cases h) .nil rfl .refl rfl (And.intro (Exists.intro _ (Exists.intro _ (And.intro rfl (And.intro shut (And.intro (fun h => by cases h) (And.intro ?_ rfl)))))) (And.intro (Exists.intro _ (Exists.intro _ (And.intro rfl (And.intro shut (And.intro (fun h => by cases h) (And.intro ?_ rfl)))))) True.intro)))
    | refine gpost_normal (gends (l := []) true .nil (fun h => by cases h) .nil rfl .refl rfl (And.intro (Exists.intro _ (Exists.intro _ (And.intro rfl (And.intro shut (And.intro (fun h => by cases h) (And.intro ?_ rfl)))))) (And.intro (Exists.intro _ (Exists.intro _ (And.intro rfl (And.intro shut (And.intro (fun h => by cases h) (And.intro ?_ rfl)))))) True.intro)))
    | refine gpost_ret (gends (l := []) false .nil (fun h => by cases h) .nil rfl .refl rfl (And.intro (Exists.intro _ (Exists.intro _ (And.intro rfl (And.intro shut (And.intro (fun h => by cases h) (And.intro ?_ rfl)))))) (And.intro (Exists.intro _ (Exists.intro _ (And.intro rfl (And.intro shut (And.intro (fun h => by cases h) (And.intro ?_ rfl)))))) True.intro)))
    | refine gpost_normal (gends (l := []) false .nil (fun h => by cases h) .nil rfl .refl rfl (And.intro (Exists.intro _ (Exists.intro _ (And.intro rfl (And.intro shut (And.intro (fun h => by cases h) (And.intro ?_ rfl)))))) (And.intro (Exists.intro _ (Exists.intro _ (And.intro rfl (And.intro shut (And.intro (fun h => by cases h) (And.intro ?_ rfl)))))) True.intro)))
  · exact .refl
  · exact .refl
theorem cg69o (l d : List UInt8) (h0 : l.length ≤ 549755813888) (h1 : d.length ≤ 549755813888) : AGen (V ea cds gl) 69 [.ptr 1 [] 0, .osl 3 1 0 d.length d.length] [(1, some (.agg [.osl 2 1 0 l.length l.length, .err .nil])), (2, some (.arr 1 l.length (bAt l))), (3, some (.arr 1 d.length (bAt d)))]
    (.tup []) [(1, some (.agg [.osl 1004 1 0 (l ++ d).length (l ++ d).length, .err .nil])), (2, none), (3, none), (1004, some (.arr 1 (l ++ d).length (bAt (l ++ d))))] := by
  refine agen_of_body (N := 7) Tryd.func69 rfl rfl (Nat.le_of_ble_eq_true rfl) fun C hV hN hM hO => ?_
  obtain ⟨_, _, w0, G0, σ0, _, own0⟩ := C; dsimp only at hV hN hM hO; subst hV; subst hN; subst hM
  refine awp_region rfl ?_
  first
    | refine sP (opp_mv (v := .ptr _ _ _) rfl rfl) rfl rfl ?_
    | refine sP (opp_mv (v := .fptr _) rfl rfl) rfl rfl ?_
  first
    | refine sP (opp_mv (v := .sl _ _ _ _) rfl rfl) rfl rfl ?_
    | refine sP (opp_mv (v := .osl _ _ _ _ _) rfl rfl) rfl rfl ?_
  refine sR (opr_callG (rl := [(1, 1), (2, 2), (3, 3), (15, 1004)]) (r1 := .tup []) (H1 := [(1, some (.agg [.osl 1004 _ _ _ _, .err _])), (2, none), (3, none), (1004, some (.arr _ _ _))]) (n1 := [1004]) rfl rfl ent115 (cg115r l.length d.length (bAt l) (bAt d) (by omega) (by omega)) (And.intro (And.intro rfl wka) (And.intro (And.intro rfl wka) True.intro)) (And.intro (And.intro rfl (Exists.intro _ (And.intro rfl wkc))) (And.intro (And.intro rfl (Exists.intro _ (And.intro rfl wkc))) (And.intro (And.intro rfl (Exists.intro _ (And.intro rfl wkc))) True.intro))) rfl rfl rfl rfl) rfl rfl rfl ?_
  repeat (first | refine athen_ret ?_ | refine ain_ret ?_)
  first
    | refine gpost_ret (gends (l := []) true .nil (fun h => by cases h) .nil rfl .refl rfl (And.intro (Exists.intro _ (Exists.intro _ (And.intro rfl (And.intro shut (And.intro (fun h => by cases h) (And.intro ?_ rfl)))))) (And.intro (Exists.intro _ (Exists.intro _ (And.intro rfl (And.intro shut (And.intro (fun h => by cases h) (And.intro ?_ rfl)))))) True.intro)))
    | refine gpost_normal (gends (l := []) true .nil (fun h => by cases h) .nil rfl .refl rfl (And.intro (Exists.intro _ (Exists.intro _ (And.intro rfl (And.intro shut (And.intro (fun h => by cases h) (And.intro ?_ rfl)))))) (And.intro (Exists.intro _ (Exists.intro _ (And.intro rfl (And.intro shut (And.intro (fun h => by cases h) (And.intro ?_ rfl)))))) True.intro)))
    | refine gpost_ret (gends (l := []) false .nil (fun h => by cases h) .nil rfl .refl rfl (And.intro (Exists.intro _ (Exists.intro _ (And.intro rfl (And.intro shut (And.intro (fun h => by cases h) (And.intro ?_ rfl)))))) (And.intro (Exists.intro _ (Exists.intro _ (And.intro rfl (And.intro shut (And.intro (fun h => by cases h) (And.intro ?_ rfl)))))) True.intro)))
    | refine gpost_normal (gends (l := []) false .nil (fun h => by cases h) .nil rfl .refl rfl (And.intro (Exists.intro _ (Exists.intro _ (And.intro rfl (And.intro shut (And.intro (fun h => by cases h) (And.intro ?_ rfl)))))) (And.intro (Exists.intro _ (Exists.intro _ (And.intro rfl (And.intro shut (And.intro (fun h => by cases h) (And.intro ?_ rfl)))))) True.intro)))
  · rw [List.length_append]; exact .refl
  · rw [List.length_append]; exact .arr (fun j hj => bAt_append l d j)
theorem ct110 (l : List UInt8) (h1 : l.length ≤ 140737488355328) : APure (V ea cds gl) 110 [.sl 1 false l.length (bAt l)] true (.sl 1 false l.length (bAt l)) := by
  refine acalls_of_body (N := 8) Tryd.func110 rfl rfl (Nat.le_of_ble_eq_true rfl) fun C hV hN hM hO => ?_
  obtain ⟨_, _, w0, G0, σ0, _, own0⟩ := C; dsimp only at hV hN hM hO; subst hV; subst hN; subst hM
  refine awp_seq ?_
  refine awp_region rfl ?_
  first
    | refine sP (opp_as (v := .sl _ _ _ _) rfl rfl) rfl rfl ?_
    | refine sP (opp_as (v := .osl _ _ _ _ _) rfl rfl) rfl rfl ?_
  refine awp_seq ?_
  refine awp_seq ?_
  refine awp_region rfl ?_
  first
    | refine sP (opp_mv (v := .sl _ _ _ _) rfl rfl) rfl rfl ?_
    | refine sP (opp_mv (v := .osl _ _ _ _ _) rfl rfl) rfl rfl ?_
  first
    | refine sP (opp_slNil rfl rfl rfl un36 (.inl ⟨rfl, rfl⟩)) rfl rfl ?_
    | refine sP (opp_oslNil rfl rfl rfl un36 (.inl ⟨rfl, rfl⟩)) rfl rfl ?_
  refine awp_cond _ rfl (fun hc3 => ?_) (fun hc3 => ?_)
  · (try simp only [cmpI, errD_nil, Bool.not_eq_true', Bool.not_eq_false', decide_eq_true_eq, decide_eq_false_iff_not] at hc3); have ht4 := hc3
    refine awp_seq ?_
    refine awp_region rfl ?_
    first
      | refine sP (opp_as (v := .sl _ _ _ _) rfl rfl) rfl rfl ?_
      | refine sP (opp_as (v := .osl _ _ _ _ _) rfl rfl) rfl rfl ?_
    refine awp_ret ?_
    repeat (first | refine athen_ret ?_ | refine ain_ret ?_)
    first
      | refine apost_ret (aend1 (r0 := .sl _ _ _ _) (.tmp .nil) (.noN rfl rfl) ⟨Wk.v ?_, rfl, rfl⟩)
      | refine apost_ret (aend1s (r0 := .sl _ _ _ _) (.tmp .nil) shut rfl ⟨Wk.v ?_, rfl, rfl⟩)
      | refine apost_ret (aend1 (r0 := .osl _ _ _ _ _) (.tmp .nil) (.noN rfl rfl) ⟨Wk.v ?_, rfl, rfl⟩)
      | refine apost_ret (aend1s (r0 := .osl _ _ _ _ _) (.tmp .nil) shut rfl ⟨Wk.v ?_, rfl, rfl⟩)
    simp at hc3
  · (try simp only [cmpI, errD_nil, Bool.not_eq_true', Bool.not_eq_false', decide_eq_true_eq, decide_eq_false_iff_not] at hc3); have ht4 := hc3
    refine awp_skip ?_
    refine awp_seq ?_
    refine awp_region rfl ?_
    refine sR (opr_buildSlice (n := 5) (g := fun _ => .int .u8 0) rfl eb36 z5 (by decide) rfl rfl) rfl rfl rfl ?_
    first
      | refine sP (opp_mv (v := .sl _ _ _ _) rfl rfl) rfl rfl ?_
      | refine sP (opp_mv (v := .osl _ _ _ _ _) rfl rfl) rfl rfl ?_
    first
      | refine sR (opr_append (d := 7) rfl rfl rfl (by omega) (.osl0 rfl (by omega)) eb36 z5 (by omega) (by omega)) rfl rfl rfl ?_
      | refine sR (opr_append (d := 7) rfl rfl rfl (by omega) .sl eb36 z5 (by omega) (by omega)) rfl rfl rfl ?_
      | refine sR (opr_append (d := 7) rfl rfl rfl (by omega) (.osl rfl (by omega) (fun _ _ => rfl)) eb36 z5 (by omega) (by omega)) rfl rfl rfl ?_
      | refine sR (opr_appendNil (d := 7) rfl rfl (.osl0 rfl (by omega)) eb36 z5 (by omega) (by omega) (by omega)) rfl rfl rfl ?_
      | refine sR (opr_appendNil (d := 7) rfl rfl .sl eb36 z5 (by omega) (by omega) (by omega)) rfl rfl rfl ?_
      | refine sR (opr_appendNil (d := 7) rfl rfl (.osl rfl (by omega) (fun _ _ => rfl)) eb36 z5 (by omega) (by omega) (by omega)) rfl rfl rfl ?_
    first
      | refine sP (opp_as (v := .sl _ _ _ _) rfl rfl) rfl rfl ?_
      | refine sP (opp_as (v := .osl _ _ _ _ _) rfl rfl) rfl rfl ?_
    refine awp_ret ?_
    repeat (first | refine athen_ret ?_ | refine ain_ret ?_)
    first
      | refine apost_ret (aend1 (r0 := .sl _ _ _ _) (.tmp .nil) (.noN rfl rfl) ⟨Wk.v ?_, rfl, rfl⟩)
      | refine apost_ret (aend1s (r0 := .sl _ _ _ _) (.tmp .nil) shut rfl ⟨Wk.v ?_, rfl, rfl⟩)
      | refine apost_ret (aend1 (r0 := .osl _ _ _ _ _) (.tmp .nil) (.noN rfl rfl) ⟨Wk.v ?_, rfl, rfl⟩)
      | refine apost_ret (aend1s (r0 := .osl _ _ _ _ _) (.tmp .nil) shut rfl ⟨Wk.v ?_, rfl, rfl⟩)
    simp only [Nat.zero_add]; exact .sl (fun j hj => by simp)
theorem cg70r (l : List UInt8) (h0 : l.length ≤ 549755813888) : AGen (V ea cds gl) 70 [.ptr 1 [] 0] [(1, some (.agg [.osl 2 1 0 l.length l.length, .err .nil])), (2, some (.arr 1 l.length (bAt l)))]
    (.tup [.sl 1 false l.length (bAt l), .err .nil]) [(1, some (.agg [.osl 2 1 0 l.length l.length, .err .nil])), (2, some (.arr 1 l.length (bAt l)))] := by
  refine agen_of_body (N := 18) Tryd.func70 rfl rfl (Nat.le_of_ble_eq_true rfl) fun C hV hN hM hO => ?_
  obtain ⟨_, _, w0, G0, σ0, _, own0⟩ := C; dsimp only at hV hN hM hO; subst hV; subst hN; subst hM
  refine awp_seq ?_
  refine awp_region rfl ?_
  first
    | refine sP (opp_as (v := .sl _ _ _ _) rfl rfl) rfl rfl ?_
    | refine sP (opp_as (v := .osl _ _ _ _ _) rfl rfl) rfl rfl ?_
  refine sP (opp_as (v := .err _) rfl rfl) rfl rfl ?_
  refine awp_seq ?_
  refine awp_seq ?_
  refine awp_region rfl ?_
  first
    | refine sP (opp_mv (v := .ptr _ _ _) rfl rfl) rfl rfl ?_
    | refine sP (opp_mv (v := .fptr _) rfl rfl) rfl rfl ?_
  first
    | refine sP (opp_nilCheckP rfl rfl) rfl rfl ?_
    | refine sP (opp_nilCheckF rfl rfl) rfl rfl ?_
  first
    | refine sP (opp_fieldP rfl rfl fld178_1 rfl) rfl rfl ?_
    | refine sP (opp_fieldF rfl rfl rfl fld178_1 rfl rfl) rfl rfl ?_
  first
    | refine sP (opp_loadP rfl rfl rfl rfl bi rfl ty29) rfl rfl ?_
    | refine sP (opp_loadF rfl rfl ty29) rfl rfl ?_
  refine sP (opp_errNil rfl rfl rfl un29 (.inr ⟨rfl, rfl⟩)) rfl rfl ?_
  refine awp_cond _ rfl (fun hc3 => ?_) (fun hc3 => ?_)
  · (try simp only [cmpI, errD_nil, Bool.not_eq_true', Bool.not_eq_false', decide_eq_true_eq, decide_eq_false_iff_not] at hc3); have ht8 := hc3
    exact absurd hc3 (by decide)
  · (try simp only [cmpI, errD_nil, Bool.not_eq_true', Bool.not_eq_false', decide_eq_true_eq, decide_eq_false_iff_not] at hc3); have ht8 := hc3
    refine awp_skip ?_
    refine awp_seq ?_
    refine awp_region rfl ?_
    first
      | refine sP (opp_mv (v := .ptr _ _ _) rfl rfl) rfl rfl ?_
      | refine sP (opp_mv (v := .fptr _) rfl rfl) rfl rfl ?_
    first
      | refine sP (opp_nilCheckP rfl rfl) rfl rfl ?_
      | refine sP (opp_nilCheckF rfl rfl) rfl rfl ?_
    first
      | refine sP (opp_fieldP rfl rfl fld178_0 rfl) rfl rfl ?_
      | refine sP (opp_fieldF rfl rfl rfl fld178_0 rfl rfl) rfl rfl ?_
    first
      | refine sP (opp_loadP rfl rfl rfl rfl bi rfl ty36) rfl rfl ?_
      | refine sP (opp_loadF rfl rfl ty36) rfl rfl ?_
    refine sR (opr_call rfl rfl ent110 rfl (ct110 l (by omega)) (.cons (aview_osl0 rfl (Nat.le_refl _)) .nil)) rfl rfl rfl ?_ -- d=17 t=36
    first
      | refine sP (opp_as (v := .sl _ _ _ _) rfl rfl) rfl rfl ?_
      | refine sP (opp_as (v := .osl _ _ _ _ _) rfl rfl) rfl rfl ?_
    refine sP (opp_as (v := .err _) rfl rfl) rfl rfl ?_
    refine awp_ret ?_
    repeat (first | refine athen_ret ?_ | refine ain_ret ?_)
    first
      | refine gpost_ret (gends (l := [.sl _ _ _ _, .err _]) true (.tmp (.tmp .nil)) (fun h => by cases h) (.cons shut (fun h => by cases h) (.cons shut (fun h => by cases h) .nil)) rfl ?_ rfl (And.intro (Exists.intro _ (Exists.intro _ (And.intro rfl (And.intro shut (And.intro (fun h => by cases h) (And.intro ?_ rfl)))))) (And.intro (Exists.intro _ (Exists.intro _ (And.intro rfl (And.intro shut (And.intro (fun h => by cases h) (And.intro ?_ rfl)))))) True.intro)))
      | refine gpost_normal (gends (l := [.sl _ _ _ _, .err _]) true (.tmp (.tmp .nil)) (fun h => by cases h) (.cons shut (fun h => by cases h) (.cons shut (fun h => by cases h) .nil)) rfl ?_ rfl (And.intro (Exists.intro _ (Exists.intro _ (And.intro rfl (And.intro shut (And.intro (fun h => by cases h) (And.intro ?_ rfl)))))) (And.intro (Exists.intro _ (Exists.intro _ (And.intro rfl (And.intro shut (And.intro (fun h => by cases h) (And.intro ?_ rfl)))))) True.intro)))
      | refine gpost_ret (gends (l := [.sl _ _ _ _, .err _]) false (.tmp (.tmp .nil)) (fun h => by cases h) (.cons shut (fun h => by cases h) (.cons shut (fun h => by cases h) .nil)) rfl ?_ rfl (And.intro (Exists.intro _ (Exists.intro _ (And.intro rfl (And.intro shut (And.intro (fun h => by cases h) (And.intro ?_ rfl)))))) (And.intro (Exists.intro _ (Exists.intro _ (And.intro rfl (And.intro shut (And.intro (fun h => by cases h) (And.intro ?_ rfl)))))) True.intro)))
      | refine gpost_normal (gends (l := [.sl _ _ _ _, .err _]) false (.tmp (.tmp .nil)) (fun h => by cases h) (.cons shut (fun h => by cases h) (.cons shut (fun h => by cases h) .nil)) rfl ?_ rfl (And.intro (Exists.intro _ (Exists.intro _ (And.intro rfl (And.intro shut (And.intro (fun h => by cases h) (And.intro ?_ rfl)))))) (And.intro (Exists.intro _ (Exists.intro _ (And.intro rfl (And.intro shut (And.intro (fun h => by cases h) (And.intro ?_ rfl)))))) True.intro)))
      | refine gpost_ret (gends (l := [.osl _ _ _ _ _, .err _]) true (.tmp (.tmp .nil)) (fun h => by cases h) (.cons shut (fun h => by cases h) (.cons shut (fun h => by cases h) .nil)) rfl ?_ rfl (And.intro (Exists.intro _ (Exists.intro _ (And.intro rfl (And.intro shut (And.intro (fun h => by cases h) (And.intro ?_ rfl)))))) (And.intro (Exists.intro _ (Exists.intro _ (And.intro rfl (And.intro shut (And.intro (fun h => by cases h) (And.intro ?_ rfl)))))) True.intro)))
      | refine gpost_normal (gends (l := [.osl _ _ _ _ _, .err _]) true (.tmp (.tmp .nil)) (fun h => by cases h) (.cons shut (fun h => by cases h) (.cons shut (fun h => by cases h) .nil)) rfl ?_ rfl (And.intro (Exists.intro _ (Exists.intro _ (And.intro rfl (And.intro shut (And.intro (fun h => by cases h) (And.intro ?_ rfl)))))) (And.intro (Exists.intro _ (Exists.intro _ (And.intro rfl (And.intro shut (And.intro (fun h => by cases h) (And.intro ?_ rfl)))))) True.intro)))
      | refine gpost_ret (gends (l := [.osl _ _ _ _ _, .err _]) false (.tmp (.tmp .nil)) (fun h => by cases h) (.cons shut (fun h => by cases h) (.cons shut (fun h => by cases h) .nil)) rfl ?_ rfl (And.intro (Exists.intro _ (Exists.intro _ (And.intro rfl (And.intro shut (And.intro (fun h => by cases h) (And.intro ?_ rfl)))))) (And.intro (Exists.intro _ (Exists.intro _ (And.intro rfl (And.intro shut (And.intro (fun h => by cases h) (And.intro ?_ rfl)))))) True.intro)))
      | refine gpost_normal (gends (l := [.osl _ _ _ _ _, .err _]) false (.tmp (.tmp .nil)) (fun h => by cases h) (.cons shut (fun h => by cases h) (.cons shut (fun h => by cases h) .nil)) rfl ?_ rfl (And.intro (Exists.intro _ (Exists.intro _ (And.intro rfl (And.intro shut (And.intro (fun h => by cases h) (And.intro ?_ rfl)))))) (And.intro (Exists.intro _ (Exists.intro _ (And.intro rfl (And.intro shut (And.intro (fun h => by cases h) (And.intro ?_ rfl)))))) True.intro)))
    · exact .refl
    · exact .refl
    · exact .refl
theorem co65 : AOwn (V ea cds gl) 65 [] false (.ptr 2 [] 0) [(2, some (.agg [.sl 1 true 0 (fun _ => .top), .err .nil]))] := by
  refine aown_of_body (N := 3) Tryd.func65 rfl rfl (Nat.le_of_ble_eq_true rfl) fun C hV hN hM hO => ?_
  obtain ⟨_, _, w0, G0, σ0, _, own0⟩ := C; dsimp only at hV hN hM hO; subst hV; subst hN; subst hM
  refine awp_seq ?_
  refine awp_region rfl ?_
  first | refine sP (opp_as (v := .ptr _ _ _) rfl rfl) rfl rfl ?_ | refine sP (opp_as (v := .val _) rfl rfl) rfl rfl ?_
  refine awp_seq ?_
  refine awp_region rfl ?_
  refine sP (opp_build rfl z178 bld178 rfl [.sl 1 true 0 (fun _ => .top), .err .nil] rfl) rfl rfl ?_
  refine sR (opr_box (y := .agg _) (n := 2) rfl rfl rfl) rfl rfl rfl ?_
  first | refine sP (opp_as (v := .ptr _ _ _) rfl rfl) rfl rfl ?_ | refine sP (opp_as (v := .val _) rfl rfl) rfl rfl ?_
  refine awp_ret ?_
  repeat (first | refine athen_ret ?_ | refine ain_ret ?_)
  refine opost_ret (oend1 (r0 := .ptr 2 [] 0) (.tmp .nil) (Shut.refl sfr) rfl ?_ (And.intro (Exists.intro _ (Exists.intro _ (And.intro rfl (And.intro shut (And.intro (fun h => by cases h) (And.intro ?_ rfl)))))) True.intro))
  · exact .refl
  · exact .refl
end
end Go.Proofs.YtgaihhimkodmmaaDoor
/- Layer 2: a cursor (walks over this dump). -/
namespace Go.Proofs.YtgaihhimkodmmaaDoor
attribute [local irreducible] Tryd.prog
open Go.Fy
set_option linter.unusedSimpArgs false
set_option linter.unusedVariables false
section
variable {ea : Nat → Addr} {cds : List Nat} {gl : Nat → Option AV}
theorem cg64c (l : List UInt8) (nn : Bool) (a b : Nat) (hab : a ≤ b) (hb : b ≤ 140737488355328) : AGen (V ea cds gl) 64 [.ptr 1 [] 0] [(1, some (.agg [.sl 1 nn l.length (bAt l), .int .i64 (a : Int), .int .i64 (b : Int)]))]
    (.int .i64 ((b - a : Nat) : Int)) [(1, some (.agg [.sl 1 nn l.length (bAt l), .int .i64 (a : Int), .int .i64 (b : Int)]))] := by
  refine agen_of_body (N := 12) Tryd.func64 rfl rfl (Nat.le_of_ble_eq_true rfl) fun C hV hN hM hO => ?_
  obtain ⟨_, _, w0, G0, σ0, _, own0⟩ := C; dsimp only at hV hN hM hO; subst hV; subst hN; subst hM
  refine awp_seq ?_
  refine awp_region rfl ?_
  refine sP (opp_as (v := .int _ _) rfl rfl) rfl rfl ?_
  refine awp_seq ?_
  refine awp_draw hmix rfl (by kernel_rfl) ?_
  first
    | refine dP (fun _ => false) (opp_mv (v := .ptr _ _ _) rfl rfl) rfl rfl ?_
    | refine dP (fun _ => false) (opp_mv (v := .fptr _) rfl rfl) rfl rfl ?_
  first
    | refine dP (fun _ => false) (opp_nilCheckP rfl rfl) rfl rfl ?_
    | refine dP (fun _ => false) (opp_nilCheckF rfl rfl) rfl rfl ?_
  first
    | refine dP (fun _ => false) (opp_fieldP rfl rfl fld174_2 rfl) rfl rfl ?_
    | refine dP (fun _ => false) (opp_fieldF rfl rfl rfl fld174_2 rfl rfl) rfl rfl ?_
  first
    | refine dP (fun n => Nat.beq n 1) (opp_loadP rfl rfl rfl rfl bi rfl ty3) rfl rfl ?_
    | refine dP (fun n => Nat.beq n 1) (opp_loadF rfl rfl ty3) rfl rfl ?_
  first
    | refine dP (fun _ => false) (opp_mv (v := .ptr _ _ _) rfl rfl) rfl rfl ?_
    | refine dP (fun _ => false) (opp_mv (v := .fptr _) rfl rfl) rfl rfl ?_
  first
    | refine dP (fun _ => false) (opp_nilCheckP rfl rfl) rfl rfl ?_
    | refine dP (fun _ => false) (opp_nilCheckF rfl rfl) rfl rfl ?_
  first
    | refine dP (fun _ => false) (opp_fieldP rfl rfl fld174_1 rfl) rfl rfl ?_
    | refine dP (fun _ => false) (opp_fieldF rfl rfl rfl fld174_1 rfl rfl) rfl rfl ?_
  first
    | refine dP (fun n => Nat.beq n 1) (opp_loadP rfl rfl rfl rfl bi rfl ty3) rfl rfl ?_
    | refine dP (fun n => Nat.beq n 1) (opp_loadF rfl rfl ty3) rfl rfl ?_
  first
    | refine dP (fun _ => false) (opp_arith rfl rfl rfl (.inr <| .inl ⟨rfl, w64 (by omega)⟩)) rfl rfl ?_
    | refine dP (fun _ => false) (opp_arith rfl rfl rfl (.inr <| .inl ⟨rfl, rfl⟩)) rfl rfl ?_
  refine dP (fun _ => false) (opp_as (v := .int _ _) rfl rfl) rfl rfl ?_
  refine And.intro (by kernel_rfl) ?_
  refine awp_ret ?_
  repeat (first | refine athen_ret ?_ | refine ain_ret ?_)
  first
    | refine gpost_ret (gend1 (r0 := .int _ _) true (.tmp .nil) shut rfl ?_ rfl (And.intro (Exists.intro _ (Exists.intro _ (And.intro rfl (And.intro shut (And.intro (fun h => by cases h) (And.intro ?_ rfl)))))) True.intro))
    | refine gpost_normal (gend1 (r0 := .int _ _) true (.tmp .nil) shut rfl ?_ rfl (And.intro (Exists.intro _ (Exists.intro _ (And.intro rfl (And.intro shut (And.intro (fun h => by cases h) (And.intro ?_ rfl)))))) True.intro))
    | refine gpost_ret (gend1 (r0 := .int _ _) false (.tmp .nil) shut rfl ?_ rfl (And.intro (Exists.intro _ (Exists.intro _ (And.intro rfl (And.intro shut (And.intro (fun h => by cases h) (And.intro ?_ rfl)))))) True.intro))
    | refine gpost_normal (gend1 (r0 := .int _ _) false (.tmp .nil) shut rfl ?_ rfl (And.intro (Exists.intro _ (Exists.intro _ (And.intro rfl (And.intro shut (And.intro (fun h => by cases h) (And.intro ?_ rfl)))))) True.intro))
  · rw [show ((b - a : Nat) : Int) = (b : Int) - a by omega]; exact .refl
  · exact .refl
theorem or_byte (n : Nat) (c : UInt8) (h : n < 16777216) : IntKind.i64.wrap ((BitVec.ofInt IntKind.i64.bits (IntKind.i64.wrap ((n : Int) * 2 ^ min (Int.toNat 8) IntKind.i64.bits)) ||| BitVec.ofInt IntKind.i64.bits (IntKind.i64.wrap (c.toNat : Int))).toNat : Int) = ((n * 256 + c.toNat : Nat) : Int) := by
  have hc := c.toNat_lt
  have e1 : IntKind.i64.wrap ((n : Int) * 2 ^ min (Int.toNat 8) IntKind.i64.bits) = ((n * 256 : Nat) : Int) := by
    have : (2 : Int) ^ min (Int.toNat 8) IntKind.i64.bits = 256 := by decide
    rw [this, w64 (by omega)]; omega
  have e2 : IntKind.i64.wrap (c.toNat : Int) = (c.toNat : Int) := w64 (by omega)
  have e3 : ∀ k : Nat, k < 18446744073709551616 → (BitVec.ofInt IntKind.i64.bits (k : Int)).toNat = k := fun k hk => by
    show (BitVec.ofInt 64 (k : Int)).toNat = k
    simp; omega
  rw [e1, e2, BitVec.toNat_or, e3 _ (by omega), e3 _ (by omega)]
  have e4 := Nat.two_pow_add_eq_or_of_lt (i := 8) (b := c.toNat) hc n
  rw [show n * 256 = 2 ^ 8 * n by omega, ← e4, w64 (by omega)]
theorem fld_succ (l : List UInt8) (k i : Nat) (h : k + i < l.length) : Sp.fld l k (i + 1) = Sp.fld l k i * 256 + (l.getD (k + i) 0).toNat := by
  unfold Sp.fld
  rw [List.take_add_one, List.getElem?_drop, List.getElem?_eq_getElem h, Option.toList_some, Sp.num_snoc]
  simp [List.getD_eq_getElem?_getD, h]
theorem fld_lt (l : List UInt8) (k i : Nat) : Sp.fld l k i < 256 ^ i := by
  have h := Sp.num_lt ((l.drop k).take i)
  exact Nat.lt_of_lt_of_le h (Nat.pow_le_pow_right (by decide) (by rw [List.length_take]; omega))
theorem cg137c (l : List UInt8) (nn : Bool) (a b off w : Nat) (hl : a + off + w ≤ l.length) (hw : w ≤ 4) (h0 : l.length ≤ 140737488355328) : AGen (V ea cds gl) 137 [.ptr 1 [] 0, .int .i64 (off : Int), .int .i64 (w : Int)] [(1, some (.agg [.sl 1 nn l.length (bAt l), .int .i64 (a : Int), .int .i64 (b : Int)]))]
    (.int .i64 (Sp.fld l (a + off) w : Nat)) [(1, some (.agg [.sl 1 nn l.length (bAt l), .int .i64 (a : Int), .int .i64 (b : Int)]))] := by
  refine agen_of_body (N := 41) Tryd.func137 rfl rfl (Nat.le_of_ble_eq_true rfl) fun C hV hN hM hO => ?_
  obtain ⟨_, _, w0, G0, σ0, _, own0⟩ := C; dsimp only at hV hN hM hO; subst hV; subst hN; subst hM
  refine awp_seq ?_
  refine awp_region rfl ?_
  refine sP (opp_as (v := .int _ _) rfl rfl) rfl rfl ?_
  refine awp_seq ?_
  refine awp_region rfl ?_
  refine sP (opp_as (v := .int _ _) rfl rfl) rfl rfl ?_
  refine awp_seq ?_
  refine awp_seq ?_
  refine awp_draw hmix rfl (by kernel_rfl) ?_
  first
    | refine dP (fun _ => false) (opp_mv (v := .ptr _ _ _) rfl rfl) rfl rfl ?_
    | refine dP (fun _ => false) (opp_mv (v := .fptr _) rfl rfl) rfl rfl ?_
  first
    | refine dP (fun _ => false) (opp_nilCheckP rfl rfl) rfl rfl ?_
    | refine dP (fun _ => false) (opp_nilCheckF rfl rfl) rfl rfl ?_
  first
    | refine dP (fun _ => false) (opp_fieldP rfl rfl fld174_0 rfl) rfl rfl ?_
    | refine dP (fun _ => false) (opp_fieldF rfl rfl rfl fld174_0 rfl rfl) rfl rfl ?_
  first
    | refine dP (fun n => Nat.beq n 1) (opp_loadP rfl rfl rfl rfl bi rfl ty36) rfl rfl ?_
    | refine dP (fun n => Nat.beq n 1) (opp_loadF rfl rfl ty36) rfl rfl ?_
  first
    | refine dP (fun _ => false) (opp_mv (v := .ptr _ _ _) rfl rfl) rfl rfl ?_
    | refine dP (fun _ => false) (opp_mv (v := .fptr _) rfl rfl) rfl rfl ?_
  first
    | refine dP (fun _ => false) (opp_nilCheckP rfl rfl) rfl rfl ?_
    | refine dP (fun _ => false) (opp_nilCheckF rfl rfl) rfl rfl ?_
  first
    | refine dP (fun _ => false) (opp_fieldP rfl rfl fld174_1 rfl) rfl rfl ?_
    | refine dP (fun _ => false) (opp_fieldF rfl rfl rfl fld174_1 rfl rfl) rfl rfl ?_
  first
    | refine dP (fun n => Nat.beq n 1) (opp_loadP rfl rfl rfl rfl bi rfl ty3) rfl rfl ?_
    | refine dP (fun n => Nat.beq n 1) (opp_loadF rfl rfl ty3) rfl rfl ?_
  refine dP (fun _ => false) (opp_mv (v := .int _ _) rfl rfl) rfl rfl ?_
  first
    | refine dP (fun _ => false) (opp_arith rfl rfl rfl (.inl ⟨rfl, w64 (by omega)⟩)) rfl rfl ?_
    | refine dP (fun _ => false) (opp_arith rfl rfl rfl (.inl ⟨rfl, rfl⟩)) rfl rfl ?_
  first
    | refine dP (fun _ => false) (opp_mv (v := .ptr _ _ _) rfl rfl) rfl rfl ?_
    | refine dP (fun _ => false) (opp_mv (v := .fptr _) rfl rfl) rfl rfl ?_
  first
    | refine dP (fun _ => false) (opp_nilCheckP rfl rfl) rfl rfl ?_
    | refine dP (fun _ => false) (opp_nilCheckF rfl rfl) rfl rfl ?_
  first
    | refine dP (fun _ => false) (opp_fieldP rfl rfl fld174_1 rfl) rfl rfl ?_
    | refine dP (fun _ => false) (opp_fieldF rfl rfl rfl fld174_1 rfl rfl) rfl rfl ?_
  first
    | refine dP (fun n => Nat.beq n 1) (opp_loadP rfl rfl rfl rfl bi rfl ty3) rfl rfl ?_
    | refine dP (fun n => Nat.beq n 1) (opp_loadF rfl rfl ty3) rfl rfl ?_
  refine dP (fun _ => false) (opp_mv (v := .int _ _) rfl rfl) rfl rfl ?_
  first
    | refine dP (fun _ => false) (opp_arith rfl rfl rfl (.inl ⟨rfl, w64 (by omega)⟩)) rfl rfl ?_
    | refine dP (fun _ => false) (opp_arith rfl rfl rfl (.inl ⟨rfl, rfl⟩)) rfl rfl ?_
  refine dP (fun _ => false) (opp_mv (v := .int _ _) rfl rfl) rfl rfl ?_
  first
    | refine dP (fun _ => false) (opp_arith rfl rfl rfl (.inl ⟨rfl, w64 (by omega)⟩)) rfl rfl ?_
    | refine dP (fun _ => false) (opp_arith rfl rfl rfl (.inl ⟨rfl, rfl⟩)) rfl rfl ?_
  refine dP (fun n => !([] : List Nat).contains n) (opp_sliceSl rfl rfl rfl rfl el36 (by omega) (by omega) (by omega)) rfl rfl ?_
  first
    | refine dP (fun n => !([] : List Nat).contains n) (opp_lenSl rfl rfl un36) rfl rfl ?_
    | refine dP (fun n => !([] : List Nat).contains n) (opp_lenOsl rfl rfl un36) rfl rfl ?_
  refine dP (fun _ => false) (opp_mv (v := .int _ _) rfl rfl) rfl rfl ?_
  refine And.intro (by kernel_rfl) ?_
  refine awp_block ?_
  refine awp_loopK (ι := Nat) (fun i => i ≤ w) (fun i => [(7, .int .i64 (Sp.fld l (a + off) i : Nat)), (9, .top), (30, .int .i64 (i : Int)), (31, .top), (32, .top), (33, .top), (34, .top), (35, .top), (36, .top), (37, .top), (38, .top), (39, .top)]) (fun i => []) [1] (fun i => w - i) (0) (Nat.zero_le _) (by
    refine imp_over [] rfl rfl (by kernel_rfl) ?_ ?_
    · refine And.intro wkv ?_
      refine And.intro wkv ?_
      refine And.intro wkv ?_
      refine And.intro wkv ?_
      refine And.intro wkv ?_
      refine And.intro wkv ?_
      refine And.intro wkv ?_
      refine And.intro wkv ?_
      refine And.intro wkv ?_
      refine And.intro wkv ?_
      refine And.intro wkv ?_
      refine And.intro wkv ?_
      exact True.intro
    · exact True.intro
    ) ?_
  intro i hi1
  refine awp_seq ?_
  refine awp_region rfl ?_
  refine sP (opp_cmp rfl rfl rfl rfl) rfl rfl ?_
  refine awp_seq ?_
  refine awp_cond _ rfl (fun hc5 => ?_) (fun hc5 => ?_)
  · (try simp only [cmpI, errD_nil, Bool.not_eq_true', Bool.not_eq_false', decide_eq_true_eq, decide_eq_false_iff_not] at hc5); have ht31 := hc5
    refine awp_skip ?_
    refine awp_seq ?_
    refine awp_block ?_
    refine awp_seq ?_
    refine awp_region rfl ?_
    first
      | refine sP (opp_indexSl rfl rfl rfl el36 (by omega) (by omega)) rfl rfl ?_
      | refine sP (opp_indexOsl0 rfl rfl rfl el36 (by omega) (by omega)) rfl rfl ?_
      | refine sP (opp_indexOsl rfl rfl rfl el36 (by omega) (by omega)) rfl rfl ?_
    first
      | refine sP (opp_loadP rfl rfl rfl rfl bi rfl ty5) rfl rfl ?_
      | refine sP (opp_loadF rfl rfl ty5) rfl rfl ?_
    refine sP (opp_as (v := .int _ _) rfl rfl) rfl rfl ?_
    refine awp_region rfl ?_
    refine sP (opp_mv (v := .int _ _) rfl rfl) rfl rfl ?_
    refine sP (opp_shift rfl rfl rfl (by omega) (.inl ⟨rfl, rfl⟩)) rfl rfl ?_
    refine sP (opp_mv (v := .int _ _) rfl rfl) rfl rfl ?_
    first
      | refine sP (opp_convInt rfl rfl un5s un3 (w64 (by omega))) rfl rfl ?_
      | refine sP (opp_convInt rfl rfl un5s un3 rfl) rfl rfl ?_
    refine sP (opp_arith rfl rfl rfl (.inr <| .inr <| .inr <| .inr <| .inr <| .inr <| .inl ⟨rfl, rfl⟩)) rfl rfl ?_
    refine sP (opp_as (v := .int _ _) rfl rfl) rfl rfl ?_
    refine awp_region rfl ?_
    first
      | refine sP (opp_arith rfl rfl rfl (.inl ⟨rfl, w64 (by omega)⟩)) rfl rfl ?_
      | refine sP (opp_arith rfl rfl rfl (.inl ⟨rfl, rfl⟩)) rfl rfl ?_
    refine sP (opp_mv (v := .int _ _) rfl rfl) rfl rfl ?_
    refine Exists.intro (i + 1) (And.intro (And.intro (by omega) (by omega)) (by
      refine imp_over [] rfl rfl (by kernel_rfl) ?_ ?_
      · refine And.intro (by exact Or.inr (And.intro rfl (WkV.of (by show AV.int .i64 _ = AV.int .i64 _; have hf := fld_lt l (a + off) i; have h3 : 256 ^ i ≤ 256 ^ 3 := Nat.pow_le_pow_right (by decide) (by omega); have e := or_byte (Sp.fld l (a + off) i) (l.getD (a + off + i) 0) (by omega); rw [← fld_succ l (a + off) i (by omega)] at e; rw [show ((a : Int) + off).toNat + (i : Int).toNat = a + off + i by omega, e])))) ?_
        refine And.intro wkv ?_
        refine And.intro wkv ?_
        refine And.intro wkv ?_
        refine And.intro wkv ?_
        refine And.intro wkv ?_
        refine And.intro wkv ?_
        refine And.intro wkv ?_
        refine And.intro wkv ?_
        refine And.intro wkv ?_
        refine And.intro wkv ?_
        refine And.intro wkv ?_
        exact True.intro
      · exact True.intro
      ))
  · (try simp only [cmpI, errD_nil, Bool.not_eq_true', Bool.not_eq_false', decide_eq_true_eq, decide_eq_false_iff_not] at hc5); have ht31 := hc5
    refine awp_exit ?_
    refine awp_seq ?_
    refine awp_region rfl ?_
    refine sP (opp_mv (v := .int _ _) rfl rfl) rfl rfl ?_
    refine sP (opp_as (v := .int _ _) rfl rfl) rfl rfl ?_
    refine awp_ret ?_
    repeat (first | refine athen_ret ?_ | refine ain_ret ?_)
    first
      | refine gpost_ret (gend1 (r0 := .int _ _) true (.tmp .nil) shut rfl ?_ rfl (And.intro (Exists.intro _ (Exists.intro _ (And.intro rfl (And.intro shut (And.intro (fun h => by cases h) (And.intro ?_ rfl)))))) True.intro))
      | refine gpost_normal (gend1 (r0 := .int _ _) true (.tmp .nil) shut rfl ?_ rfl (And.intro (Exists.intro _ (Exists.intro _ (And.intro rfl (And.intro shut (And.intro (fun h => by cases h) (And.intro ?_ rfl)))))) True.intro))
      | refine gpost_ret (gend1 (r0 := .int _ _) false (.tmp .nil) shut rfl ?_ rfl (And.intro (Exists.intro _ (Exists.intro _ (And.intro rfl (And.intro shut (And.intro (fun h => by cases h) (And.intro ?_ rfl)))))) True.intro))
      | refine gpost_normal (gend1 (r0 := .int _ _) false (.tmp .nil) shut rfl ?_ rfl (And.intro (Exists.intro _ (Exists.intro _ (And.intro rfl (And.intro shut (And.intro (fun h => by cases h) (And.intro ?_ rfl)))))) True.intro))
    · rw [show i = w by omega]; exact .refl
    · exact .refl
theorem cg111c (l : List UInt8) (nn : Bool) (a b w : Nat) (hw : w = 1 ∨ w = 2 ∨ w = 4) (hb : a + w ≤ b) (hl : b ≤ l.length) (h0 : l.length ≤ 140737488355328) : AGen (V ea cds gl) 111 [.ptr 1 [] 0, .int .i64 (w : Int), .int .i64 0, .int .i64 ((256 ^ w - 1 : Nat) : Int)] [(1, some (.agg [.sl 1 nn l.length (bAt l), .int .i64 (a : Int), .int .i64 (b : Int)]))]
    (.tup [.int .i64 (Sp.fld l a w : Nat), .err .nil]) [(1, some (.agg [.sl 1 nn l.length (bAt l), .int .i64 ((a + w : Nat) : Int), .int .i64 (b : Int)]))] := by
  have hf := fld_lt l a w
  refine agen_of_body (N := 58) Tryd.func111 rfl rfl (Nat.le_of_ble_eq_true rfl) fun C hV hN hM hO => ?_
  obtain ⟨_, _, w0, G0, σ0, _, own0⟩ := C; dsimp only at hV hN hM hO; subst hV; subst hN; subst hM
  refine awp_seq ?_
  refine awp_region rfl ?_
  refine sP (opp_as (v := .int _ _) rfl rfl) rfl rfl ?_
  refine sP (opp_as (v := .err _) rfl rfl) rfl rfl ?_
  refine awp_seq ?_
  refine awp_seq ?_
  refine awp_region rfl ?_
  refine sP (opp_mv (v := .int _ _) rfl rfl) rfl rfl ?_
  refine sP (opp_cmp rfl rfl rfl rfl) rfl rfl ?_
  refine sP (opp_mv (v := .bool _) rfl rfl) rfl rfl ?_
  refine sG _ rfl rfl rfl rfl (fun hg => (And.intro gi (True.intro))) (fun hg => opp_mv (v := .int _ _) rfl rfl) ?_
  refine sG _ rfl rfl rfl rfl (fun hg => (And.intro gi (And.intro gi (True.intro)))) (fun hg => opp_cmp rfl rfl rfl rfl) ?_
  refine sPick rfl rfl rfl rfl (by exact True.intro) rfl rfl (fun hg => gi) (fun hg => gi) ?_
  refine sP (opp_mv (v := .bool _) rfl rfl) rfl rfl ?_
  refine sG _ rfl rfl rfl rfl (fun hg => (And.intro gi (True.intro))) (fun hg => opp_mv (v := .int _ _) rfl rfl) ?_
  refine sG _ rfl rfl rfl rfl (fun hg => (And.intro gi (And.intro gi (True.intro)))) (fun hg => opp_cmp rfl rfl rfl rfl) ?_
  refine sPick rfl rfl rfl rfl (by exact True.intro) rfl rfl (fun hg => gi) (fun hg => gi) ?_
  refine awp_cond _ rfl (fun hc3 => ?_) (fun hc3 => ?_)
  · (try simp only [cmpI, errD_nil, Bool.not_eq_true', Bool.not_eq_false', decide_eq_true_eq, decide_eq_false_iff_not] at hc3); have ht20 := hc3
    exfalso; revert ht20; rcases hw with rfl | rfl | rfl <;> simp [cmpI]
  · (try simp only [cmpI, errD_nil, Bool.not_eq_true', Bool.not_eq_false', decide_eq_true_eq, decide_eq_false_iff_not] at hc3); have ht20 := hc3
    refine awp_skip ?_
    refine awp_seq ?_
    refine awp_seq ?_
    refine awp_region rfl ?_
    first
      | refine sP (opp_mv (v := .ptr _ _ _) rfl rfl) rfl rfl ?_
      | refine sP (opp_mv (v := .fptr _) rfl rfl) rfl rfl ?_
    refine sR (opr_callG (rl := [(1, 1)]) (r1 := .int _ _) (H1 := [(1, some (.agg [.sl _ _ _ _, .int _ _, .int _ _]))]) (n1 := []) rfl rfl ent64 (cg64c l nn a b (by omega) (by omega)) (And.intro (And.intro rfl wka) True.intro) (And.intro (And.intro rfl (Exists.intro _ (And.intro rfl wkc))) True.intro) rfl rfl rfl rfl) rfl rfl rfl ?_
    refine sP (opp_mv (v := .int _ _) rfl rfl) rfl rfl ?_
    refine sP (opp_cmp rfl rfl rfl rfl) rfl rfl ?_
    refine awp_cond _ rfl (fun hc5 => ?_) (fun hc5 => ?_)
    · (try simp only [cmpI, errD_nil, Bool.not_eq_true', Bool.not_eq_false', decide_eq_true_eq, decide_eq_false_iff_not] at hc5); have ht25 := hc5
      exfalso; simp [cmpI] at ht25; omega
    · (try simp only [cmpI, errD_nil, Bool.not_eq_true', Bool.not_eq_false', decide_eq_true_eq, decide_eq_false_iff_not] at hc5); have ht25 := hc5
      refine awp_skip ?_
      refine awp_seq ?_
      refine awp_region rfl ?_
      first
        | refine sP (opp_mv (v := .ptr _ _ _) rfl rfl) rfl rfl ?_
        | refine sP (opp_mv (v := .fptr _) rfl rfl) rfl rfl ?_
      refine sP (opp_mv (v := .int _ _) rfl rfl) rfl rfl ?_
      refine sR (opr_callG (rl := [(1, 1)]) (r1 := .int _ _) (H1 := [(1, some (.agg [.sl _ _ _ _, .int _ _, .int _ _]))]) (n1 := []) rfl rfl ent137 (cg137c l nn a b 0 w (by omega) (by omega) h0) (And.intro (And.intro rfl wka) (And.intro (And.intro rfl wka) (And.intro (And.intro rfl wka) True.intro))) (And.intro (And.intro rfl (Exists.intro _ (And.intro rfl wkc))) True.intro) rfl rfl rfl rfl) rfl rfl rfl ?_
      refine sP (opp_as (v := .int _ _) rfl rfl) rfl rfl ?_
      refine awp_seq ?_
      refine awp_seq ?_
      refine awp_region rfl ?_
      refine sP (opp_mv (v := .int _ _) rfl rfl) rfl rfl ?_
      refine sP (opp_mv (v := .int _ _) rfl rfl) rfl rfl ?_
      refine sP (opp_cmp rfl rfl rfl rfl) rfl rfl ?_
      refine sP (opp_mv (v := .bool _) rfl rfl) rfl rfl ?_
      refine sG _ rfl rfl rfl rfl (fun hg => (And.intro gi (True.intro))) (fun hg => opp_mv (v := .int _ _) rfl rfl) ?_
      refine sG _ rfl rfl rfl rfl (fun hg => (And.intro gi (True.intro))) (fun hg => opp_mv (v := .int _ _) rfl rfl) ?_
      refine sG _ rfl rfl rfl rfl (fun hg => (And.intro gi (And.intro gi (True.intro)))) (fun hg => opp_cmp rfl rfl rfl rfl) ?_
      refine sPick rfl rfl rfl rfl (by exact True.intro) rfl rfl (fun hg => gi) (fun hg => gi) ?_
      refine awp_cond _ rfl (fun hc8 => ?_) (fun hc8 => ?_)
      · (try simp only [cmpI, errD_nil, Bool.not_eq_true', Bool.not_eq_false', decide_eq_true_eq, decide_eq_false_iff_not] at hc8); have ht42 := hc8
        exfalso; simp [cmpI] at ht42; omega
      · (try simp only [cmpI, errD_nil, Bool.not_eq_true', Bool.not_eq_false', decide_eq_true_eq, decide_eq_false_iff_not] at hc8); have ht42 := hc8
        refine awp_skip ?_
        refine awp_seq ?_
        refine awp_region rfl ?_
        first
          | refine sP (opp_mv (v := .ptr _ _ _) rfl rfl) rfl rfl ?_
          | refine sP (opp_mv (v := .fptr _) rfl rfl) rfl rfl ?_
        first
          | refine sP (opp_nilCheckP rfl rfl) rfl rfl ?_
          | refine sP (opp_nilCheckF rfl rfl) rfl rfl ?_
        first
          | refine sP (opp_fieldP rfl rfl fld174_1 rfl) rfl rfl ?_
          | refine sP (opp_fieldF rfl rfl rfl fld174_1 rfl rfl) rfl rfl ?_
        first
          | refine sP (opp_loadP rfl rfl rfl rfl bi rfl ty3) rfl rfl ?_
          | refine sP (opp_loadF rfl rfl ty3) rfl rfl ?_
        refine sP (opp_mv (v := .int _ _) rfl rfl) rfl rfl ?_
        first
          | refine sP (opp_arith rfl rfl rfl (.inl ⟨rfl, w64 (by omega)⟩)) rfl rfl ?_
          | refine sP (opp_arith rfl rfl rfl (.inl ⟨rfl, rfl⟩)) rfl rfl ?_
        first
          | refine sP (opp_nilCheckP rfl rfl) rfl rfl ?_
          | refine sP (opp_nilCheckF rfl rfl) rfl rfl ?_
        first
          | refine sP (opp_fieldP rfl rfl fld174_1 rfl) rfl rfl ?_
          | refine sP (opp_fieldF rfl rfl rfl fld174_1 rfl rfl) rfl rfl ?_
        refine sR0 (opr_store (v := .int _ _) (trn := (.agg [_, .int _ _, _])) rfl rfl rfl rfl bi rfl rfl rfl rfl fr2 ty3 (fun _ _ h => h)) rfl rfl rfl ?_
        refine awp_seq ?_
        refine awp_region rfl ?_
        refine sP (opp_mv (v := .int _ _) rfl rfl) rfl rfl ?_
        refine sP (opp_as (v := .int _ _) rfl rfl) rfl rfl ?_
        refine sP (opp_as (v := .err _) rfl rfl) rfl rfl ?_
        refine awp_ret ?_
        repeat (first | refine athen_ret ?_ | refine ain_ret ?_)
        first
          | refine gpost_ret (gends (l := [.int _ _, .err _]) true (.tmp (.tmp .nil)) (fun h => by cases h) (.cons shut (fun h => by cases h) (.cons shut (fun h => by cases h) .nil)) rfl ?_ rfl (And.intro (Exists.intro _ (Exists.intro _ (And.intro rfl (And.intro shut (And.intro (fun h => by cases h) (And.intro ?_ rfl)))))) True.intro))
          | refine gpost_normal (gends (l := [.int _ _, .err _]) true (.tmp (.tmp .nil)) (fun h => by cases h) (.cons shut (fun h => by cases h) (.cons shut (fun h => by cases h) .nil)) rfl ?_ rfl (And.intro (Exists.intro _ (Exists.intro _ (And.intro rfl (And.intro shut (And.intro (fun h => by cases h) (And.intro ?_ rfl)))))) True.intro))
          | refine gpost_ret (gends (l := [.int _ _, .err _]) false (.tmp (.tmp .nil)) (fun h => by cases h) (.cons shut (fun h => by cases h) (.cons shut (fun h => by cases h) .nil)) rfl ?_ rfl (And.intro (Exists.intro _ (Exists.intro _ (And.intro rfl (And.intro shut (And.intro (fun h => by cases h) (And.intro ?_ rfl)))))) True.intro))
          | refine gpost_normal (gends (l := [.int _ _, .err _]) false (.tmp (.tmp .nil)) (fun h => by cases h) (.cons shut (fun h => by cases h) (.cons shut (fun h => by cases h) .nil)) rfl ?_ rfl (And.intro (Exists.intro _ (Exists.intro _ (And.intro rfl (And.intro shut (And.intro (fun h => by cases h) (And.intro ?_ rfl)))))) True.intro))
        · exact .refl
        · rw [show ((a + w : Nat) : Int) = (a : Int) + w by omega]; exact .refl
theorem cg61c (l : List UInt8) (nn : Bool) (a b : Nat) (hb : a + 1 ≤ b) (hl : b ≤ l.length) (h0 : l.length ≤ 140737488355328) : AGen (V ea cds gl) 61 [.ptr 1 [] 0] [(1, some (.agg [.sl 1 nn l.length (bAt l), .int .i64 (a : Int), .int .i64 (b : Int)]))]
    (.tup [.int .i64 (Sp.fld l a 1 : Nat), .err .nil]) [(1, some (.agg [.sl 1 nn l.length (bAt l), .int .i64 ((a + 1 : Nat) : Int), .int .i64 (b : Int)]))] := by
  refine agen_of_body (N := 9) Tryd.func61 rfl rfl (Nat.le_of_ble_eq_true rfl) fun C hV hN hM hO => ?_
  obtain ⟨_, _, w0, G0, σ0, _, own0⟩ := C; dsimp only at hV hN hM hO; subst hV; subst hN; subst hM
  refine awp_seq ?_
  refine awp_region rfl ?_
  refine sP (opp_as (v := .int _ _) rfl rfl) rfl rfl ?_
  refine sP (opp_as (v := .err _) rfl rfl) rfl rfl ?_
  refine awp_seq ?_
  refine awp_region rfl ?_
  first
    | refine sP (opp_mv (v := .ptr _ _ _) rfl rfl) rfl rfl ?_
    | refine sP (opp_mv (v := .fptr _) rfl rfl) rfl rfl ?_
  refine sR (opr_call rfl rfl ent112 rfl (c112 1 (by simp)) (AViews.refl _ rfl)) rfl rfl rfl ?_ -- d=5 t=3
  refine sR (opr_callG (rl := [(1, 1)]) (r1 := .tup [.int _ _, .err _]) (H1 := [(1, some (.agg [.sl _ _ _ _, .int _ _, .int _ _]))]) (n1 := []) rfl rfl ent111 (cg111c l nn a b 1 (by simp) hb hl h0) (And.intro (And.intro rfl wka) (And.intro (And.intro rfl wka) (And.intro (And.intro rfl wka) (And.intro (And.intro rfl wka) True.intro)))) (And.intro (And.intro rfl (Exists.intro _ (And.intro rfl wkc))) True.intro) rfl rfl rfl rfl) rfl rfl rfl ?_
  refine sP (opp_extract rfl rfl rfl) rfl rfl ?_
  refine sP (opp_extract rfl rfl rfl) rfl rfl ?_
  refine sP (opp_as (v := .int _ _) rfl rfl) rfl rfl ?_
  refine sP (opp_as (v := .err _) rfl rfl) rfl rfl ?_
  refine awp_ret ?_
  repeat (first | refine athen_ret ?_ | refine ain_ret ?_)
  first
    | refine gpost_ret (gends (l := [.int _ _, .err _]) true (.tmp (.tmp .nil)) (fun h => by cases h) (.cons shut (fun h => by cases h) (.cons shut (fun h => by cases h) .nil)) rfl ?_ rfl (And.intro (Exists.intro _ (Exists.intro _ (And.intro rfl (And.intro shut (And.intro (fun h => by cases h) (And.intro ?_ rfl)))))) True.intro))
    | refine gpost_normal (gends (l := [.int _ _, .err _]) true (.tmp (.tmp .nil)) (fun h => by cases h) (.cons shut (fun h => by cases h) (.cons shut (fun h => by cases h) .nil)) rfl ?_ rfl (And.intro (Exists.intro _ (Exists.intro _ (And.intro rfl (And.intro shut (And.intro (fun h => by cases h) (And.intro ?_ rfl)))))) True.intro))
    | refine gpost_ret (gends (l := [.int _ _, .err _]) false (.tmp (.tmp .nil)) (fun h => by cases h) (.cons shut (fun h => by cases h) (.cons shut (fun h => by cases h) .nil)) rfl ?_ rfl (And.intro (Exists.intro _ (Exists.intro _ (And.intro rfl (And.intro shut (And.intro (fun h => by cases h) (And.intro ?_ rfl)))))) True.intro))
    | refine gpost_normal (gends (l := [.int _ _, .err _]) false (.tmp (.tmp .nil)) (fun h => by cases h) (.cons shut (fun h => by cases h) (.cons shut (fun h => by cases h) .nil)) rfl ?_ rfl (And.intro (Exists.intro _ (Exists.intro _ (And.intro rfl (And.intro shut (And.intro (fun h => by cases h) (And.intro ?_ rfl)))))) True.intro))
  · exact .refl
  · exact .refl
theorem cg60c (l : List UInt8) (nn : Bool) (a b : Nat) (hb : a + 2 ≤ b) (hl : b ≤ l.length) (h0 : l.length ≤ 140737488355328) : AGen (V ea cds gl) 60 [.ptr 1 [] 0] [(1, some (.agg [.sl 1 nn l.length (bAt l), .int .i64 (a : Int), .int .i64 (b : Int)]))]
    (.tup [.int .i64 (Sp.fld l a 2 : Nat), .err .nil]) [(1, some (.agg [.sl 1 nn l.length (bAt l), .int .i64 ((a + 2 : Nat) : Int), .int .i64 (b : Int)]))] := by
  refine agen_of_body (N := 9) Tryd.func60 rfl rfl (Nat.le_of_ble_eq_true rfl) fun C hV hN hM hO => ?_
  obtain ⟨_, _, w0, G0, σ0, _, own0⟩ := C; dsimp only at hV hN hM hO; subst hV; subst hN; subst hM
  refine awp_seq ?_
  refine awp_region rfl ?_
  refine sP (opp_as (v := .int _ _) rfl rfl) rfl rfl ?_
  refine sP (opp_as (v := .err _) rfl rfl) rfl rfl ?_
  refine awp_seq ?_
  refine awp_region rfl ?_
  first
    | refine sP (opp_mv (v := .ptr _ _ _) rfl rfl) rfl rfl ?_
    | refine sP (opp_mv (v := .fptr _) rfl rfl) rfl rfl ?_
  refine sR (opr_call rfl rfl ent112 rfl (c112 2 (by simp)) (AViews.refl _ rfl)) rfl rfl rfl ?_ -- d=5 t=3
  refine sR (opr_callG (rl := [(1, 1)]) (r1 := .tup [.int _ _, .err _]) (H1 := [(1, some (.agg [.sl _ _ _ _, .int _ _, .int _ _]))]) (n1 := []) rfl rfl ent111 (cg111c l nn a b 2 (by simp) hb hl h0) (And.intro (And.intro rfl wka) (And.intro (And.intro rfl wka) (And.intro (And.intro rfl wka) (And.intro (And.intro rfl wka) True.intro)))) (And.intro (And.intro rfl (Exists.intro _ (And.intro rfl wkc))) True.intro) rfl rfl rfl rfl) rfl rfl rfl ?_
  refine sP (opp_extract rfl rfl rfl) rfl rfl ?_
  refine sP (opp_extract rfl rfl rfl) rfl rfl ?_
  refine sP (opp_as (v := .int _ _) rfl rfl) rfl rfl ?_
  refine sP (opp_as (v := .err _) rfl rfl) rfl rfl ?_
  refine awp_ret ?_
  repeat (first | refine athen_ret ?_ | refine ain_ret ?_)
  first
    | refine gpost_ret (gends (l := [.int _ _, .err _]) true (.tmp (.tmp .nil)) (fun h => by cases h) (.cons shut (fun h => by cases h) (.cons shut (fun h => by cases h) .nil)) rfl ?_ rfl (And.intro (Exists.intro _ (Exists.intro _ (And.intro rfl (And.intro shut (And.intro (fun h => by cases h) (And.intro ?_ rfl)))))) True.intro))
    | refine gpost_normal (gends (l := [.int _ _, .err _]) true (.tmp (.tmp .nil)) (fun h => by cases h) (.cons shut (fun h => by cases h) (.cons shut (fun h => by cases h) .nil)) rfl ?_ rfl (And.intro (Exists.intro _ (Exists.intro _ (And.intro rfl (And.intro shut (And.intro (fun h => by cases h) (And.intro ?_ rfl)))))) True.intro))
    | refine gpost_ret (gends (l := [.int _ _, .err _]) false (.tmp (.tmp .nil)) (fun h => by cases h) (.cons shut (fun h => by cases h) (.cons shut (fun h => by cases h) .nil)) rfl ?_ rfl (And.intro (Exists.intro _ (Exists.intro _ (And.intro rfl (And.intro shut (And.intro (fun h => by cases h) (And.intro ?_ rfl)))))) True.intro))
    | refine gpost_normal (gends (l := [.int _ _, .err _]) false (.tmp (.tmp .nil)) (fun h => by cases h) (.cons shut (fun h => by cases h) (.cons shut (fun h => by cases h) .nil)) rfl ?_ rfl (And.intro (Exists.intro _ (Exists.intro _ (And.intro rfl (And.intro shut (And.intro (fun h => by cases h) (And.intro ?_ rfl)))))) True.intro))
  · exact .refl
  · exact .refl
theorem cg62c (l : List UInt8) (nn : Bool) (a b : Nat) (hb : a + 4 ≤ b) (hl : b ≤ l.length) (h0 : l.length ≤ 140737488355328) : AGen (V ea cds gl) 62 [.ptr 1 [] 0] [(1, some (.agg [.sl 1 nn l.length (bAt l), .int .i64 (a : Int), .int .i64 (b : Int)]))]
    (.tup [.int .i64 (Sp.fld l a 4 : Nat), .err .nil]) [(1, some (.agg [.sl 1 nn l.length (bAt l), .int .i64 ((a + 4 : Nat) : Int), .int .i64 (b : Int)]))] := by
  refine agen_of_body (N := 9) Tryd.func62 rfl rfl (Nat.le_of_ble_eq_true rfl) fun C hV hN hM hO => ?_
  obtain ⟨_, _, w0, G0, σ0, _, own0⟩ := C; dsimp only at hV hN hM hO; subst hV; subst hN; subst hM
  refine awp_seq ?_
  refine awp_region rfl ?_
  refine sP (opp_as (v := .int _ _) rfl rfl) rfl rfl ?_
  refine sP (opp_as (v := .err _) rfl rfl) rfl rfl ?_
  refine awp_seq ?_
  refine awp_region rfl ?_
  first
    | refine sP (opp_mv (v := .ptr _ _ _) rfl rfl) rfl rfl ?_
    | refine sP (opp_mv (v := .fptr _) rfl rfl) rfl rfl ?_
  refine sR (opr_call rfl rfl ent112 rfl (c112 4 (by simp)) (AViews.refl _ rfl)) rfl rfl rfl ?_ -- d=5 t=3
  refine sR (opr_callG (rl := [(1, 1)]) (r1 := .tup [.int _ _, .err _]) (H1 := [(1, some (.agg [.sl _ _ _ _, .int _ _, .int _ _]))]) (n1 := []) rfl rfl ent111 (cg111c l nn a b 4 (by simp) hb hl h0) (And.intro (And.intro rfl wka) (And.intro (And.intro rfl wka) (And.intro (And.intro rfl wka) (And.intro (And.intro rfl wka) True.intro)))) (And.intro (And.intro rfl (Exists.intro _ (And.intro rfl wkc))) True.intro) rfl rfl rfl rfl) rfl rfl rfl ?_
  refine sP (opp_extract rfl rfl rfl) rfl rfl ?_
  refine sP (opp_extract rfl rfl rfl) rfl rfl ?_
  refine sP (opp_as (v := .int _ _) rfl rfl) rfl rfl ?_
  refine sP (opp_as (v := .err _) rfl rfl) rfl rfl ?_
  refine awp_ret ?_
  repeat (first | refine athen_ret ?_ | refine ain_ret ?_)
  first
    | refine gpost_ret (gends (l := [.int _ _, .err _]) true (.tmp (.tmp .nil)) (fun h => by cases h) (.cons shut (fun h => by cases h) (.cons shut (fun h => by cases h) .nil)) rfl ?_ rfl (And.intro (Exists.intro _ (Exists.intro _ (And.intro rfl (And.intro shut (And.intro (fun h => by cases h) (And.intro ?_ rfl)))))) True.intro))
    | refine gpost_normal (gends (l := [.int _ _, .err _]) true (.tmp (.tmp .nil)) (fun h => by cases h) (.cons shut (fun h => by cases h) (.cons shut (fun h => by cases h) .nil)) rfl ?_ rfl (And.intro (Exists.intro _ (Exists.intro _ (And.intro rfl (And.intro shut (And.intro (fun h => by cases h) (And.intro ?_ rfl)))))) True.intro))
    | refine gpost_ret (gends (l := [.int _ _, .err _]) false (.tmp (.tmp .nil)) (fun h => by cases h) (.cons shut (fun h => by cases h) (.cons shut (fun h => by cases h) .nil)) rfl ?_ rfl (And.intro (Exists.intro _ (Exists.intro _ (And.intro rfl (And.intro shut (And.intro (fun h => by cases h) (And.intro ?_ rfl)))))) True.intro))
    | refine gpost_normal (gends (l := [.int _ _, .err _]) false (.tmp (.tmp .nil)) (fun h => by cases h) (.cons shut (fun h => by cases h) (.cons shut (fun h => by cases h) .nil)) rfl ?_ rfl (And.intro (Exists.intro _ (Exists.intro _ (And.intro rfl (And.intro shut (And.intro (fun h => by cases h) (And.intro ?_ rfl)))))) True.intro))
  · exact .refl
  · exact .refl
theorem cg63c (l : List UInt8) (a b n : Nat) (hb : a + n ≤ b) (hl : b ≤ l.length) (h0 : l.length ≤ 140737488355328) : AGen (V ea cds gl) 63 [.ptr 1 [] 0, .int .i64 (n : Int)] [(1, some (.agg [.sl 1 false l.length (bAt l), .int .i64 (a : Int), .int .i64 (b : Int)]))]
    (.tup [.sl 1 false ((l.drop a).take n).length (bAt ((l.drop a).take n)), .err .nil]) [(1, some (.agg [.sl 1 false l.length (bAt l), .int .i64 ((a + n : Nat) : Int), .int .i64 (b : Int)]))] := by
  refine agen_of_body (N := 45) Tryd.func63 rfl rfl (Nat.le_of_ble_eq_true rfl) fun C hV hN hM hO => ?_
  obtain ⟨_, _, w0, G0, σ0, _, own0⟩ := C; dsimp only at hV hN hM hO; subst hV; subst hN; subst hM
  refine awp_seq ?_
  refine awp_region rfl ?_
  first
    | refine sP (opp_as (v := .sl _ _ _ _) rfl rfl) rfl rfl ?_
    | refine sP (opp_as (v := .osl _ _ _ _ _) rfl rfl) rfl rfl ?_
  refine sP (opp_as (v := .err _) rfl rfl) rfl rfl ?_
  refine awp_seq ?_
  refine awp_seq ?_
  refine awp_region rfl ?_
  refine sP (opp_mv (v := .int _ _) rfl rfl) rfl rfl ?_
  refine sP (opp_cmp rfl rfl rfl rfl) rfl rfl ?_
  refine awp_cond _ rfl (fun hc3 => ?_) (fun hc3 => ?_)
  · (try simp only [cmpI, errD_nil, Bool.not_eq_true', Bool.not_eq_false', decide_eq_true_eq, decide_eq_false_iff_not] at hc3); have ht8 := hc3
    exfalso; omega
  · (try simp only [cmpI, errD_nil, Bool.not_eq_true', Bool.not_eq_false', decide_eq_true_eq, decide_eq_false_iff_not] at hc3); have ht8 := hc3
    refine awp_skip ?_
    refine awp_seq ?_
    refine awp_seq ?_
    refine awp_region rfl ?_
    first
      | refine sP (opp_mv (v := .ptr _ _ _) rfl rfl) rfl rfl ?_
      | refine sP (opp_mv (v := .fptr _) rfl rfl) rfl rfl ?_
    refine sR (opr_callG (rl := [(1, 1)]) (r1 := .int _ _) (H1 := [(1, some (.agg [.sl _ _ _ _, .int _ _, .int _ _]))]) (n1 := []) rfl rfl ent64 (cg64c l false a b (by omega) (by omega)) (And.intro (And.intro rfl wka) True.intro) (And.intro (And.intro rfl (Exists.intro _ (And.intro rfl wkc))) True.intro) rfl rfl rfl rfl) rfl rfl rfl ?_
    refine sP (opp_mv (v := .int _ _) rfl rfl) rfl rfl ?_
    refine sP (opp_cmp rfl rfl rfl rfl) rfl rfl ?_
    refine awp_cond _ rfl (fun hc5 => ?_) (fun hc5 => ?_)
    · (try simp only [cmpI, errD_nil, Bool.not_eq_true', Bool.not_eq_false', decide_eq_true_eq, decide_eq_false_iff_not] at hc5); have ht13 := hc5
      exfalso; simp [cmpI] at ht13; omega
    · (try simp only [cmpI, errD_nil, Bool.not_eq_true', Bool.not_eq_false', decide_eq_true_eq, decide_eq_false_iff_not] at hc5); have ht13 := hc5
      refine awp_skip ?_
      refine awp_seq ?_
      refine awp_draw hmix rfl (by kernel_rfl) ?_
      first
        | refine dP (fun _ => false) (opp_mv (v := .ptr _ _ _) rfl rfl) rfl rfl ?_
        | refine dP (fun _ => false) (opp_mv (v := .fptr _) rfl rfl) rfl rfl ?_
      first
        | refine dP (fun _ => false) (opp_nilCheckP rfl rfl) rfl rfl ?_
        | refine dP (fun _ => false) (opp_nilCheckF rfl rfl) rfl rfl ?_
      first
        | refine dP (fun _ => false) (opp_fieldP rfl rfl fld174_0 rfl) rfl rfl ?_
        | refine dP (fun _ => false) (opp_fieldF rfl rfl rfl fld174_0 rfl rfl) rfl rfl ?_
      first
        | refine dP (fun n => Nat.beq n 1) (opp_loadP rfl rfl rfl rfl bi rfl ty36) rfl rfl ?_
        | refine dP (fun n => Nat.beq n 1) (opp_loadF rfl rfl ty36) rfl rfl ?_
      first
        | refine dP (fun _ => false) (opp_mv (v := .ptr _ _ _) rfl rfl) rfl rfl ?_
        | refine dP (fun _ => false) (opp_mv (v := .fptr _) rfl rfl) rfl rfl ?_
      first
        | refine dP (fun _ => false) (opp_nilCheckP rfl rfl) rfl rfl ?_
        | refine dP (fun _ => false) (opp_nilCheckF rfl rfl) rfl rfl ?_
      first
        | refine dP (fun _ => false) (opp_fieldP rfl rfl fld174_1 rfl) rfl rfl ?_
        | refine dP (fun _ => false) (opp_fieldF rfl rfl rfl fld174_1 rfl rfl) rfl rfl ?_
      first
        | refine dP (fun n => Nat.beq n 1) (opp_loadP rfl rfl rfl rfl bi rfl ty3) rfl rfl ?_
        | refine dP (fun n => Nat.beq n 1) (opp_loadF rfl rfl ty3) rfl rfl ?_
      first
        | refine dP (fun _ => false) (opp_mv (v := .ptr _ _ _) rfl rfl) rfl rfl ?_
        | refine dP (fun _ => false) (opp_mv (v := .fptr _) rfl rfl) rfl rfl ?_
      first
        | refine dP (fun _ => false) (opp_nilCheckP rfl rfl) rfl rfl ?_
        | refine dP (fun _ => false) (opp_nilCheckF rfl rfl) rfl rfl ?_
      first
        | refine dP (fun _ => false) (opp_fieldP rfl rfl fld174_1 rfl) rfl rfl ?_
        | refine dP (fun _ => false) (opp_fieldF rfl rfl rfl fld174_1 rfl rfl) rfl rfl ?_
      first
        | refine dP (fun n => Nat.beq n 1) (opp_loadP rfl rfl rfl rfl bi rfl ty3) rfl rfl ?_
        | refine dP (fun n => Nat.beq n 1) (opp_loadF rfl rfl ty3) rfl rfl ?_
      refine dP (fun _ => false) (opp_mv (v := .int _ _) rfl rfl) rfl rfl ?_
      first
        | refine dP (fun _ => false) (opp_arith rfl rfl rfl (.inl ⟨rfl, w64 (by omega)⟩)) rfl rfl ?_
        | refine dP (fun _ => false) (opp_arith rfl rfl rfl (.inl ⟨rfl, rfl⟩)) rfl rfl ?_
      refine dP (fun n => !([] : List Nat).contains n) (opp_sliceSl rfl rfl rfl rfl el36 (by omega) (by omega) (by omega)) rfl rfl ?_
      refine dR (fun _ => false) (opr_call rfl rfl ent110 rfl (c110 false ((l.drop a).take n).length (bAt ((l.drop a).take n)) (fun h => by cases h) (by rw [List.length_take]; omega)) (.cons (aview_wk rfl (wk_slx (by rw [List.length_take, List.length_drop]; omega) (fun j hj => by rw [bAt_take _ _ _ (by omega), bAt_drop]; congr 1))) .nil)) rfl rfl rfl ?_ -- d=35 t=36
      first
        | refine dP (fun _ => false) (opp_as (v := .sl _ _ _ _) rfl rfl) rfl rfl ?_
        | refine dP (fun _ => false) (opp_as (v := .osl _ _ _ _ _) rfl rfl) rfl rfl ?_
      refine And.intro (by kernel_rfl) ?_
      refine awp_seq ?_
      refine awp_region rfl ?_
      first
        | refine sP (opp_mv (v := .ptr _ _ _) rfl rfl) rfl rfl ?_
        | refine sP (opp_mv (v := .fptr _) rfl rfl) rfl rfl ?_
      first
        | refine sP (opp_nilCheckP rfl rfl) rfl rfl ?_
        | refine sP (opp_nilCheckF rfl rfl) rfl rfl ?_
      first
        | refine sP (opp_fieldP rfl rfl fld174_1 rfl) rfl rfl ?_
        | refine sP (opp_fieldF rfl rfl rfl fld174_1 rfl rfl) rfl rfl ?_
      first
        | refine sP (opp_loadP rfl rfl rfl rfl bi rfl ty3) rfl rfl ?_
        | refine sP (opp_loadF rfl rfl ty3) rfl rfl ?_
      refine sP (opp_mv (v := .int _ _) rfl rfl) rfl rfl ?_
      first
        | refine sP (opp_arith rfl rfl rfl (.inl ⟨rfl, w64 (by omega)⟩)) rfl rfl ?_
        | refine sP (opp_arith rfl rfl rfl (.inl ⟨rfl, rfl⟩)) rfl rfl ?_
      first
        | refine sP (opp_nilCheckP rfl rfl) rfl rfl ?_
        | refine sP (opp_nilCheckF rfl rfl) rfl rfl ?_
      first
        | refine sP (opp_fieldP rfl rfl fld174_1 rfl) rfl rfl ?_
        | refine sP (opp_fieldF rfl rfl rfl fld174_1 rfl rfl) rfl rfl ?_
      refine sR0 (opr_store (v := .int _ _) (trn := (.agg [_, .int _ _, _])) rfl rfl rfl rfl bi rfl rfl rfl rfl fr2 ty3 (fun _ _ h => h)) rfl rfl rfl ?_
      refine awp_seq ?_
      refine awp_region rfl ?_
      first
        | refine sP (opp_mv (v := .sl _ _ _ _) rfl rfl) rfl rfl ?_
        | refine sP (opp_mv (v := .osl _ _ _ _ _) rfl rfl) rfl rfl ?_
      first
        | refine sP (opp_as (v := .sl _ _ _ _) rfl rfl) rfl rfl ?_
        | refine sP (opp_as (v := .osl _ _ _ _ _) rfl rfl) rfl rfl ?_
      refine sP (opp_as (v := .err _) rfl rfl) rfl rfl ?_
      refine awp_ret ?_
      repeat (first | refine athen_ret ?_ | refine ain_ret ?_)
      first
        | refine gpost_ret (gends (l := [.sl _ _ _ _, .err _]) true (.tmp (.tmp .nil)) (fun h => by cases h) (.cons shut (fun h => by cases h) (.cons shut (fun h => by cases h) .nil)) rfl ?_ rfl (And.intro (Exists.intro _ (Exists.intro _ (And.intro rfl (And.intro shut (And.intro (fun h => by cases h) (And.intro ?_ rfl)))))) True.intro))
        | refine gpost_normal (gends (l := [.sl _ _ _ _, .err _]) true (.tmp (.tmp .nil)) (fun h => by cases h) (.cons shut (fun h => by cases h) (.cons shut (fun h => by cases h) .nil)) rfl ?_ rfl (And.intro (Exists.intro _ (Exists.intro _ (And.intro rfl (And.intro shut (And.intro (fun h => by cases h) (And.intro ?_ rfl)))))) True.intro))
        | refine gpost_ret (gends (l := [.sl _ _ _ _, .err _]) false (.tmp (.tmp .nil)) (fun h => by cases h) (.cons shut (fun h => by cases h) (.cons shut (fun h => by cases h) .nil)) rfl ?_ rfl (And.intro (Exists.intro _ (Exists.intro _ (And.intro rfl (And.intro shut (And.intro (fun h => by cases h) (And.intro ?_ rfl)))))) True.intro))
        | refine gpost_normal (gends (l := [.sl _ _ _ _, .err _]) false (.tmp (.tmp .nil)) (fun h => by cases h) (.cons shut (fun h => by cases h) (.cons shut (fun h => by cases h) .nil)) rfl ?_ rfl (And.intro (Exists.intro _ (Exists.intro _ (And.intro rfl (And.intro shut (And.intro (fun h => by cases h) (And.intro ?_ rfl)))))) True.intro))
        | refine gpost_ret (gends (l := [.osl _ _ _ _ _, .err _]) true (.tmp (.tmp .nil)) (fun h => by cases h) (.cons shut (fun h => by cases h) (.cons shut (fun h => by cases h) .nil)) rfl ?_ rfl (And.intro (Exists.intro _ (Exists.intro _ (And.intro rfl (And.intro shut (And.intro (fun h => by cases h) (And.intro ?_ rfl)))))) True.intro))
        | refine gpost_normal (gends (l := [.osl _ _ _ _ _, .err _]) true (.tmp (.tmp .nil)) (fun h => by cases h) (.cons shut (fun h => by cases h) (.cons shut (fun h => by cases h) .nil)) rfl ?_ rfl (And.intro (Exists.intro _ (Exists.intro _ (And.intro rfl (And.intro shut (And.intro (fun h => by cases h) (And.intro ?_ rfl)))))) True.intro))
        | refine gpost_ret (gends (l := [.osl _ _ _ _ _, .err _]) false (.tmp (.tmp .nil)) (fun h => by cases h) (.cons shut (fun h => by cases h) (.cons shut (fun h => by cases h) .nil)) rfl ?_ rfl (And.intro (Exists.intro _ (Exists.intro _ (And.intro rfl (And.intro shut (And.intro (fun h => by cases h) (And.intro ?_ rfl)))))) True.intro))
        | refine gpost_normal (gends (l := [.osl _ _ _ _ _, .err _]) false (.tmp (.tmp .nil)) (fun h => by cases h) (.cons shut (fun h => by cases h) (.cons shut (fun h => by cases h) .nil)) rfl ?_ rfl (And.intro (Exists.intro _ (Exists.intro _ (And.intro rfl (And.intro shut (And.intro (fun h => by cases h) (And.intro ?_ rfl)))))) True.intro))
      · exact .refl
      · rw [show ((a + n : Nat) : Int) = (a : Int) + n by omega]; exact .refl
theorem co59 (l : List UInt8) (h0 : l.length ≤ 140737488355328) : AOwn (V ea cds gl) 59 [.sl 1 false l.length (bAt l)] false (.ptr 8 [] 0) [(8, some (.agg [.sl 1 false l.length (bAt l), .int .i64 0, .int .i64 (l.length : Int)]))] := by
  refine aown_of_body (N := 9) Tryd.func59 rfl rfl (Nat.le_of_ble_eq_true rfl) fun C hV hN hM hO => ?_
  obtain ⟨_, _, w0, G0, σ0, _, own0⟩ := C; dsimp only at hV hN hM hO; subst hV; subst hN; subst hM
  refine awp_seq ?_
  refine awp_region rfl ?_
  first | refine sP (opp_as (v := .ptr _ _ _) rfl rfl) rfl rfl ?_ | refine sP (opp_as (v := .val _) rfl rfl) rfl rfl ?_
  refine awp_seq ?_
  refine awp_region rfl ?_
  first
    | refine sP (opp_mv (v := .sl _ _ _ _) rfl rfl) rfl rfl ?_
    | refine sP (opp_mv (v := .osl _ _ _ _ _) rfl rfl) rfl rfl ?_
  refine sR (opr_call rfl rfl ent110 rfl (c110 false l.length (bAt l) (fun h => by cases h) (by omega)) (AViews.refl _ rfl)) rfl rfl rfl ?_ -- d=4 t=36
  first
    | refine sP (opp_mv (v := .sl _ _ _ _) rfl rfl) rfl rfl ?_
    | refine sP (opp_mv (v := .osl _ _ _ _ _) rfl rfl) rfl rfl ?_
  first
    | refine sP (opp_lenSl rfl rfl un36) rfl rfl ?_
    | refine sP (opp_lenOsl rfl rfl un36) rfl rfl ?_
  first
    | refine sP (opp_build rfl z174 bld174 rfl [.sl _ _ _ _, .int .i64 0, .int _ _] rfl) rfl rfl ?_
    | refine sP (opp_build rfl z174 bld174 rfl [.osl _ _ _ _ _, .int .i64 0, .int _ _] rfl) rfl rfl ?_
  refine sR (opr_box (y := .agg _) (n := 8) rfl rfl rfl) rfl rfl rfl ?_
  first | refine sP (opp_as (v := .ptr _ _ _) rfl rfl) rfl rfl ?_ | refine sP (opp_as (v := .val _) rfl rfl) rfl rfl ?_
  refine awp_ret ?_
  repeat (first | refine athen_ret ?_ | refine ain_ret ?_)
  refine opost_ret (oend1 (r0 := .ptr 8 [] 0) (.tmp .nil) (Shut.refl sfr) rfl ?_ (And.intro (Exists.intro _ (Exists.intro _ (And.intro rfl (And.intro shut (And.intro (fun h => by cases h) (And.intro ?_ rfl)))))) True.intro))
  · exact .refl
  · exact .refl
end
end Go.Proofs.YtgaihhimkodmmaaDoor
/- Layer 20: a note's bytes (walks over this dump). -/
namespace Go.Proofs.YtgaihhimkodmmaaDoor
attribute [local irreducible] Tryd.prog
open Go.Fy
set_option linter.unusedSimpArgs false
set_option linter.unusedVariables false
section
variable {ea : Nat → Addr} {cds : List Nat} {gl : Nat → Option AV}
theorem cbad15 (n : Note) (hc : Sp.check n ≠ 0) (hG4 : gl 4 = some (.err (.code 7))) (hG8 : gl 8 = some (.err (.code 4))) : APure (V ea cds gl) 15 [noteAV n] false (.tup [.str [], .err (errD (Sp.check n))]) := by
  refine acalls_of_body (N := 88) Tryd.func15 rfl rfl (Nat.le_of_ble_eq_true rfl) fun C hV hN hM hO => ?_
  obtain ⟨_, _, w0, G0, σ0, _, own0⟩ := C; dsimp only at hV hN hM hO; subst hV; subst hN; subst hM
  refine awp_seq ?_
  refine awp_region rfl ?_
  refine sR (opr_box (y := .agg _) (n := 1) rfl rfl rfl) rfl rfl rfl ?_
  refine sP (opp_as (v := .str _) rfl rfl) rfl rfl ?_
  refine sP (opp_as (v := .err _) rfl rfl) rfl rfl ?_
  refine awp_seq ?_
  refine awp_seq ?_
  refine awp_region rfl ?_
  first
    | refine sP (opp_loadP rfl rfl rfl rfl bi rfl ty26) rfl rfl ?_
    | refine sP (opp_loadF rfl rfl ty26) rfl rfl ?_
  refine sR (opr_call rfl rfl ent47 rfl (c47 _ hG4 hG8) (AViews.refl _ rfl)) rfl rfl rfl ?_ -- d=13 t=29
  refine sP (opp_as (v := .err _) rfl rfl) rfl rfl ?_
  refine awp_seq ?_
  refine awp_region rfl ?_
  refine sP (opp_mv (v := .err _) rfl rfl) rfl rfl ?_
  refine sP (opp_errNil rfl rfl rfl un29 (.inr ⟨rfl, rfl⟩)) rfl rfl ?_
  refine awp_cond _ rfl (fun hc4 => ?_) (fun hc4 => ?_)
  · (try simp only [cmpI, errD_nil, Bool.not_eq_true', Bool.not_eq_false', decide_eq_true_eq, decide_eq_false_iff_not] at hc4); have ht15 := hc4
    refine awp_seq ?_
    refine awp_region rfl ?_
    refine sP (opp_mv (v := .err _) rfl rfl) rfl rfl ?_
    refine sP (opp_as (v := .str _) rfl rfl) rfl rfl ?_
    refine sP (opp_as (v := .err _) rfl rfl) rfl rfl ?_
    refine awp_ret ?_
    repeat (first | refine athen_ret ?_ | refine ain_ret ?_)
    first
      | refine apost_ret (aend (l := [.str _, .err _]) (.tmp (.tmp .nil)) (fun h => by cases h) (.cons (.noN rfl rfl) (.cons (.noN rfl rfl) .nil)) ⟨Wk.v ?_, rfl, rfl⟩)
      | refine apost_ret (aends (l := [.str _, .err _]) (.tmp (.tmp .nil)) (fun h => by cases h) (.cons shut (fun h => by cases h) (.cons shut (fun h => by cases h) .nil)) rfl ⟨Wk.v ?_, rfl, rfl⟩)
    exact .refl
  · (try simp only [cmpI, errD_nil, Bool.not_eq_true', Bool.not_eq_false', decide_eq_true_eq, decide_eq_false_iff_not] at hc4); have ht15 := hc4
    exact absurd ht15 hc
theorem nums3 (a b c j : Nat) (hj : j < 3) (x : AV) : (if j = 2 then AV.int .i64 (c : Int) else if j = 1 then AV.int .i64 (b : Int) else if j = 0 then AV.int .i64 (a : Int) else x) = AV.int .i64 ((([a, b, c] : List Nat).getD j 0 : Nat) : Int) := by
  have : j = 0 ∨ j = 1 ∨ j = 2 := by omega
  rcases this with rfl | rfl | rfl <;> rfl
theorem cfine15 (k p bo pe nu st ix to su : Nat) (d : List UInt8) (hc : Sp.check ⟨k, p, ⟨bo, pe, nu⟩, st, ix, to, su, d⟩ = 0) (hs : su ≤ 4294967295) (hG4 : gl 4 = some (.err (.code 7))) (hG8 : gl 8 = some (.err (.code 4))) :
    APure (V ea cds gl) 15 [noteAV ⟨k, p, ⟨bo, pe, nu⟩, st, ix, to, su, d⟩] false (.tup [.str (Sp.crcSeal (Sp.noteBytes ⟨k, p, ⟨bo, pe, nu⟩, st, ix, to, su, d⟩)), .err .nil]) := by
  have hb := Sp.check_bounds hc
  dsimp only at hb
  refine acalls_of_body (N := 88) Tryd.func15 rfl rfl (Nat.le_of_ble_eq_true rfl) fun C hV hN hM hO => ?_
  obtain ⟨_, _, w0, G0, σ0, _, own0⟩ := C; dsimp only at hV hN hM hO; subst hV; subst hN; subst hM
  refine awp_seq ?_
  refine awp_region rfl ?_
  refine sR (opr_box (y := .agg _) (n := 1) rfl rfl rfl) rfl rfl rfl ?_
  refine sP (opp_as (v := .str _) rfl rfl) rfl rfl ?_
  refine sP (opp_as (v := .err _) rfl rfl) rfl rfl ?_
  refine awp_seq ?_
  refine awp_seq ?_
  refine awp_region rfl ?_
  first
    | refine sP (opp_loadP rfl rfl rfl rfl bi rfl ty26) rfl rfl ?_
    | refine sP (opp_loadF rfl rfl ty26) rfl rfl ?_
  refine sR (opr_call rfl rfl ent47 rfl (c47 _ hG4 hG8) (AViews.refl _ rfl)) rfl rfl rfl ?_ -- d=13 t=29
  refine sP (opp_as (v := .err _) rfl rfl) rfl rfl ?_
  refine awp_seq ?_
  refine awp_region rfl ?_
  refine sP (opp_mv (v := .err _) rfl rfl) rfl rfl ?_
  refine sP (opp_errNil rfl rfl rfl un29 (.inr ⟨rfl, rfl⟩)) rfl rfl ?_
  refine awp_cond _ rfl (fun hc4 => ?_) (fun hc4 => ?_)
  · (try simp only [cmpI, errD_nil, Bool.not_eq_true', Bool.not_eq_false', decide_eq_true_eq, decide_eq_false_iff_not] at hc4); have ht15 := hc4
    exact absurd hc ht15
  · (try simp only [cmpI, errD_nil, Bool.not_eq_true', Bool.not_eq_false', decide_eq_true_eq, decide_eq_false_iff_not] at hc4); have ht15 := hc4
    refine awp_skip ?_
    refine awp_seq ?_
    refine awp_region rfl ?_
    first
        | refine sR (opr_callO (rl := [(2, 17)]) (r1 := .val _) (H1 := [(17, some (.agg [.sl _ _ _ _, .err _]))]) (n1 := [17]) rfl rfl ent65 rfl co65 (AViews.refl _ rfl) rfl rfl rfl rfl) rfl rfl rfl ?_
        | refine sR (opr_callO (rl := [(2, 17)]) (r1 := .fptr _) (H1 := [(17, some (.agg [.sl _ _ _ _, .err _]))]) (n1 := [17]) rfl rfl ent65 rfl co65 (AViews.refl _ rfl) rfl rfl rfl rfl) rfl rfl rfl ?_
        | refine sR (opr_callO (rl := [(2, 17)]) (r1 := .ptr _ _ _) (H1 := [(17, some (.agg [.sl _ _ _ _, .err _]))]) (n1 := [17]) rfl rfl ent65 rfl co65 (AViews.refl _ rfl) rfl rfl rfl rfl) rfl rfl rfl ?_
    first
      | refine sP (opp_as (v := .ptr _ _ _) rfl rfl) rfl rfl ?_
      | refine sP (opp_as (v := .fptr _) rfl rfl) rfl rfl ?_
    refine awp_seq ?_
    refine awp_region rfl ?_
    first
      | refine sP (opp_mv (v := .ptr _ _ _) rfl rfl) rfl rfl ?_
      | refine sP (opp_mv (v := .fptr _) rfl rfl) rfl rfl ?_
    first
      | refine sP (opp_fieldP rfl rfl fld26_7 rfl) rfl rfl ?_
      | refine sP (opp_fieldF rfl rfl rfl fld26_7 rfl rfl) rfl rfl ?_
    first
      | refine sP (opp_loadP rfl rfl rfl rfl bi rfl ty9) rfl rfl ?_
      | refine sP (opp_loadF rfl rfl ty9) rfl rfl ?_
    refine sP (opp_lenStr rfl rfl un9) rfl rfl ?_
    first
      | refine sP (opp_arith rfl rfl rfl (.inl ⟨rfl, w64 (by omega)⟩)) rfl rfl ?_
      | refine sP (opp_arith rfl rfl rfl (.inl ⟨rfl, rfl⟩)) rfl rfl ?_
    rw [show IntKind.i64.wrap (27 + (d.length : Int)) = ((27 + d.length : Nat) : Int) by rw [w64 (by omega)]; omega]
    refine sR (opr_callG (rl := [(1, 17), (1004, 1023)]) (r1 := .tup []) (H1 := [(17, some (.agg [.osl 1023 _ _ _ _, .err _])), (1023, some (.arr _ _ _))]) (n1 := [1023]) rfl rfl ent66 (cg66n (27 + d.length) (by omega)) (And.intro (And.intro rfl wka) (And.intro (And.intro rfl wka) True.intro)) (And.intro (And.intro rfl (Exists.intro _ (And.intro rfl wkc))) True.intro) rfl rfl rfl rfl) rfl rfl rfl ?_
    refine awp_seq ?_
    refine awp_region rfl ?_
    first
      | refine sP (opp_mv (v := .ptr _ _ _) rfl rfl) rfl rfl ?_
      | refine sP (opp_mv (v := .fptr _) rfl rfl) rfl rfl ?_
    first
      | refine sP (opp_fieldP rfl rfl fld26_0 rfl) rfl rfl ?_
      | refine sP (opp_fieldF rfl rfl rfl fld26_0 rfl rfl) rfl rfl ?_
    first
      | refine sP (opp_loadP rfl rfl rfl rfl bi rfl ty3) rfl rfl ?_
      | refine sP (opp_loadF rfl rfl ty3) rfl rfl ?_
    refine sR (opr_callG (rl := [(1, 17), (2, 1023), (1004, 1027)]) (r1 := .tup []) (H1 := [(17, some (.agg [.osl 1027 _ _ _ _, .err _])), (1023, none), (1027, some (.arr _ _ _))]) (n1 := [1027]) rfl rfl ent67 (cg67r (Sp.be (27 + d.length) 2) k (by omega) (by rw [Sp.be_length]; omega)) (And.intro (And.intro rfl wka) (And.intro (And.intro rfl wka) True.intro)) (And.intro (And.intro rfl (Exists.intro _ (And.intro rfl wkc))) (And.intro (And.intro rfl (Exists.intro _ (And.intro rfl wkc))) True.intro)) rfl rfl rfl rfl) rfl rfl rfl ?_
    refine awp_seq ?_
    refine awp_region rfl ?_
    first
      | refine sP (opp_mv (v := .ptr _ _ _) rfl rfl) rfl rfl ?_
      | refine sP (opp_mv (v := .fptr _) rfl rfl) rfl rfl ?_
    first
      | refine sP (opp_fieldP rfl rfl fld26_1 rfl) rfl rfl ?_
      | refine sP (opp_fieldF rfl rfl rfl fld26_1 rfl rfl) rfl rfl ?_
    first
      | refine sP (opp_loadP rfl rfl rfl rfl bi rfl ty3) rfl rfl ?_
      | refine sP (opp_loadF rfl rfl ty3) rfl rfl ?_
    refine sR (opr_callG (rl := [(1, 17), (2, 1027), (1004, 1031)]) (r1 := .tup []) (H1 := [(17, some (.agg [.osl 1031 _ _ _ _, .err _])), (1027, none), (1031, some (.arr _ _ _))]) (n1 := [1031]) rfl rfl ent67 (cg67r (Sp.be (27 + d.length) 2 ++ Sp.be k 1) p (by omega) (by simp only [List.length_append, Sp.be_length]; omega)) (And.intro (And.intro rfl wka) (And.intro (And.intro rfl wka) True.intro)) (And.intro (And.intro rfl (Exists.intro _ (And.intro rfl wkc))) (And.intro (And.intro rfl (Exists.intro _ (And.intro rfl wkc))) True.intro)) rfl rfl rfl rfl) rfl rfl rfl ?_
    refine awp_seq ?_
    refine awp_seq ?_
    refine awp_region rfl ?_
    first
      | refine sP (opp_fieldP rfl rfl fld26_2 rfl) rfl rfl ?_
      | refine sP (opp_fieldF rfl rfl rfl fld26_2 rfl rfl) rfl rfl ?_
    first
      | refine sP (opp_fieldP rfl rfl fld23_0 rfl) rfl rfl ?_
      | refine sP (opp_fieldF rfl rfl rfl fld23_0 rfl rfl) rfl rfl ?_
    first
      | refine sP (opp_loadP rfl rfl rfl rfl bi rfl ty3) rfl rfl ?_
      | refine sP (opp_loadF rfl rfl ty3) rfl rfl ?_
    first
      | refine sP (opp_fieldP rfl rfl fld26_2 rfl) rfl rfl ?_
      | refine sP (opp_fieldF rfl rfl rfl fld26_2 rfl rfl) rfl rfl ?_
    first
      | refine sP (opp_fieldP rfl rfl fld23_1 rfl) rfl rfl ?_
      | refine sP (opp_fieldF rfl rfl rfl fld23_1 rfl rfl) rfl rfl ?_
    first
      | refine sP (opp_loadP rfl rfl rfl rfl bi rfl ty3) rfl rfl ?_
      | refine sP (opp_loadF rfl rfl ty3) rfl rfl ?_
    first
      | refine sP (opp_fieldP rfl rfl fld26_2 rfl) rfl rfl ?_
      | refine sP (opp_fieldF rfl rfl rfl fld26_2 rfl rfl) rfl rfl ?_
    first
      | refine sP (opp_fieldP rfl rfl fld23_2 rfl) rfl rfl ?_
      | refine sP (opp_fieldF rfl rfl rfl fld23_2 rfl rfl) rfl rfl ?_
    first
      | refine sP (opp_loadP rfl rfl rfl rfl bi rfl ty3) rfl rfl ?_
      | refine sP (opp_loadF rfl rfl ty3) rfl rfl ?_
    refine sR (opr_buildSlice (n := 41) (g := fun j => if j = 2 then .int _ _ else if j = 1 then .int _ _ else if j = 0 then .int _ _ else .int .i64 0) rfl eb42 z3 (by decide) rfl rfl) rfl rfl rfl ?_
    first
      | refine sP (opp_lenSl rfl rfl un42) rfl rfl ?_
      | refine sP (opp_lenOsl rfl rfl un42) rfl rfl ?_
    refine sP (opp_mv (v := .int _ _) rfl rfl) rfl rfl ?_
    refine awp_block ?_
    refine awp_loopK (ι := Nat) (fun i => i ≤ 3) (fun i => [(7, .top), (43, .int .i64 (i : Int)), (44, .top), (45, .top), (46, .top), (47, .top), (48, .top), (49, .top), (50, .top)]) (fun i => [(17, some (.agg [.osl 1200 1 0 (Sp.be (27 + d.length) 2 ++ Sp.be k 1 ++ Sp.be p 1 ++ Sp.bes 4 ([bo, pe, nu].take i)).length (Sp.be (27 + d.length) 2 ++ Sp.be k 1 ++ Sp.be p 1 ++ Sp.bes 4 ([bo, pe, nu].take i)).length, .err .nil])), (1031, none), (41, some (.arr 1 3 (fun j => .int .i64 ((([bo, pe, nu] : List Nat).getD j 0 : Nat) : Int)))), (1200, some (.arr 1 (Sp.be (27 + d.length) 2 ++ Sp.be k 1 ++ Sp.be p 1 ++ Sp.bes 4 ([bo, pe, nu].take i)).length (bAt (Sp.be (27 + d.length) 2 ++ Sp.be k 1 ++ Sp.be p 1 ++ Sp.bes 4 ([bo, pe, nu].take i)))))]) [1200] (fun i => 3 - i) (0) (Nat.zero_le _) (by
      refine imp_over [(1200, 1031)] rfl rfl (by kernel_rfl) ?_ ?_
      · refine And.intro wkv ?_
        refine And.intro wkv ?_
        refine And.intro wkv ?_
        refine And.intro wkv ?_
        refine And.intro wkv ?_
        refine And.intro wkv ?_
        refine And.intro wkv ?_
        refine And.intro wkv ?_
        refine And.intro wkv ?_
        exact True.intro
      · refine And.intro (And.intro rfl (And.intro rfl (Exists.intro _ (And.intro rfl (by exact WkC.of (by show AV.agg [AV.osl 1031 1 0 _ _, AV.err .nil] = AV.agg [AV.osl 1031 1 0 _ _, AV.err .nil]; simp [Sp.bes])))))) ?_
        refine And.intro (And.intro rfl (And.intro rfl (Exists.intro _ (And.intro rfl (by exact WkC.arr (fun j hj => nums3 _ _ _ j hj _)))))) ?_
        refine And.intro (And.intro rfl (And.intro rfl (Exists.intro _ (And.intro rfl (by exact WkC.of (by show AV.arr 1 _ _ = AV.arr 1 _ _; simp [Sp.bes])))))) ?_
        exact True.intro
      ) ?_
    intro i hi1
    refine awp_seq ?_
    refine awp_region rfl ?_
    refine sP (opp_cmp rfl rfl rfl rfl) rfl rfl ?_
    refine awp_seq ?_
    refine awp_cond _ rfl (fun hc11 => ?_) (fun hc11 => ?_)
    · (try simp only [cmpI, errD_nil, Bool.not_eq_true', Bool.not_eq_false', decide_eq_true_eq, decide_eq_false_iff_not] at hc11); have ht44 := hc11
      refine awp_skip ?_
      refine awp_seq ?_
      refine awp_block ?_
      refine awp_seq ?_
      refine awp_region rfl ?_
      first
        | refine sP (opp_indexSl rfl rfl rfl el42 (by omega) (by omega)) rfl rfl ?_
        | refine sP (opp_indexOsl0 rfl rfl rfl el42 (by omega) (by omega)) rfl rfl ?_
        | refine sP (opp_indexOsl rfl rfl rfl el42 (by omega) (by omega)) rfl rfl ?_
      first
        | refine sP (opp_loadP rfl rfl rfl rfl bi rfl ty3) rfl rfl ?_
        | refine sP (opp_loadF rfl rfl ty3) rfl rfl ?_
      refine sP (opp_as (v := .int _ _) rfl rfl) rfl rfl ?_
      refine awp_region rfl ?_
      have hx : (([bo, pe, nu] : List Nat).getD i 0) < 4294967296 := by
        have : i = 0 ∨ i = 1 ∨ i = 2 := by omega
        rcases this with rfl | rfl | rfl <;> simp <;> omega
      first
        | refine sP (opp_mv (v := .ptr _ _ _) rfl rfl) rfl rfl ?_
        | refine sP (opp_mv (v := .fptr _) rfl rfl) rfl rfl ?_
      refine sP (opp_mv (v := .int _ _) rfl rfl) rfl rfl ?_
      refine sR (opr_callG (rl := [(1, 17), (2, 1200), (1004, 1049)]) (r1 := .tup []) (H1 := [(17, some (.agg [.osl 1049 _ _ _ _, .err _])), (1200, none), (1049, some (.arr _ _ _))]) (n1 := [1049]) rfl rfl ent68 (cg68r (Sp.be (27 + d.length) 2 ++ Sp.be k 1 ++ Sp.be p 1 ++ Sp.bes 4 ([bo, pe, nu].take i)) (([bo, pe, nu] : List Nat).getD i 0) hx (by simp only [List.length_append, Sp.be_length, Sp.bes_length, List.length_take]; omega)) (And.intro (And.intro rfl wka) (And.intro (And.intro rfl wka) True.intro)) (And.intro (And.intro rfl (Exists.intro _ (And.intro rfl wkc))) (And.intro (And.intro rfl (Exists.intro _ (And.intro rfl wkc))) True.intro)) rfl rfl rfl rfl) rfl rfl rfl ?_
      refine awp_region rfl ?_
      first
        | refine sP (opp_arith rfl rfl rfl (.inl ⟨rfl, w64 (by omega)⟩)) rfl rfl ?_
        | refine sP (opp_arith rfl rfl rfl (.inl ⟨rfl, rfl⟩)) rfl rfl ?_
      refine sP (opp_mv (v := .int _ _) rfl rfl) rfl rfl ?_
      refine Exists.intro (i + 1) (And.intro (And.intro (by omega) (by omega)) (by
        refine imp_over [(1200, 1049)] rfl rfl (by kernel_rfl) ?_ ?_
        · refine And.intro wkv ?_
          refine And.intro wkv ?_
          refine And.intro wkv ?_
          refine And.intro wkv ?_
          refine And.intro wkv ?_
          refine And.intro wkv ?_
          refine And.intro wkv ?_
          refine And.intro wkv ?_
          refine And.intro wkv ?_
          exact True.intro
        · refine And.intro (And.intro rfl (And.intro rfl (Exists.intro _ (And.intro rfl (by exact WkC.of (by show AV.agg [AV.osl 1049 1 0 _ _, AV.err .nil] = AV.agg [AV.osl 1049 1 0 _ _, AV.err .nil]; rw [Sp.bes_take 4 [bo, pe, nu] i (by show i < 3; omega)]; simp only [List.append_assoc])))))) ?_
          refine And.intro (And.intro rfl (And.intro rfl (Exists.intro _ (And.intro rfl wkc)))) ?_
          refine And.intro (And.intro rfl (And.intro rfl (Exists.intro _ (And.intro rfl (by exact WkC.of (by show AV.arr 1 _ _ = AV.arr 1 _ _; rw [Sp.bes_take 4 [bo, pe, nu] i (by show i < 3; omega)]; simp only [List.append_assoc])))))) ?_
          exact True.intro
        ))
    · (try simp only [cmpI, errD_nil, Bool.not_eq_true', Bool.not_eq_false', decide_eq_true_eq, decide_eq_false_iff_not] at hc11); have ht44 := hc11
      refine awp_exit ?_
      refine awp_seq ?_
      refine awp_seq ?_
      obtain rfl : i = 3 := by omega
      refine awp_region rfl ?_
      first
        | refine sP (opp_fieldP rfl rfl fld26_3 rfl) rfl rfl ?_
        | refine sP (opp_fieldF rfl rfl rfl fld26_3 rfl rfl) rfl rfl ?_
      first
        | refine sP (opp_loadP rfl rfl rfl rfl bi rfl ty3) rfl rfl ?_
        | refine sP (opp_loadF rfl rfl ty3) rfl rfl ?_
      first
        | refine sP (opp_fieldP rfl rfl fld26_4 rfl) rfl rfl ?_
        | refine sP (opp_fieldF rfl rfl rfl fld26_4 rfl rfl) rfl rfl ?_
      first
        | refine sP (opp_loadP rfl rfl rfl rfl bi rfl ty3) rfl rfl ?_
        | refine sP (opp_loadF rfl rfl ty3) rfl rfl ?_
      first
        | refine sP (opp_fieldP rfl rfl fld26_5 rfl) rfl rfl ?_
        | refine sP (opp_fieldF rfl rfl rfl fld26_5 rfl rfl) rfl rfl ?_
      first
        | refine sP (opp_loadP rfl rfl rfl rfl bi rfl ty3) rfl rfl ?_
        | refine sP (opp_loadF rfl rfl ty3) rfl rfl ?_
      refine sR (opr_buildSlice (n := 57) (g := fun j => if j = 2 then .int _ _ else if j = 1 then .int _ _ else if j = 0 then .int _ _ else .int .i64 0) rfl eb42 z3 (by decide) rfl rfl) rfl rfl rfl ?_
      first
        | refine sP (opp_lenSl rfl rfl un42) rfl rfl ?_
        | refine sP (opp_lenOsl rfl rfl un42) rfl rfl ?_
      refine sP (opp_mv (v := .int _ _) rfl rfl) rfl rfl ?_
      refine awp_block ?_
      refine awp_loopK (ι := Nat) (fun i => i ≤ 3) (fun i => [(9, .top), (59, .int .i64 (i : Int)), (60, .top), (61, .top), (62, .top), (63, .top), (64, .top), (65, .top), (66, .top)]) (fun i => [(17, some (.agg [.osl 1300 1 0 (Sp.be (27 + d.length) 2 ++ Sp.be k 1 ++ Sp.be p 1 ++ Sp.bes 4 [bo, pe, nu] ++ Sp.bes 1 ([st, ix, to].take i)).length (Sp.be (27 + d.length) 2 ++ Sp.be k 1 ++ Sp.be p 1 ++ Sp.bes 4 [bo, pe, nu] ++ Sp.bes 1 ([st, ix, to].take i)).length, .err .nil])), (1200, none), (57, some (.arr 1 3 (fun j => .int .i64 ((([st, ix, to] : List Nat).getD j 0 : Nat) : Int)))), (1300, some (.arr 1 (Sp.be (27 + d.length) 2 ++ Sp.be k 1 ++ Sp.be p 1 ++ Sp.bes 4 [bo, pe, nu] ++ Sp.bes 1 ([st, ix, to].take i)).length (bAt (Sp.be (27 + d.length) 2 ++ Sp.be k 1 ++ Sp.be p 1 ++ Sp.bes 4 [bo, pe, nu] ++ Sp.bes 1 ([st, ix, to].take i)))))]) [1300] (fun i => 3 - i) (0) (Nat.zero_le _) (by
        refine imp_over [(1300, 1200)] rfl rfl (by kernel_rfl) ?_ ?_
        · refine And.intro wkv ?_
          refine And.intro wkv ?_
          refine And.intro wkv ?_
          refine And.intro wkv ?_
          refine And.intro wkv ?_
          refine And.intro wkv ?_
          refine And.intro wkv ?_
          refine And.intro wkv ?_
          refine And.intro wkv ?_
          exact True.intro
        · refine And.intro (And.intro rfl (And.intro rfl (Exists.intro _ (And.intro rfl (by exact WkC.of (by show AV.agg [AV.osl 1200 1 0 _ _, AV.err .nil] = AV.agg [AV.osl 1200 1 0 _ _, AV.err .nil]; simp [Sp.bes])))))) ?_
          refine And.intro (And.intro rfl (And.intro rfl (Exists.intro _ (And.intro rfl (by exact WkC.arr (fun j hj => nums3 _ _ _ j hj _)))))) ?_
          refine And.intro (And.intro rfl (And.intro rfl (Exists.intro _ (And.intro rfl (by exact WkC.of (by show AV.arr 1 _ _ = AV.arr 1 _ _; simp [Sp.bes])))))) ?_
          exact True.intro
        ) ?_
      intro i hi2
      refine awp_seq ?_
      refine awp_region rfl ?_
      refine sP (opp_cmp rfl rfl rfl rfl) rfl rfl ?_
      refine awp_seq ?_
      refine awp_cond _ rfl (fun hc17 => ?_) (fun hc17 => ?_)
      · (try simp only [cmpI, errD_nil, Bool.not_eq_true', Bool.not_eq_false', decide_eq_true_eq, decide_eq_false_iff_not] at hc17); have ht60 := hc17
        refine awp_skip ?_
        refine awp_seq ?_
        refine awp_block ?_
        refine awp_seq ?_
        refine awp_region rfl ?_
        first
          | refine sP (opp_indexSl rfl rfl rfl el42 (by omega) (by omega)) rfl rfl ?_
          | refine sP (opp_indexOsl0 rfl rfl rfl el42 (by omega) (by omega)) rfl rfl ?_
          | refine sP (opp_indexOsl rfl rfl rfl el42 (by omega) (by omega)) rfl rfl ?_
        first
          | refine sP (opp_loadP rfl rfl rfl rfl bi rfl ty3) rfl rfl ?_
          | refine sP (opp_loadF rfl rfl ty3) rfl rfl ?_
        refine sP (opp_as (v := .int _ _) rfl rfl) rfl rfl ?_
        refine awp_region rfl ?_
        have hx : (([st, ix, to] : List Nat).getD i 0) < 256 := by
          have : i = 0 ∨ i = 1 ∨ i = 2 := by omega
          rcases this with rfl | rfl | rfl <;> simp <;> omega
        first
          | refine sP (opp_mv (v := .ptr _ _ _) rfl rfl) rfl rfl ?_
          | refine sP (opp_mv (v := .fptr _) rfl rfl) rfl rfl ?_
        refine sP (opp_mv (v := .int _ _) rfl rfl) rfl rfl ?_
        refine sR (opr_callG (rl := [(1, 17), (2, 1300), (1004, 1065)]) (r1 := .tup []) (H1 := [(17, some (.agg [.osl 1065 _ _ _ _, .err _])), (1300, none), (1065, some (.arr _ _ _))]) (n1 := [1065]) rfl rfl ent67 (cg67r (Sp.be (27 + d.length) 2 ++ Sp.be k 1 ++ Sp.be p 1 ++ Sp.bes 4 [bo, pe, nu] ++ Sp.bes 1 ([st, ix, to].take i)) (([st, ix, to] : List Nat).getD i 0) hx (by simp only [List.length_append, Sp.be_length, Sp.bes_length, List.length_take, List.length_cons, List.length_nil]; omega)) (And.intro (And.intro rfl wka) (And.intro (And.intro rfl wka) True.intro)) (And.intro (And.intro rfl (Exists.intro _ (And.intro rfl wkc))) (And.intro (And.intro rfl (Exists.intro _ (And.intro rfl wkc))) True.intro)) rfl rfl rfl rfl) rfl rfl rfl ?_
        refine awp_region rfl ?_
        first
          | refine sP (opp_arith rfl rfl rfl (.inl ⟨rfl, w64 (by omega)⟩)) rfl rfl ?_
          | refine sP (opp_arith rfl rfl rfl (.inl ⟨rfl, rfl⟩)) rfl rfl ?_
        refine sP (opp_mv (v := .int _ _) rfl rfl) rfl rfl ?_
        refine Exists.intro (i + 1) (And.intro (And.intro (by omega) (by omega)) (by
          refine imp_over [(1300, 1065)] rfl rfl (by kernel_rfl) ?_ ?_
          · refine And.intro wkv ?_
            refine And.intro wkv ?_
            refine And.intro wkv ?_
            refine And.intro wkv ?_
            refine And.intro wkv ?_
            refine And.intro wkv ?_
            refine And.intro wkv ?_
            refine And.intro wkv ?_
            refine And.intro wkv ?_
            exact True.intro
          · refine And.intro (And.intro rfl (And.intro rfl (Exists.intro _ (And.intro rfl (by exact WkC.of (by show AV.agg [AV.osl 1065 1 0 _ _, AV.err .nil] = AV.agg [AV.osl 1065 1 0 _ _, AV.err .nil]; rw [Sp.bes_take 1 [st, ix, to] i (by show i < 3; omega)]; simp only [List.append_assoc])))))) ?_
            refine And.intro (And.intro rfl (And.intro rfl (Exists.intro _ (And.intro rfl wkc)))) ?_
            refine And.intro (And.intro rfl (And.intro rfl (Exists.intro _ (And.intro rfl (by exact WkC.of (by show AV.arr 1 _ _ = AV.arr 1 _ _; rw [Sp.bes_take 1 [st, ix, to] i (by show i < 3; omega)]; simp only [List.append_assoc])))))) ?_
            exact True.intro
          ))
      · (try simp only [cmpI, errD_nil, Bool.not_eq_true', Bool.not_eq_false', decide_eq_true_eq, decide_eq_false_iff_not] at hc17); have ht60 := hc17
        refine awp_exit ?_
        refine awp_seq ?_
        obtain rfl : i = 3 := by omega
        refine awp_region rfl ?_
        first
          | refine sP (opp_mv (v := .ptr _ _ _) rfl rfl) rfl rfl ?_
          | refine sP (opp_mv (v := .fptr _) rfl rfl) rfl rfl ?_
        first
          | refine sP (opp_fieldP rfl rfl fld26_6 rfl) rfl rfl ?_
          | refine sP (opp_fieldF rfl rfl rfl fld26_6 rfl rfl) rfl rfl ?_
        first
          | refine sP (opp_loadP rfl rfl rfl rfl bi rfl ty24) rfl rfl ?_
          | refine sP (opp_loadF rfl rfl ty24) rfl rfl ?_
        first
          | refine sP (opp_convInt rfl rfl un24s un3 (w64 (by omega))) rfl rfl ?_
          | refine sP (opp_convInt rfl rfl un24s un3 rfl) rfl rfl ?_
        rw [show IntKind.i64.wrap (su : Int) = (su : Int) from w64 (by omega)]
        refine sR (opr_callG (rl := [(1, 17), (2, 1300), (1004, 1071)]) (r1 := .tup []) (H1 := [(17, some (.agg [.osl 1071 _ _ _ _, .err _])), (1300, none), (1071, some (.arr _ _ _))]) (n1 := [1071]) rfl rfl ent68 (cg68r (Sp.be (27 + d.length) 2 ++ Sp.be k 1 ++ Sp.be p 1 ++ Sp.bes 4 [bo, pe, nu] ++ Sp.bes 1 [st, ix, to]) su (by omega) (by simp only [List.length_append, Sp.be_length, Sp.bes_length, List.length_cons, List.length_nil]; omega)) (And.intro (And.intro rfl wka) (And.intro (And.intro rfl wka) True.intro)) (And.intro (And.intro rfl (Exists.intro _ (And.intro rfl wkc))) (And.intro (And.intro rfl (Exists.intro _ (And.intro rfl wkc))) True.intro)) rfl rfl rfl rfl) rfl rfl rfl ?_
        refine awp_seq ?_
        refine awp_region rfl ?_
        first
          | refine sP (opp_mv (v := .ptr _ _ _) rfl rfl) rfl rfl ?_
          | refine sP (opp_mv (v := .fptr _) rfl rfl) rfl rfl ?_
        first
          | refine sP (opp_fieldP rfl rfl fld26_7 rfl) rfl rfl ?_
          | refine sP (opp_fieldF rfl rfl rfl fld26_7 rfl rfl) rfl rfl ?_
        first
          | refine sP (opp_loadP rfl rfl rfl rfl bi rfl ty9) rfl rfl ?_
          | refine sP (opp_loadF rfl rfl ty9) rfl rfl ?_
        refine sR (opr_strBytes (n := 75) rfl rfl un9 un36 unu8) rfl rfl rfl ?_
        refine sR (opr_callG (rl := [(1, 17), (2, 1071), (3, 75), (1004, 1076)]) (r1 := .tup []) (H1 := [(17, some (.agg [.osl 1076 _ _ _ _, .err _])), (1071, none), (75, none), (1076, some (.arr _ _ _))]) (n1 := [1076]) rfl rfl ent69 (cg69o (Sp.be (27 + d.length) 2 ++ Sp.be k 1 ++ Sp.be p 1 ++ Sp.bes 4 [bo, pe, nu] ++ Sp.bes 1 [st, ix, to] ++ Sp.be su 4) d (by simp only [List.length_append, Sp.be_length, Sp.bes_length, List.length_cons, List.length_nil]; omega) (by omega)) (And.intro (And.intro rfl wka) (And.intro (And.intro rfl wka) True.intro)) (And.intro (And.intro rfl (Exists.intro _ (And.intro rfl wkc))) (And.intro (And.intro rfl (Exists.intro _ (And.intro rfl wkc))) (And.intro (And.intro rfl (Exists.intro _ (And.intro rfl wkc))) True.intro))) rfl rfl rfl rfl) rfl rfl rfl ?_
        refine awp_seq ?_
        refine awp_region rfl ?_
        first
          | refine sP (opp_mv (v := .ptr _ _ _) rfl rfl) rfl rfl ?_
          | refine sP (opp_mv (v := .fptr _) rfl rfl) rfl rfl ?_
        refine sR (opr_callG (rl := [(1, 17), (2, 1076)]) (r1 := .tup [.sl _ _ _ _, .err _]) (H1 := [(17, some (.agg [.osl 1076 _ _ _ _, .err _])), (1076, some (.arr _ _ _))]) (n1 := []) rfl rfl ent70 (cg70r (Sp.be (27 + d.length) 2 ++ Sp.be k 1 ++ Sp.be p 1 ++ Sp.bes 4 [bo, pe, nu] ++ Sp.bes 1 [st, ix, to] ++ Sp.be su 4 ++ d) (by simp only [List.length_append, Sp.be_length, Sp.bes_length, List.length_cons, List.length_nil]; omega)) (And.intro (And.intro rfl wka) True.intro) (And.intro (And.intro rfl (Exists.intro _ (And.intro rfl wkc))) (And.intro (And.intro rfl (Exists.intro _ (And.intro rfl wkc))) True.intro)) rfl rfl rfl rfl) rfl rfl rfl ?_
        refine sP (opp_mv (v := .tup _) rfl rfl) rfl rfl ?_
        refine sP (opp_extract rfl rfl rfl) rfl rfl ?_
        refine sP (opp_extract rfl rfl rfl) rfl rfl ?_
        first
          | refine sP (opp_as (v := .sl _ _ _ _) rfl rfl) rfl rfl ?_
          | refine sP (opp_as (v := .osl _ _ _ _ _) rfl rfl) rfl rfl ?_
        refine sP (opp_as (v := .err _) rfl rfl) rfl rfl ?_
        refine awp_seq ?_
        refine awp_seq ?_
        refine awp_region rfl ?_
        refine sP (opp_mv (v := .err _) rfl rfl) rfl rfl ?_
        refine sP (opp_errNil rfl rfl rfl un29 (.inr ⟨rfl, rfl⟩)) rfl rfl ?_
        refine awp_cond _ rfl (fun hc25 => ?_) (fun hc25 => ?_)
        · (try simp only [cmpI, errD_nil, Bool.not_eq_true', Bool.not_eq_false', decide_eq_true_eq, decide_eq_false_iff_not] at hc25); have ht83 := hc25
          exact absurd ht83 (by decide)
        · (try simp only [cmpI, errD_nil, Bool.not_eq_true', Bool.not_eq_false', decide_eq_true_eq, decide_eq_false_iff_not] at hc25); have ht83 := hc25
          refine awp_skip ?_
          refine awp_seq ?_
          refine awp_region rfl ?_
          first
            | refine sP (opp_mv (v := .sl _ _ _ _) rfl rfl) rfl rfl ?_
            | refine sP (opp_mv (v := .osl _ _ _ _ _) rfl rfl) rfl rfl ?_
          refine sR (opr_call rfl rfl ent71 rfl (c71 (Sp.be (27 + d.length) 2 ++ Sp.be k 1 ++ Sp.be p 1 ++ Sp.bes 4 [bo, pe, nu] ++ Sp.bes 1 [st, ix, to] ++ Sp.be su 4 ++ d) (by simp only [List.length_append, Sp.be_length, Sp.bes_length, List.length_cons, List.length_nil]; omega)) (AViews.refl _ rfl)) rfl rfl rfl ?_ -- d=86 t=36
          refine sP (opp_bytesStr rfl rfl _ rfl (fun j hj => rfl) un36 unu8 un9) rfl rfl ?_
          refine sP (opp_as (v := .str _) rfl rfl) rfl rfl ?_
          refine sP (opp_as (v := .err _) rfl rfl) rfl rfl ?_
          refine awp_ret ?_
          repeat (first | refine athen_ret ?_ | refine ain_ret ?_)
          first
            | refine apost_ret (aend (l := [.str _, .err _]) (.tmp (.tmp .nil)) (fun h => by cases h) (.cons (.noN rfl rfl) (.cons (.noN rfl rfl) .nil)) ⟨Wk.v ?_, rfl, rfl⟩)
            | refine apost_ret (aends (l := [.str _, .err _]) (.tmp (.tmp .nil)) (fun h => by cases h) (.cons shut (fun h => by cases h) (.cons shut (fun h => by cases h) .nil)) rfl ⟨Wk.v ?_, rfl, rfl⟩)
          refine .of ?_
          have e : Sp.be (27 + d.length) 2 ++ Sp.be k 1 ++ Sp.be p 1 ++ Sp.bes 4 [bo, pe, nu] ++ Sp.bes 1 [st, ix, to] ++ Sp.be su 4 ++ d = Sp.noteBytes ⟨k, p, ⟨bo, pe, nu⟩, st, ix, to, su, d⟩ := by
            simp [Sp.noteBytes, Sp.bes]
          rw [e]
theorem c15 (n : Note) (hs : 0 ≤ n.sum ∧ n.sum ≤ 4294967295) (hG4 : gl 4 = some (.err (.code 7))) (hG8 : gl 8 = some (.err (.code 4))) : APure (V ea cds gl) 15 [noteAV n] false (.tup [.str (Sp.put n).1, .err (errD (Sp.put n).2)]) := by
  by_cases hc : Sp.check n = 0
  · have hb := Sp.check_bounds hc
    obtain ⟨kind, part, ⟨boot, peer, num⟩, stage, index, total, sum, data⟩ := n
    dsimp only at hb hs
    obtain ⟨k, rfl⟩ := Int.eq_ofNat_of_zero_le (show 0 ≤ kind by omega)
    obtain ⟨p, rfl⟩ := Int.eq_ofNat_of_zero_le (show 0 ≤ part by omega)
    obtain ⟨bo, rfl⟩ := Int.eq_ofNat_of_zero_le (show 0 ≤ boot by omega)
    obtain ⟨pe, rfl⟩ := Int.eq_ofNat_of_zero_le (show 0 ≤ peer by omega)
    obtain ⟨nu, rfl⟩ := Int.eq_ofNat_of_zero_le (show 0 ≤ num by omega)
    obtain ⟨st, rfl⟩ := Int.eq_ofNat_of_zero_le (show 0 ≤ stage by omega)
    obtain ⟨ix, rfl⟩ := Int.eq_ofNat_of_zero_le (show 0 ≤ index by omega)
    obtain ⟨to, rfl⟩ := Int.eq_ofNat_of_zero_le (show 0 ≤ total by omega)
    obtain ⟨su, rfl⟩ := Int.eq_ofNat_of_zero_le hs.1
    rw [Sp.put, if_neg (by simpa using hc)]
    exact cfine15 k p bo pe nu st ix to su data hc (by omega) hG4 hG8
  · rw [Sp.put, if_pos hc]
    exact cbad15 n hc hG4 hG8
end
end Go.Proofs.YtgaihhimkodmmaaDoor
